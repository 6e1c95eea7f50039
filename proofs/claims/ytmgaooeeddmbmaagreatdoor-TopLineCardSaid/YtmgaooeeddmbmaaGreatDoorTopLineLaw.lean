/- The statement TopLine: the law returns true at every input, and writes nothing that was there; the card ties what its listed variable holds to the program's text. Conditions: the row's own (what it lists is laid). -/
import Derived.Test.YtmgaooeeddmbmaaGreatDoorRows
import Derived.Test.YtmgaooeeddmbmaaGreatDoorCards
import Derived.Test.YtmgaooeeddmbmaaGreatDoorTie
import Derived.Test.YtmgaooeeddmbmaaGreatDoorEngI
import Derived.Test.YtmgaooeeddmbmaaGreatDoorRtiJ
import Derived.WalkKit
import Derived.ProofKit
import Derived.OpenShut
import Derived.ShutString
import Derived.ChangeOld
import Derived.Below
import Derived.ChangeSame
import Derived.ChangeVars
import Derived.JoinedOf
import Derived.RowKitTokens
import Derived.LaidLaws
import Derived.LaidHandle
import Derived.SizedLaws
import Derived.Deep.Slices
import Derived.SevenTiedAt
namespace Go.Proofs.YtmgaooeeddmbmaaGreatDoor.topLine
open Go.ChangeShapes Go.WideShapes Go.ChangeAt Go.RowKit Go.E Go.Deep
set_option linter.unusedVariables false

theorem own : ownKnob Tryz.prog.godebug = none := by kernel_rfl
theorem laidOut : laidOutB Tryz.prog = true := by kernel_rfl

set_option maxRecDepth 100000 in
theorem walk (W : World) {v0 : Value} {l0 : List Int} (r0 : ∀ g, Old W g → rdS 1 (intsK .u8) v0 l0 g) (w0 : ∀ m ∈ l0, (Lit.int .u8 m).wf = true) (n0 : l0.length ≤ 140737488355328) :
    Calls Tryz.prog 3 #[v0] W fun e w' => e = .returned (.bool true) ∧ Below W.heap.size W w' :=
  Calls.mono (Cl.ret (by kernel_rfl) (topLine_s (K := fun v w' => v = .bool true ∧ Below W.heap.size W w') (Sat.start W) r0 w0 n0 (fun w' h => ⟨rfl, h.below⟩))) fun e w' ⟨v, he, hv, hb⟩ => ⟨by rw [he, hv], hb⟩

/-- A world that meets the row's condition: the settled one, the variable's cell laid. -/
noncomputable def laidWorld (os : Os) : World :=
  let w0 := World.holding Tryz.prog os ⟨#[], #[], []⟩
  { w0 with heap := w0.heap.modify 0 fun
      | .cells _ t frozen => .cells #[.iface 142 (.agg #[.pointer (some ⟨1, 58, none⟩)])] t frozen
      | o => o }
theorem laidWorld_met (os : Os) (args : Array Value) : laidMetH Tryz.prog Rows.topLineRow.laid ((laidWorld os).forCall (fun _ _ => 0) ⟨#[], args, []⟩).memory :=
  laidMetH_of_parts (laidMet_nil _ _) (by kernel_rfl)

set_option maxRecDepth 100000 in
theorem lifted (os : Os) (started : os.Started) (H : Type) (enc : TypeId × Value → H) :
    ReturnsInHanded {} Tryz.checked os 3 .any (fun w args => (Rows.topLineSpec.pre enc Tryz.prog Tryz.f3 [] false w args ∧ laidMetH Tryz.prog Rows.topLineRow.laid w) ∧ sizedMet enc Tryz.prog Tryz.f3 (OpenSpec.ofChange Rows.topLineSpec) false w args)
      (Rows.topLineSpec.post enc Tryz.prog Tryz.f3 false true false false) := by
  refine returnsInHanded_of_change_and (C := Tryz.checked) (X := fun w _ => laidMetH Tryz.prog Rows.topLineRow.laid w) (fun _ _ _ hh h => h.of_heap hh) own started (by kernel_rfl) Tryz.func3
    (ChangeSpec.witness_at (enc := enc) (C := Tryz.checked) (os := os) (X := fun w _ => laidMetH Tryz.prog Rows.topLineRow.laid w) false (laidWorld os) #[.slice none 0 0] 20 rfl (by kernel_rfl) (by kernel_rfl) (by kernel_rfl) (by kernel_rfl) (by kernel_rfl) (laidWorld_met os _)) ?_
  intro W base args ds gs before hval0 hW _ hsz _ _
  have hval : ∀ (j : Nat) t v, Tryz.f3.params[j]? = some t → args[j]? = some v → Value.okWide Tryz.prog W .any base t v := hval0
  have hW' := hW
  obtain ⟨p, q, hA0, hV, rfl, hfz, hnd⟩ := hW
  have hA : DataW.TrodAll enc Tryz.prog W 0 (fun _ => true) true Tryz.f3.params.toList args.toList ds p := hA0
  rw [Tryz.params3] at hA hval
  obtain ⟨v0, vs0, d0, ds0, p0, q0, hargs, rfl, rfl, h0, r0⟩ := trodAll_cons hA
  obtain ⟨rfl, rfl, rfl⟩ := trodAll_nil r0
  obtain rfl : args = #[v0] := by cases args; simp_all
  obtain ⟨rfl, rfl⟩ := trodVars_none hV
  have k0 := h0
  have lt0 : ∀ x ∈ p0, x.block < W.heap.size := by obtain ⟨m, hm⟩ := k0; exact DataW.trod_lt m _ _ _ hm
  obtain ⟨a0, len0, cap0, e0⟩ := okWide_slice Tryz.underlying22 (hval 0 22 v0 rfl rfl)
  obtain ⟨l0, wl0, rl0⟩ := open_intsK (k := .u8) und_22 Tryz.underlying5 (by kernel_rfl) e0 h0
  have hlen : l0.length ≤ 140737488355328 := by
    obtain ⟨fuel, hf⟩ := h0
    obtain ⟨A, c, hv, _⟩ := rl0 (hp W) (fun _ _ => rfl)
    rw [hv] at hf
    have hf' : DataW.trod enc Tryz.prog W 0 (fun _ => true) true fuel 22 [.slice A l0.length c] = some (d0, p0) := hf
    rcases open_slice und_22 hf' with ⟨hcs, _⟩ | ⟨a', len', cap', m, k', D, Pl, hcs, _, _, _, _, hx, _⟩
    · injection hcs with hcs _
      injection hcs with e1 e2 e3
      omega
    · injection hcs with hcs _
      injection hcs with e1 e2 e3
      have hd : d0 = .slice ((List.range len').map D) ((List.range (m - len')).map fun j => D (len' + j)) := congrArg Prod.fst hx
      have hs := sized_slice hsz (j := 0) (t := 22) rfl (by rw [hd]; rfl) und_22
      rw [show Tryz.checked.prog.bytesOf 5 = 1 from by kernel_rfl, List.length_map, List.length_range] at hs
      have := reachBytes_lt
      omega
  clear hA0 hval0
  refine (walk W rl0 wl0 hlen).mono fun e W' ⟨he, bel⟩ => ?_
  subst he
  exact ⟨_, rfl, _, _, _, [], _, [], hW', trodAll_mk1 (shut_bool Tryz.underlying4 _), (trodAll_cons_mk (Below.trod laidOut (by kernel_rfl) (of_decide_eq_true (by kernel_rfl)) k0 bel lt0) trodAll_mk0), rfl, bel.frame _, fun h => by cases h⟩

theorem g1 : laidOutB Tryz.pinned.checked.prog = true := by kernel_rfl
theorem g2 : mapsRowed Tryz.pinned.checked.prog = true := by kernel_rfl
theorem g3 : (Rows.topLineRow.inPlace == Tryz.pinned.checked.prog.inPlace 3) = true := by kernel_rfl
theorem g4 : (Rows.topLineRow.unfollowed == Tryz.pinned.checked.prog.unfollowed 3) = true := by kernel_rfl
theorem g5 : (Rows.topLineRow.recurses == Tryz.pinned.checked.prog.recurses 3) = true := by kernel_rfl
theorem g6 : (Rows.topLineRow.named == Tryz.pinned.checked.prog.varsNamed 3) = true := by kernel_rfl
set_option maxRecDepth 100000 in
theorem closed : joinedFacts Tryz.pinned.checked.prog 3 Tryz.f3 Rows.topLineSpec Rows.topLineRow = true := by
  unfold joinedFacts
  rw [g1, g2, g3, g4, g5, g6]
  kernel_rfl

theorem over : Rows.topLineRow.holds Tryz.pinned (OpenSpec.ofChange Rows.topLineSpec) :=
  OpenClaim.holds_of_wide 3 Tryz.f3 rfl rfl rfl rfl rfl rfl rfl ⟨rfl, rfl, rfl, rfl, rfl⟩ rfl rfl rfl rfl rfl (by kernel_rfl) Tryz.func3 closed
    (of_decide_eq_true (by kernel_rfl)) (by unfold Func.isWrapper; first | (rw [if_pos (by decide +kernel)]; kernel_rfl) | (rw [if_neg (by decide +kernel)]; exact ⟨rfl, rfl⟩))
    (fun os started H enc _ => lifted os started H enc)

/-- The statement: the row, its one listed variable tied to the program's text. -/
theorem proved : Rows.TopLineCardSaid :=
  Claim7.holds_tied_plain_at .later [] [.handle] true (true, "742241c0c1e322d9c22f179623f171710c33befbe64f77847ebbe19d1b82b217") true
    over (fun _ h => by cases h) (by kernel_rfl) (fun _ h => by cases h) topLine_row_tie rfl ⟨rfl, rfl⟩ (by kernel_rfl) rfl
    (fun f fn hf hfn => by
      obtain rfl : f = 3 := Option.some.inj ((show Tryz.prog.funcNamed "paceline/pacelinetop.TopLine" = some 3 by kernel_rfl).symm.trans hf) |>.symm
      obtain rfl : fn = Tryz.f3 := (Option.some.inj (Tryz.func3.symm.trans hfn)).symm
      exact ⟨by kernel_rfl, fun j t ht => by
        rw [Tryz.params3] at ht
        have h3 : t = 22 := by
          rcases j with _ | j
          · simpa using ht.symm
          · simp at ht
        subst h3
        exact (show Tryz.prog.wantsStandIn 22 = false by kernel_rfl)⟩)
    (by kernel_rfl)
#print axioms proved
end Go.Proofs.YtmgaooeeddmbmaaGreatDoor.topLine
