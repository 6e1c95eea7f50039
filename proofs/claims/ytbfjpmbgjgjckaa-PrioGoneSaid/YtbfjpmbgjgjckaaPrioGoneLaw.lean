/- The statement PrioGone: the law returns true at every input, and writes nothing that was there. Conditions: none. -/
import Derived.Test.YtbfjpmbgjgjckaaRows
import Derived.Test.YtbfjpmbgjgjckaaEngI
import Derived.Test.YtbfjpmbgjgjckaaPrioW
import Derived.WalkKit
import Derived.ProofKit
import Derived.OpenShut
import Derived.ShutString
import Derived.ChangeOld
import Derived.Below
namespace Go.Proofs.Ytbfjpmbgjgjckaa.prioGone
open Go.ChangeShapes Go.WideShapes Go.ChangeAt Go.RowKit Go.E
set_option linter.unusedVariables false

theorem own : ownKnob Try.prog.godebug = none := by kernel_rfl
theorem laidOut : laidOutB Try.prog = true := by kernel_rfl

theorem walk (W : World) {v0 : Value} {l0 : List Msg} (r0 : ∀ g, Old W g → rdS 6 Msg.cs v0 l0 g) {v1 : Value} {l1 : List Int} (r1 : ∀ g, Old W g → rdS 1 (intsK .u8) v1 l1 g) (w1 : ∀ m ∈ l1, (Lit.int .u8 m).wf = true) :
    Calls Try.prog 6 #[v0, v1] W fun e w' => e = .returned (.bool true) ∧ Below W.heap.size W w' :=
  Calls.mono (Cl.ret (by kernel_rfl) (prioGone_s (K := fun v w' => v = .bool true ∧ Below W.heap.size W w') (Sat.start W) r0 r1 w1 (fun w' h => ⟨rfl, h.below⟩))) fun e w' ⟨v, he, hv, hb⟩ => ⟨by rw [he, hv], hb⟩

set_option maxRecDepth 100000 in
theorem lifted (os : Os) (started : os.Started) (H : Type) (enc : TypeId × Value → H) :
    ReturnsInHanded {} Try.checked os 6 .any (Rows.prioGoneSpec.pre6 enc Try.prog Try.f6 Rows.prioGoneRow.domain false) (Rows.prioGoneSpec.post enc Try.prog Try.f6 false true false false) := by
  refine returnsInHanded_of_change (C := Try.checked) own started (by kernel_rfl) Try.func6
    (ChangeSpec.witness6 (enc := enc) (C := Try.checked) false ⟨#[], #[.slice none 0 0, .slice none 0 0], []⟩ 6 (by kernel_rfl) (by kernel_rfl) (by kernel_rfl) (by kernel_rfl)) ?_
  intro W base args ds gs before hval0 hW hcnd _
  have hval : ∀ (j : Nat) t v, Try.f6.params[j]? = some t → args[j]? = some v → Value.okWide Try.prog W .any base t v := hval0
  have hW' := hW
  obtain ⟨p, q, hA0, hV, rfl, hfz, hnd⟩ := hW
  have hA : DataW.TrodAll enc Try.prog W 0 (fun _ => true) true Try.f6.params.toList args.toList ds p := hA0
  rw [Try.params6] at hA hval
  obtain ⟨v0, vs0, d0, ds0, p0, q0, hargs, rfl, rfl, h0, r0⟩ := trodAll_cons hA
  obtain ⟨v1, vs1, d1, ds1, p1, q1, rfl, rfl, rfl, h1, r1⟩ := trodAll_cons r0
  obtain ⟨rfl, rfl, rfl⟩ := trodAll_nil r1
  obtain rfl : args = #[v0, v1] := by cases args; simp_all
  obtain ⟨rfl, rfl⟩ := trodVars_none hV
  have k0 := h0
  have lt0 : ∀ x ∈ p0, x.block < W.heap.size := by obtain ⟨m, hm⟩ := k0; exact DataW.trod_lt m _ _ _ hm
  have k1 := h1
  have lt1 : ∀ x ∈ p1, x.block < W.heap.size := by obtain ⟨m, hm⟩ := k1; exact DataW.trod_lt m _ _ _ hm
  obtain ⟨a0, len0, cap0, e0⟩ := okWide_slice Try.underlying22 (hval 0 22 v0 rfl rfl)
  obtain ⟨l0, wl0, rl0⟩ := open_structs und_22 eqT_30 (s := 6) (by kernel_rfl) (by decide) e0 h0
  have rr0 : ∀ g, Old W g → rdS 6 Msg.cs v0 (l0.map Msg.of) g := fun g hg => rd_of Msg.of (rl0 g hg) (fun ns hns => Msg.of_cs (wl0 ns hns).1)
  obtain ⟨a1, len1, cap1, e1⟩ := okWide_slice Try.underlying39 (hval 1 39 v1 rfl rfl)
  obtain ⟨l1, wl1, rl1⟩ := open_intsK (k := .u8) und_39 Try.underlying5 (by kernel_rfl) e1 h1
  clear hA0 hval0
  refine (walk W rr0 rl1 wl1).mono fun e W' ⟨he, bel⟩ => ?_
  subst he
  exact ⟨_, rfl, _, _, _, [], _, [], hW', trodAll_mk1 (shut_bool Try.underlying4 _), (trodAll_cons_mk (Below.trod laidOut (by kernel_rfl) (of_decide_eq_true (by kernel_rfl)) k0 bel lt0) (trodAll_cons_mk (Below.trod laidOut (by kernel_rfl) (of_decide_eq_true (by kernel_rfl)) k1 bel lt1) trodAll_mk0)), rfl, bel.frame _, fun h => by cases h⟩

theorem over : Rows.prioGoneRow.holds Try.pinned (OpenSpec.ofChange Rows.prioGoneSpec) :=
  OpenClaim.holds_of_wide 6 Try.f6 rfl rfl rfl rfl rfl rfl rfl ⟨rfl, rfl, rfl, rfl, rfl⟩ rfl rfl rfl rfl rfl (by kernel_rfl) Try.func6 (by kernel_rfl)
    (of_decide_eq_true (by kernel_rfl)) (by unfold Func.isWrapper; first | (rw [if_pos (by decide +kernel)]; kernel_rfl) | (rw [if_neg (by decide +kernel)]; exact ⟨rfl, rfl⟩))
    (fun os started H enc _ => lifted os started H enc)

/-- The statement. -/
theorem proved : Rows.PrioGoneSaid := over
#print axioms proved
end Go.Proofs.Ytbfjpmbgjgjckaa.prioGone
