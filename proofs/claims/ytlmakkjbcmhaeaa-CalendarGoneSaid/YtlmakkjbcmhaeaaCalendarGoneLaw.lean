/- The statement CalendarGone: the law returns true at every input, and writes nothing that was there. Conditions: none. -/
import Derived.Test.YtlmakkjbcmhaeaaRows
import Derived.Test.YtlmakkjbcmhaeaaEngI
import Derived.Test.YtlmakkjbcmhaeaaCalL
import Derived.WalkKit
import Derived.ProofKit
import Derived.OpenShut
import Derived.ShutString
import Derived.ChangeOld
import Derived.Below
namespace Go.Proofs.Ytlmakkjbcmhaeaa.calendarGone
open Go.ChangeShapes Go.WideShapes Go.ChangeAt Go.RowKit Go.E
set_option linter.unusedVariables false

theorem own : ownKnob Try.prog.godebug = none := by kernel_rfl
theorem laidOut : laidOutB Try.prog = true := by kernel_rfl

theorem walk (W : World) {a0 : Int} (w0 : (Lit.int .i64 a0).wf = true) {v1 : Value} {l1 : List Msg} (r1 : ∀ g, Old W g → rdS 6 Msg.cs v1 l1 g) (w1 : ∀ x ∈ l1, ∀ m ∈ x.ns, (Lit.int .i64 m).wf = true) (k2 : Key) (w2 : ∀ m ∈ k2.ns, (Lit.int .i64 m).wf = true) :
    Calls Try.prog 4 #[.int .i64 a0, v1, .agg k2.cs.toArray] W fun e w' => e = .returned (.bool true) ∧ Below W.heap.size W w' :=
  Calls.mono (Cl.ret (by kernel_rfl) (calendarGone_s (K := fun v w' => v = .bool true ∧ Below W.heap.size W w') (Sat.start W) w0 r1 w1 w2 (fun w' h => ⟨rfl, h.below⟩))) fun e w' ⟨v, he, hv, hb⟩ => ⟨by rw [he, hv], hb⟩

set_option maxRecDepth 100000 in
theorem lifted (os : Os) (started : os.Started) (H : Type) (enc : TypeId × Value → H) :
    ReturnsInHanded {} Try.checked os 4 .any (Rows.calendarGoneSpec.pre6 enc Try.prog Try.f4 Rows.calendarGoneRow.domain false) (Rows.calendarGoneSpec.post enc Try.prog Try.f4 false true false false) := by
  refine returnsInHanded_of_change (C := Try.checked) own started (by kernel_rfl) Try.func4
    (ChangeSpec.witness6 (enc := enc) (C := Try.checked) false ⟨#[], #[.int .i64 0, .slice none 0 0, .agg #[.int .i64 0, .int .i64 0, .int .i64 0]], []⟩ 4 (by kernel_rfl) (by kernel_rfl) (by kernel_rfl) (by kernel_rfl)) ?_
  intro W base args ds gs before hval0 hW hcnd _
  have hval : ∀ (j : Nat) t v, Try.f4.params[j]? = some t → args[j]? = some v → Value.okWide Try.prog W .any base t v := hval0
  have hW' := hW
  obtain ⟨p, q, hA0, hV, rfl, hfz, hnd⟩ := hW
  have hA : DataW.TrodAll enc Try.prog W 0 (fun _ => true) true Try.f4.params.toList args.toList ds p := hA0
  rw [Try.params4] at hA hval
  obtain ⟨v0, vs0, d0, ds0, p0, q0, hargs, rfl, rfl, h0, r0⟩ := trodAll_cons hA
  obtain ⟨v1, vs1, d1, ds1, p1, q1, rfl, rfl, rfl, h1, r1⟩ := trodAll_cons r0
  obtain ⟨v2, vs2, d2, ds2, p2, q2, rfl, rfl, rfl, h2, r2⟩ := trodAll_cons r1
  obtain ⟨rfl, rfl, rfl⟩ := trodAll_nil r2
  obtain rfl : args = #[v0, v1, v2] := by cases args; simp_all
  obtain ⟨rfl, rfl⟩ := trodVars_none hV
  have k0 := h0
  have lt0 : ∀ x ∈ p0, x.block < W.heap.size := by obtain ⟨m, hm⟩ := k0; exact DataW.trod_lt m _ _ _ hm
  have k1 := h1
  have lt1 : ∀ x ∈ p1, x.block < W.heap.size := by obtain ⟨m, hm⟩ := k1; exact DataW.trod_lt m _ _ _ hm
  have k2 := h2
  have lt2 : ∀ x ∈ p2, x.block < W.heap.size := by obtain ⟨m, hm⟩ := k2; exact DataW.trod_lt m _ _ _ hm
  obtain ⟨a0, rfl, _, _, w0⟩ := open_int Try.underlying3 (hval 0 3 v0 rfl rfl) h0
  obtain ⟨a1, len1, cap1, e1⟩ := okWide_slice Try.underlying36 (hval 1 36 v1 rfl rfl)
  obtain ⟨l1, wl1, rl1⟩ := open_structs und_36 eqT_32 (s := 6) (by kernel_rfl) (by decide) e1 h1
  have rr1 : ∀ g, Old W g → rdS 6 Msg.cs v1 (l1.map Msg.of) g := fun g hg => rd_of Msg.of (rl1 g hg) (fun ns hns => Msg.of_cs (wl1 ns hns).1)
  have ww1 : ∀ x ∈ l1.map Msg.of, ∀ m ∈ x.ns, (Lit.int .i64 m).wf = true := fun x hx m hm => by obtain ⟨ns, hns, rfl⟩ := List.mem_map.1 hx; rw [Msg.of_ns (wl1 ns hns).1] at hm; exact (wl1 ns hns).2 m hm
  obtain ⟨cs2, e2, _⟩ := okWide_struct Try.underlying30 (hval 2 30 v2 rfl rfl)
  obtain ⟨ns2, wl2, rfl, ww2⟩ := open_agg eqT_30 (s := 3) (by kernel_rfl) e2 h2
  rw [← Key.of_cs wl2] at *
  rw [← Key.of_ns wl2] at ww2
  clear hA0 hval0
  refine (walk W w0 rr1 ww1 (Key.of ns2) ww2).mono fun e W' ⟨he, bel⟩ => ?_
  subst he
  exact ⟨_, rfl, _, _, _, [], _, [], hW', trodAll_mk1 (shut_bool Try.underlying4 _), (trodAll_cons_mk (Below.trod laidOut (by kernel_rfl) (of_decide_eq_true (by kernel_rfl)) k0 bel lt0) (trodAll_cons_mk (Below.trod laidOut (by kernel_rfl) (of_decide_eq_true (by kernel_rfl)) k1 bel lt1) (trodAll_cons_mk (Below.trod laidOut (by kernel_rfl) (of_decide_eq_true (by kernel_rfl)) k2 bel lt2) trodAll_mk0))), rfl, bel.frame _, fun h => by cases h⟩

theorem over : Rows.calendarGoneRow.holds Try.pinned (OpenSpec.ofChange Rows.calendarGoneSpec) :=
  OpenClaim.holds_of_wide 4 Try.f4 rfl rfl rfl rfl rfl rfl rfl ⟨rfl, rfl, rfl, rfl, rfl⟩ rfl rfl rfl rfl rfl (by kernel_rfl) Try.func4 (by kernel_rfl)
    (of_decide_eq_true (by kernel_rfl)) (by unfold Func.isWrapper; first | (rw [if_pos (by decide +kernel)]; kernel_rfl) | (rw [if_neg (by decide +kernel)]; exact ⟨rfl, rfl⟩))
    (fun os started H enc _ => lifted os started H enc)

/-- The statement. -/
theorem proved : Rows.CalendarGoneSaid := over
#print axioms proved
end Go.Proofs.Ytlmakkjbcmhaeaa.calendarGone
