/- The statement WarpRefuses: the law returns true at every input, and writes nothing that was there. Conditions: none. -/
import Derived.Test.YtbopajpmadlmhaaGreatRows
import Derived.WalkKit
import Derived.ProofKit
import Derived.OpenShut
import Derived.ShutString
import Derived.ChangeOld
import Derived.Below
import Derived.Test.YtbopajpmadlmhaaGreatT7
namespace Go.Proofs.YtbopajpmadlmhaaGreat.warpRefuses
open Go.ChangeShapes Go.WideShapes Go.ChangeAt Go.RowKit Go.E
set_option linter.unusedVariables false

theorem own : ownKnob Tryz.prog.godebug = none := by kernel_rfl
theorem laidOut : laidOutB Tryz.prog = true := by kernel_rfl

set_option maxRecDepth 100000 in
theorem walk (W : World) {v0 : Value} {l0 : List WOp} (r0 : ∀ g, Old W g → rdS 11 WOp.cs v0 l0 g) (w0 : ∀ x ∈ l0, ∀ m ∈ x.ns, (Lit.int .i64 m).wf = true) (k1 : WOp) (w1 : ∀ m ∈ k1.ns, (Lit.int .i64 m).wf = true) :
    Calls Tryz.prog 8 #[v0, .agg k1.cs.toArray] W fun e w' => e = .returned (.bool true) ∧ Below W.heap.size W w' :=
  Calls.mono (Cl.ret (by kernel_rfl) (warpRefuses_s (K := fun v w' => v = .bool true ∧ Below W.heap.size W w') (Sat.start W) r0 w0 w1 (fun w' h => ⟨rfl, h.below⟩))) fun e w' ⟨v, he, hv, hb⟩ => ⟨by rw [he, hv], hb⟩

set_option maxRecDepth 100000 in
theorem lifted (os : Os) (started : os.Started) (H : Type) (enc : TypeId × Value → H) :
    ReturnsInHanded {} Tryz.checked os 8 .any (Rows.warpRefusesSpec.pre6 enc Tryz.prog Tryz.f8 Rows.warpRefusesRow.domain false) (Rows.warpRefusesSpec.post enc Tryz.prog Tryz.f8 false true false false) := by
  refine returnsInHanded_of_change (C := Tryz.checked) own started (by kernel_rfl) Tryz.func8
    (ChangeSpec.witness6 (enc := enc) (C := Tryz.checked) false ⟨#[], #[.slice none 0 0, .agg #[.int .i64 0, .int .i64 0, .int .i64 0, .int .i64 0, .int .i64 0, .int .i64 0, .int .i64 0, .int .i64 0, .int .i64 0, .int .i64 0, .int .i64 0]], []⟩ 20 (by kernel_rfl) (by kernel_rfl) (by kernel_rfl) (by kernel_rfl)) ?_
  intro W base args ds gs before hval0 hW hcnd _
  have hval : ∀ (j : Nat) t v, Tryz.f8.params[j]? = some t → args[j]? = some v → Value.okWide Tryz.prog W .any base t v := hval0
  have hW' := hW
  obtain ⟨p, q, hA0, hV, rfl, hfz, hnd⟩ := hW
  have hA : DataW.TrodAll enc Tryz.prog W 0 (fun _ => true) true Tryz.f8.params.toList args.toList ds p := hA0
  rw [Tryz.params8] at hA hval
  obtain ⟨v0, vs0, d0, ds0, p0, q0, hargs, rfl, rfl, h0, r0⟩ := trodAll_cons hA
  obtain ⟨v1, vs1, d1, ds1, p1, q1, rfl, rfl, rfl, h1, r1⟩ := trodAll_cons r0
  obtain ⟨rfl, rfl, rfl⟩ := trodAll_nil r1
  obtain rfl : args = #[v0, v1] := by cases args; simp_all
  obtain ⟨rfl, rfl⟩ := trodVars_none hV
  have k0 := h0
  have lt0 : ∀ x ∈ p0, x.block < W.heap.size := by obtain ⟨m, hm⟩ := k0; exact DataW.trod_lt m _ _ _ hm
  have k1 := h1
  have lt1 : ∀ x ∈ p1, x.block < W.heap.size := by obtain ⟨m, hm⟩ := k1; exact DataW.trod_lt m _ _ _ hm
  obtain ⟨a0, len0, cap0, e0⟩ := okWide_slice Tryz.underlying68 (hval 0 68 v0 rfl rfl)
  obtain ⟨l0, wl0, rl0⟩ := open_structs und_68 eqT_70 (s := 11) (by kernel_rfl) (by decide) e0 h0
  have rr0 : ∀ g, Old W g → rdS 11 WOp.cs v0 (l0.map WOp.of) g := fun g hg => rd_of WOp.of (rl0 g hg) (fun ns hns => WOp.of_cs (wl0 ns hns).1)
  have ww0 : ∀ x ∈ l0.map WOp.of, ∀ m ∈ x.ns, (Lit.int .i64 m).wf = true := fun x hx m hm => by obtain ⟨ns, hns, rfl⟩ := List.mem_map.1 hx; rw [WOp.of_ns (wl0 ns hns).1] at hm; exact (wl0 ns hns).2 m hm
  obtain ⟨cs1, e1, _⟩ := okWide_struct Tryz.underlying70 (hval 1 70 v1 rfl rfl)
  obtain ⟨ns1, wl1, rfl, ww1⟩ := open_agg eqT_70 (s := 11) (by kernel_rfl) e1 h1
  rw [← WOp.of_cs wl1] at *
  rw [← WOp.of_ns wl1] at ww1
  clear hA0 hval0
  refine (walk W rr0 ww0 (WOp.of ns1) ww1).mono fun e W' ⟨he, bel⟩ => ?_
  subst he
  exact ⟨_, rfl, _, _, _, [], _, [], hW', trodAll_mk1 (shut_bool Tryz.underlying4 _), (trodAll_cons_mk (Below.trod laidOut (by kernel_rfl) (of_decide_eq_true (by kernel_rfl)) k0 bel lt0) (trodAll_cons_mk (Below.trod laidOut (by kernel_rfl) (of_decide_eq_true (by kernel_rfl)) k1 bel lt1) trodAll_mk0)), rfl, bel.frame _, fun h => by cases h⟩

theorem over : Rows.warpRefusesRow.holds Tryz.pinned (OpenSpec.ofChange Rows.warpRefusesSpec) :=
  OpenClaim.holds_of_wide 8 Tryz.f8 rfl rfl rfl rfl rfl rfl rfl ⟨rfl, rfl, rfl, rfl, rfl⟩ rfl rfl rfl rfl rfl (by kernel_rfl) Tryz.func8 (by kernel_rfl)
    (of_decide_eq_true (by kernel_rfl)) (by unfold Func.isWrapper; first | (rw [if_pos (by decide +kernel)]; kernel_rfl) | (rw [if_neg (by decide +kernel)]; exact ⟨rfl, rfl⟩))
    (fun os started H enc _ => lifted os started H enc)

theorem proved : Rows.WarpRefusesSaid := over
#print axioms proved
end Go.Proofs.YtbopajpmadlmhaaGreat.warpRefuses
