/- The statement WarpScript: the law returns true at every input, and writes nothing that was there. Conditions: none. -/
import Derived.Test.YtbopajpmadlmhaaGreatRows
import Derived.WalkKit
import Derived.ProofKit
import Derived.OpenShut
import Derived.ShutString
import Derived.ChangeOld
import Derived.Below
import Derived.Test.YtbopajpmadlmhaaGreatR8
namespace Go.Proofs.YtbopajpmadlmhaaGreat.warpScript
open Go.ChangeShapes Go.WideShapes Go.ChangeAt Go.RowKit Go.E
set_option linter.unusedVariables false

theorem own : ownKnob Tryz.prog.godebug = none := by kernel_rfl
theorem laidOut : laidOutB Tryz.prog = true := by kernel_rfl

set_option maxRecDepth 100000 in
theorem walk (W : World) {x0 : WdX} (r0 : ∀ g, Old W g → RdWd x0 g) (w0 : x0.wf) {a1 : Int} (w1 : (Lit.int .i64 a1).wf = true) {v2 : Value} {l2 : List WOp} (r2 : ∀ g, Old W g → rdS 11 WOp.cs v2 l2 g) (w2 : ∀ x ∈ l2, ∀ m ∈ x.ns, (Lit.int .i64 m).wf = true) :
    Calls Tryz.prog 9 #[.agg x0.cs.toArray, .int .i64 a1, v2] W fun e w' => e = .returned (.bool true) ∧ Below W.heap.size W w' :=
  Calls.mono (Cl.ret (by kernel_rfl) (warpScript_s (K := fun v w' => v = .bool true ∧ Below W.heap.size W w') (Sat.start W) r0 w0 w1 r2 w2 (fun w' h => ⟨rfl, h.below⟩))) fun e w' ⟨v, he, hv, hb⟩ => ⟨by rw [he, hv], hb⟩

set_option maxRecDepth 100000 in
theorem lifted (os : Os) (started : os.Started) (H : Type) (enc : TypeId × Value → H) :
    ReturnsInHanded {} Tryz.checked os 9 .any (Rows.warpScriptSpec.pre6 enc Tryz.prog Tryz.f9 Rows.warpScriptRow.domain false) (Rows.warpScriptSpec.post enc Tryz.prog Tryz.f9 false true false false) := by
  refine returnsInHanded_of_change (C := Tryz.checked) own started (by kernel_rfl) Tryz.func9
    (ChangeSpec.witness6 (enc := enc) (C := Tryz.checked) false ⟨#[], #[.agg #[.slice none 0 0, .slice none 0 0, .int .i64 0], .int .i64 0, .slice none 0 0], []⟩ 20 (by kernel_rfl) (by kernel_rfl) (by kernel_rfl) (by kernel_rfl)) ?_
  intro W base args ds gs before hval0 hW hcnd _
  have hval : ∀ (j : Nat) t v, Tryz.f9.params[j]? = some t → args[j]? = some v → Value.okWide Tryz.prog W .any base t v := hval0
  have hW' := hW
  obtain ⟨p, q, hA0, hV, rfl, hfz, hnd⟩ := hW
  have hA : DataW.TrodAll enc Tryz.prog W 0 (fun _ => true) true Tryz.f9.params.toList args.toList ds p := hA0
  rw [Tryz.params9] at hA hval
  obtain ⟨v0, vs0, d0, ds0, p0, q0, hargs, rfl, rfl, h0, r0⟩ := trodAll_cons hA
  obtain ⟨v1, vs1, d1, ds1, p1, q1, rfl, rfl, rfl, h1, r1⟩ := trodAll_cons r0
  obtain ⟨v2, vs2, d2, ds2, p2, q2, rfl, rfl, rfl, h2, r2⟩ := trodAll_cons r1
  obtain ⟨rfl, rfl, rfl⟩ := trodAll_nil r2
  obtain rfl : args = #[v0, v1, v2] := by cases args; simp_all
  obtain ⟨rfl, rfl⟩ := trodVars_none hV
  have k0 := h0
  have lt0 : ∀ x ∈ p0, x.block < W.heap.size := by obtain ⟨m, hm⟩ := k0; exact DataW.trod_lt m _ _ _ hm
  have k1 := h1
  have lt1 : ∀ x ∈ p1, x.block < W.heap.size := by obtain ⟨m, hm⟩ := k1; exact DataW.trod_lt m _ _ _ hm
  have k2 := h2
  have lt2 : ∀ x ∈ p2, x.block < W.heap.size := by obtain ⟨m, hm⟩ := k2; exact DataW.trod_lt m _ _ _ hm
  obtain ⟨cs0, e0, _⟩ := okWide_struct Tryz.underlying27 (hval 0 27 v0 rfl rfl)
  obtain ⟨x0, rfl, xw0, xr0⟩ := open_world e0 h0
  obtain ⟨a1, rfl, _, _, w1⟩ := open_int Tryz.underlying3 (hval 1 3 v1 rfl rfl) h1
  obtain ⟨a2, len2, cap2, e2⟩ := okWide_slice Tryz.underlying68 (hval 2 68 v2 rfl rfl)
  obtain ⟨l2, wl2, rl2⟩ := open_structs und_68 eqT_70 (s := 11) (by kernel_rfl) (by decide) e2 h2
  have rr2 : ∀ g, Old W g → rdS 11 WOp.cs v2 (l2.map WOp.of) g := fun g hg => rd_of WOp.of (rl2 g hg) (fun ns hns => WOp.of_cs (wl2 ns hns).1)
  have ww2 : ∀ x ∈ l2.map WOp.of, ∀ m ∈ x.ns, (Lit.int .i64 m).wf = true := fun x hx m hm => by obtain ⟨ns, hns, rfl⟩ := List.mem_map.1 hx; rw [WOp.of_ns (wl2 ns hns).1] at hm; exact (wl2 ns hns).2 m hm
  clear hA0 hval0
  refine (walk W xr0 xw0 w1 rr2 ww2).mono fun e W' ⟨he, bel⟩ => ?_
  subst he
  exact ⟨_, rfl, _, _, _, [], _, [], hW', trodAll_mk1 (shut_bool Tryz.underlying4 _), (trodAll_cons_mk (Below.trod laidOut (by kernel_rfl) (of_decide_eq_true (by kernel_rfl)) k0 bel lt0) (trodAll_cons_mk (Below.trod laidOut (by kernel_rfl) (of_decide_eq_true (by kernel_rfl)) k1 bel lt1) (trodAll_cons_mk (Below.trod laidOut (by kernel_rfl) (of_decide_eq_true (by kernel_rfl)) k2 bel lt2) trodAll_mk0))), rfl, bel.frame _, fun h => by cases h⟩

theorem over : Rows.warpScriptRow.holds Tryz.pinned (OpenSpec.ofChange Rows.warpScriptSpec) :=
  OpenClaim.holds_of_wide 9 Tryz.f9 rfl rfl rfl rfl rfl rfl rfl ⟨rfl, rfl, rfl, rfl, rfl⟩ rfl rfl rfl rfl rfl (by kernel_rfl) Tryz.func9 (by kernel_rfl)
    (of_decide_eq_true (by kernel_rfl)) (by unfold Func.isWrapper; first | (rw [if_pos (by decide +kernel)]; kernel_rfl) | (rw [if_neg (by decide +kernel)]; exact ⟨rfl, rfl⟩))
    (fun os started H enc _ => lifted os started H enc)

theorem proved : Rows.WarpScriptSaid := over
#print axioms proved
end Go.Proofs.YtbopajpmadlmhaaGreat.warpScript
