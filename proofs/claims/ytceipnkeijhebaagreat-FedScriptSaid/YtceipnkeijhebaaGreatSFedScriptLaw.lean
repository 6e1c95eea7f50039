/- The statement FedScript: the law returns true at every input, and writes nothing that was there. Conditions: none. -/
import Derived.Test.YtceipnkeijhebaaGreatRows
import Derived.WalkKit
import Derived.ProofKit
import Derived.OpenShut
import Derived.ShutString
import Derived.ChangeOld
import Derived.Below
import Derived.Test.YtceipnkeijhebaaGreatS9
namespace Go.Proofs.YtceipnkeijhebaaGreat.fedScript
open Go.ChangeShapes Go.WideShapes Go.ChangeAt Go.RowKit Go.E
set_option linter.unusedVariables false
theorem own:ownKnob Tryz.prog.godebug=none:=by kernel_rfl
theorem laidOut:laidOutB Tryz.prog=true:=by kernel_rfl
set_option maxRecDepth 100000 in
theorem walk (W:World) {x0:WdX} (r0:∀g,Old W g→ZtG x0 g) (w0:x0.wf) {a1:Int} (w1:(Lit.int .i64 a1).wf=true) {v2:Value} {l2:List Zbs} (r2:∀g,Old W g→rdS 3 Zbs.cs v2 l2 g) :
  Calls Tryz.prog 3 #[.agg x0.cs.toArray,.int .i64 a1,v2] W λe w'=>e=.returned (.bool true)∧Below W.heap.size W w':=
 Calls.mono (Cl.ret (by kernel_rfl) (ZZ4 (K:=λv w'=>v=.bool true∧Below W.heap.size W w') (Sat.start W) r0 w0 w1 r2 (λw' h=>⟨rfl,h.below⟩))) λe w' ⟨v,he,hv,hb⟩=>⟨by rw[he,hv],hb⟩
set_option maxRecDepth 100000 in
theorem lifted (os:Os) (started:os.Started) (H:Type) (enc:TypeId × Value→H) :
  ReturnsInHanded {} Tryz.checked os 3 .any (Rows.fedScriptSpec.pre6 enc Tryz.prog Tryz.f3 Rows.fedScriptRow.domain false) (Rows.fedScriptSpec.post enc Tryz.prog Tryz.f3 false true false false):=by
 refine returnsInHanded_of_change (C:=Tryz.checked) own started (by kernel_rfl) Tryz.func3
  (ChangeSpec.witness6 (enc:=enc) (C:=Tryz.checked) false ⟨#[],#[.agg #[.slice none 0 0,.slice none 0 0,.int .i64 0],.int .i64 0,.slice none 0 0],[]⟩ 20 (by kernel_rfl) (by kernel_rfl) (by kernel_rfl) (by kernel_rfl)) ?_
 intro W base args ds gs before hval0 hW hcnd _
 have hval:∀(j:Nat) t v,Tryz.f3.params[j]?=some t→args[j]?=some v→Value.okWide Tryz.prog W .any base t v:=hval0
 have hW':=hW
 obtain ⟨p,q,hA0,hV,rfl,hfz,hnd⟩:=hW
 have hA:DataW.TrodAll enc Tryz.prog W 0 (λ_=>true) true Tryz.f3.params.toList args.toList ds p:=hA0
 rw[Tryz.params3] at hA hval
 obtain ⟨v0,vs0,d0,ds0,p0,q0,hargs,rfl,rfl,h0,r0⟩:=trodAll_cons hA
 obtain ⟨v1,vs1,d1,ds1,p1,q1,rfl,rfl,rfl,h1,r1⟩:=trodAll_cons r0
 obtain ⟨v2,vs2,d2,ds2,p2,q2,rfl,rfl,rfl,h2,r2⟩:=trodAll_cons r1
 obtain ⟨rfl,rfl,rfl⟩:=trodAll_nil r2
 obtain rfl:args=#[v0,v1,v2]:=by cases args;simp_all
 obtain ⟨rfl,rfl⟩:=trodVars_none hV
 have k0:=h0
 have lt0:∀x∈p0,x.block<W.heap.size:=by obtain ⟨m,hm⟩:=k0;exact DataW.trod_lt m _ _ _ hm
 have k1:=h1
 have lt1:∀x∈p1,x.block<W.heap.size:=by obtain ⟨m,hm⟩:=k1;exact DataW.trod_lt m _ _ _ hm
 have k2:=h2
 have lt2:∀x∈p2,x.block<W.heap.size:=by obtain ⟨m,hm⟩:=k2;exact DataW.trod_lt m _ _ _ hm
 obtain ⟨cs0,e0,_⟩:=okWide_struct Tryz.underlying25 (hval 0 25 v0 rfl rfl)
 obtain ⟨x0,rfl,xw0,xr0⟩:=ZLu e0 h0
 obtain ⟨a1,rfl,_,_,w1⟩:=open_int Tryz.underlying3 (hval 1 3 v1 rfl rfl) h1
 obtain ⟨a2,len2,cap2,e2⟩:=okWide_slice Tryz.underlying26 (hval 2 26 v2 rfl rfl)
 obtain ⟨l2,wl2,rl2⟩:=ZpR ZDP ZPy (s:=3) (by kernel_rfl) (by decide) e2 h2
 have rr2:∀g,Old W g→rdS 3 Zbs.cs v2 (l2.map Zbs.of) g:=λg hg=>ZFV Zbs.of (rl2 g hg) (λns hns=>Zbs.of_cs (wl2 ns hns).1)
 clear hA0 hval0
 refine (walk W xr0 xw0 w1 rr2).mono λe W' ⟨he,bel⟩=>?_
 subst he
 exact ⟨_,rfl,_,_,_,[],_,[],hW',trodAll_mk1 (shut_bool Tryz.underlying4 _),(trodAll_cons_mk (Below.trod laidOut (by kernel_rfl) (of_decide_eq_true (by kernel_rfl)) k0 bel lt0) (trodAll_cons_mk (Below.trod laidOut (by kernel_rfl) (of_decide_eq_true (by kernel_rfl)) k1 bel lt1) (trodAll_cons_mk (Below.trod laidOut (by kernel_rfl) (of_decide_eq_true (by kernel_rfl)) k2 bel lt2) trodAll_mk0))),rfl,bel.frame _,λh=>by cases h⟩
theorem g1:laidOutB Tryz.pinned.checked.prog=true:=by kernel_rfl
theorem g2:mapsRowed Tryz.pinned.checked.prog=true:=by kernel_rfl
theorem g3:(Rows.fedScriptRow.inPlace==Tryz.pinned.checked.prog.inPlace 3)=true:=by kernel_rfl
theorem g4:(Rows.fedScriptRow.unfollowed==Tryz.pinned.checked.prog.unfollowed 3)=true:=by kernel_rfl
theorem g5:(Rows.fedScriptRow.recurses==Tryz.pinned.checked.prog.recurses 3)=true:=by kernel_rfl
theorem g6:(Rows.fedScriptRow.named==Tryz.pinned.checked.prog.varsNamed 3)=true:=by kernel_rfl
set_option maxRecDepth 100000 in
theorem closed:joinedFacts Tryz.pinned.checked.prog 3 Tryz.f3 Rows.fedScriptSpec Rows.fedScriptRow=true:=by
 unfold joinedFacts
 rw[g1,g2,g3,g4,g5,g6]
 kernel_rfl
theorem over:Rows.fedScriptRow.holds Tryz.pinned (OpenSpec.ofChange Rows.fedScriptSpec):=
 OpenClaim.holds_of_wide 3 Tryz.f3 rfl rfl rfl rfl rfl rfl rfl ⟨rfl,rfl,rfl,rfl,rfl⟩ rfl rfl rfl rfl rfl (by kernel_rfl) Tryz.func3 closed
  (of_decide_eq_true (by kernel_rfl)) (by unfold Func.isWrapper;first | (rw[if_pos (by decide +kernel)];kernel_rfl) | (rw[if_neg (by decide +kernel)];exact ⟨rfl,rfl⟩))
  (λos started H enc _=>lifted os started H enc)
theorem proved:Rows.FedScriptSaid:=over
#print axioms proved
end Go.Proofs.YtceipnkeijhebaaGreat.fedScript
