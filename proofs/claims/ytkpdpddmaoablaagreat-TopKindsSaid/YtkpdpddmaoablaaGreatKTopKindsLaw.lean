/- The statement TopKinds: the law returns true at every input, and writes nothing that was there. Conditions: none. -/
import Derived.Test.YtkpdpddmaoablaaGreatRows
import Derived.WalkKit
import Derived.ProofKit
import Derived.OpenShut
import Derived.ShutString
import Derived.ChangeOld
import Derived.Below
import Derived.Test.YtkpdpddmaoablaaGreatK8
namespace Go.Proofs.YtkpdpddmaoablaaGreat.topKinds
open Go.ChangeShapes Go.WideShapes Go.ChangeAt Go.RowKit Go.E
set_option linter.unusedVariables false
theorem own:ownKnob Tryz.prog.godebug=none:=by kernel_rfl
theorem laidOut:laidOutB Tryz.prog=true:=by kernel_rfl
set_option maxRecDepth 100000 in
theorem walk (W:World) {a0:Int} (w0:(Lit.int .u8 a0).wf=true) {v1:Value} {l1:List Bool} (r1:∀g,Old W g→rdS 1 ZPh v1 l1 g) {v2:Value} {l2:List Bool} (r2:∀g,Old W g→rdS 1 ZPh v2 l2 g) {v3:Value} {l3:List Int} (r3:∀g,Old W g→rdS 1 (Ye .u8) v3 l3 g) (w3:∀m∈l3,(Lit.int .u8 m).wf=true) {a4:Int} (w4:(Lit.int .u8 a4).wf=true) :
  Calls Tryz.prog 4 #[.int .u8 a0,v1,v2,v3,.int .u8 a4] W λe w'=>e=.returned (.bool true)∧Below W.heap.size W w':=
 Calls.mono (Cl.ret (by kernel_rfl) (ZSH (K:=λv w'=>v=.bool true∧Below W.heap.size W w') (Sat.start W) w0 r1 r2 r3 w3 w4 (λw' h=>⟨rfl,h.below⟩))) λe w' ⟨v,he,hv,hb⟩=>⟨by rw[he,hv],hb⟩
set_option maxRecDepth 100000 in
theorem lifted (os:Os) (started:os.Started) (H:Type) (enc:TypeId × Value→H) :
  ReturnsInHanded {} Tryz.checked os 4 .any (Rows.topKindsSpec.pre6 enc Tryz.prog Tryz.f4 Rows.topKindsRow.domain false) (Rows.topKindsSpec.post enc Tryz.prog Tryz.f4 false true false false):=by
 refine returnsInHanded_of_change (C:=Tryz.checked) own started (by kernel_rfl) Tryz.func4
  (ChangeSpec.witness6 (enc:=enc) (C:=Tryz.checked) false ⟨#[],#[.int .u8 0,.slice none 0 0,.slice none 0 0,.slice none 0 0,.int .u8 0],[]⟩ 20 (by kernel_rfl) (by kernel_rfl) (by kernel_rfl) (by kernel_rfl)) ?_
 intro W base args ds gs before hval0 hW hcnd _
 have hval:∀(j:Nat) t v,Tryz.f4.params[j]?=some t→args[j]?=some v→Value.okWide Tryz.prog W .any base t v:=hval0
 have hW':=hW
 obtain ⟨p,q,hA0,hV,rfl,hfz,hnd⟩:=hW
 have hA:DataW.TrodAll enc Tryz.prog W 0 (λ_=>true) true Tryz.f4.params.toList args.toList ds p:=hA0
 rw[Tryz.params4] at hA hval
 obtain ⟨v0,vs0,d0,ds0,p0,q0,hargs,rfl,rfl,h0,r0⟩:=trodAll_cons hA
 obtain ⟨v1,vs1,d1,ds1,p1,q1,rfl,rfl,rfl,h1,r1⟩:=trodAll_cons r0
 obtain ⟨v2,vs2,d2,ds2,p2,q2,rfl,rfl,rfl,h2,r2⟩:=trodAll_cons r1
 obtain ⟨v3,vs3,d3,ds3,p3,q3,rfl,rfl,rfl,h3,r3⟩:=trodAll_cons r2
 obtain ⟨v4,vs4,d4,ds4,p4,q4,rfl,rfl,rfl,h4,r4⟩:=trodAll_cons r3
 obtain ⟨rfl,rfl,rfl⟩:=trodAll_nil r4
 obtain rfl:args=#[v0,v1,v2,v3,v4]:=by cases args;simp_all
 obtain ⟨rfl,rfl⟩:=trodVars_none hV
 have k0:=h0
 have lt0:∀x∈p0,x.block<W.heap.size:=by obtain ⟨m,hm⟩:=k0;exact DataW.trod_lt m _ _ _ hm
 have k1:=h1
 have lt1:∀x∈p1,x.block<W.heap.size:=by obtain ⟨m,hm⟩:=k1;exact DataW.trod_lt m _ _ _ hm
 have k2:=h2
 have lt2:∀x∈p2,x.block<W.heap.size:=by obtain ⟨m,hm⟩:=k2;exact DataW.trod_lt m _ _ _ hm
 have k3:=h3
 have lt3:∀x∈p3,x.block<W.heap.size:=by obtain ⟨m,hm⟩:=k3;exact DataW.trod_lt m _ _ _ hm
 have k4:=h4
 have lt4:∀x∈p4,x.block<W.heap.size:=by obtain ⟨m,hm⟩:=k4;exact DataW.trod_lt m _ _ _ hm
 obtain ⟨a0,rfl,_,_,w0⟩:=open_int Tryz.underlying5 (hval 0 5 v0 rfl rfl) h0
 obtain ⟨a1,len1,cap1,e1⟩:=okWide_slice Tryz.underlying22 (hval 1 22 v1 rfl rfl)
 obtain ⟨l1,rl1⟩:=ZPi e1 h1
 obtain ⟨a2,len2,cap2,e2⟩:=okWide_slice Tryz.underlying22 (hval 2 22 v2 rfl rfl)
 obtain ⟨l2,rl2⟩:=ZPi e2 h2
 obtain ⟨a3,len3,cap3,e3⟩:=okWide_slice Tryz.underlying23 (hval 3 23 v3 rfl rfl)
 obtain ⟨l3,wl3,rl3⟩:=ZPg (k:=.u8) ZxQ Tryz.underlying5 (by kernel_rfl) e3 h3
 obtain ⟨a4,rfl,_,_,w4⟩:=open_int Tryz.underlying5 (hval 4 5 v4 rfl rfl) h4
 clear hA0 hval0
 refine (walk W w0 rl1 rl2 rl3 wl3 w4).mono λe W' ⟨he,bel⟩=>?_
 subst he
 exact ⟨_,rfl,_,_,_,[],_,[],hW',trodAll_mk1 (shut_bool Tryz.underlying4 _),(trodAll_cons_mk (Below.trod laidOut (by kernel_rfl) (of_decide_eq_true (by kernel_rfl)) k0 bel lt0) (trodAll_cons_mk (Below.trod laidOut (by kernel_rfl) (of_decide_eq_true (by kernel_rfl)) k1 bel lt1) (trodAll_cons_mk (Below.trod laidOut (by kernel_rfl) (of_decide_eq_true (by kernel_rfl)) k2 bel lt2) (trodAll_cons_mk (Below.trod laidOut (by kernel_rfl) (of_decide_eq_true (by kernel_rfl)) k3 bel lt3) (trodAll_cons_mk (Below.trod laidOut (by kernel_rfl) (of_decide_eq_true (by kernel_rfl)) k4 bel lt4) trodAll_mk0))))),rfl,bel.frame _,λh=>by cases h⟩
theorem g1:laidOutB Tryz.pinned.checked.prog=true:=by kernel_rfl
theorem g2:mapsRowed Tryz.pinned.checked.prog=true:=by kernel_rfl
theorem g3:(Rows.topKindsRow.inPlace==Tryz.pinned.checked.prog.inPlace 4)=true:=by kernel_rfl
theorem g4:(Rows.topKindsRow.unfollowed==Tryz.pinned.checked.prog.unfollowed 4)=true:=by kernel_rfl
theorem g5:(Rows.topKindsRow.recurses==Tryz.pinned.checked.prog.recurses 4)=true:=by kernel_rfl
theorem g6:(Rows.topKindsRow.named==Tryz.pinned.checked.prog.varsNamed 4)=true:=by kernel_rfl
set_option maxRecDepth 100000 in
theorem closed:joinedFacts Tryz.pinned.checked.prog 4 Tryz.f4 Rows.topKindsSpec Rows.topKindsRow=true:=by
 unfold joinedFacts
 rw[g1,g2,g3,g4,g5,g6]
 kernel_rfl
theorem over:Rows.topKindsRow.holds Tryz.pinned (OpenSpec.ofChange Rows.topKindsSpec):=
 OpenClaim.holds_of_wide 4 Tryz.f4 rfl rfl rfl rfl rfl rfl rfl ⟨rfl,rfl,rfl,rfl,rfl⟩ rfl rfl rfl rfl rfl (by kernel_rfl) Tryz.func4 closed
  (of_decide_eq_true (by kernel_rfl)) (by unfold Func.isWrapper;first | (rw[if_pos (by decide +kernel)];kernel_rfl) | (rw[if_neg (by decide +kernel)];exact ⟨rfl,rfl⟩))
  (λos started H enc _=>lifted os started H enc)
theorem proved:Rows.TopKindsSaid:=over
#print axioms proved
end Go.Proofs.YtkpdpddmaoablaaGreat.topKinds
