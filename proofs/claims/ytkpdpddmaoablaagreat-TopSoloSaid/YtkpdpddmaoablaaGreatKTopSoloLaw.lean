/- The statement TopSolo: the law returns true at every input, and writes nothing that was there. Conditions: none. -/
import Derived.Test.YtkpdpddmaoablaaGreatRows
import Derived.WalkKit
import Derived.ProofKit
import Derived.OpenShut
import Derived.ShutString
import Derived.ChangeOld
import Derived.Below
import Derived.Test.YtkpdpddmaoablaaGreatK8
namespace Go.Proofs.YtkpdpddmaoablaaGreat.topSolo
open Go.ChangeShapes Go.WideShapes Go.ChangeAt Go.RowKit Go.E
set_option linter.unusedVariables false
theorem own:ownKnob Tryz.prog.godebug=none:=by kernel_rfl
theorem laidOut:laidOutB Tryz.prog=true:=by kernel_rfl
set_option maxRecDepth 100000 in
theorem walk (W:World) {a0:Int} (w0:(Lit.int .u8 a0).wf=true) {v1:Value} {l1:List Bool} (r1:∀g,Old W g→rdS 1 ZPh v1 l1 g) {v2:Value} {l2:List Int} (r2:∀g,Old W g→rdS 1 (Ye .u8) v2 l2 g) (w2:∀m∈l2,(Lit.int .u8 m).wf=true) :
  Calls Tryz.prog 5 #[.int .u8 a0,v1,v2] W λe w'=>e=.returned (.bool true)∧Below W.heap.size W w':=
 Calls.mono (Cl.ret (by kernel_rfl) (ZSO (K:=λv w'=>v=.bool true∧Below W.heap.size W w') (Sat.start W) w0 r1 r2 w2 (λw' h=>⟨rfl,h.below⟩))) λe w' ⟨v,he,hv,hb⟩=>⟨by rw[he,hv],hb⟩
set_option maxRecDepth 100000 in
theorem lifted (os:Os) (started:os.Started) (H:Type) (enc:TypeId × Value→H) :
  ReturnsInHanded {} Tryz.checked os 5 .any (Rows.topSoloSpec.pre6 enc Tryz.prog Tryz.f5 Rows.topSoloRow.domain false) (Rows.topSoloSpec.post enc Tryz.prog Tryz.f5 false true false false):=by
 refine returnsInHanded_of_change (C:=Tryz.checked) own started (by kernel_rfl) Tryz.func5
  (ChangeSpec.witness6 (enc:=enc) (C:=Tryz.checked) false ⟨#[],#[.int .u8 0,.slice none 0 0,.slice none 0 0],[]⟩ 20 (by kernel_rfl) (by kernel_rfl) (by kernel_rfl) (by kernel_rfl)) ?_
 intro W base args ds gs before hval0 hW hcnd _
 have hval:∀(j:Nat) t v,Tryz.f5.params[j]?=some t→args[j]?=some v→Value.okWide Tryz.prog W .any base t v:=hval0
 have hW':=hW
 obtain ⟨p,q,hA0,hV,rfl,hfz,hnd⟩:=hW
 have hA:DataW.TrodAll enc Tryz.prog W 0 (λ_=>true) true Tryz.f5.params.toList args.toList ds p:=hA0
 rw[Tryz.params5] at hA hval
 obtain ⟨v0,vs0,d0,ds0,p0,q0,hargs,rfl,rfl,h0,r0⟩:=trodAll_cons hA
 obtain ⟨v1,vs1,d1,ds1,p1,q1,rfl,rfl,rfl,h1,r1⟩:=trodAll_cons r0
 obtain ⟨v2,vs2,d2,ds2,p2,q2,rfl,rfl,rfl,h2,r2⟩:=trodAll_cons r1
 obtain ⟨rfl,rfl,rfl⟩:=trodAll_nil r2
 obtain rfl:args=#[v0,v1,v2]:=by cases args;simp_all
 obtain ⟨rfl,rfl⟩:=trodVars_none hV
 have k0:=h0
 have lt0:∀x∈p0,x.block<W.heap.size:=by obtain ⟨m,hm⟩:=k0;exact DataW.trod_lt m _ _ _ hm
 have k1:=h1
 have lt1:∀x∈p1,x.block<W.heap.size:=by obtain ⟨m,hm⟩:=k1;exact DataW.trod_lt m _ _ _ hm
 have k2:=h2
 have lt2:∀x∈p2,x.block<W.heap.size:=by obtain ⟨m,hm⟩:=k2;exact DataW.trod_lt m _ _ _ hm
 obtain ⟨a0,rfl,_,_,w0⟩:=open_int Tryz.underlying5 (hval 0 5 v0 rfl rfl) h0
 obtain ⟨a1,len1,cap1,e1⟩:=okWide_slice Tryz.underlying22 (hval 1 22 v1 rfl rfl)
 obtain ⟨l1,rl1⟩:=ZPi e1 h1
 obtain ⟨a2,len2,cap2,e2⟩:=okWide_slice Tryz.underlying23 (hval 2 23 v2 rfl rfl)
 obtain ⟨l2,wl2,rl2⟩:=ZPg (k:=.u8) ZxQ Tryz.underlying5 (by kernel_rfl) e2 h2
 clear hA0 hval0
 refine (walk W w0 rl1 rl2 wl2).mono λe W' ⟨he,bel⟩=>?_
 subst he
 exact ⟨_,rfl,_,_,_,[],_,[],hW',trodAll_mk1 (shut_bool Tryz.underlying4 _),(trodAll_cons_mk (Below.trod laidOut (by kernel_rfl) (of_decide_eq_true (by kernel_rfl)) k0 bel lt0) (trodAll_cons_mk (Below.trod laidOut (by kernel_rfl) (of_decide_eq_true (by kernel_rfl)) k1 bel lt1) (trodAll_cons_mk (Below.trod laidOut (by kernel_rfl) (of_decide_eq_true (by kernel_rfl)) k2 bel lt2) trodAll_mk0))),rfl,bel.frame _,λh=>by cases h⟩
theorem g1:laidOutB Tryz.pinned.checked.prog=true:=by kernel_rfl
theorem g2:mapsRowed Tryz.pinned.checked.prog=true:=by kernel_rfl
theorem g3:(Rows.topSoloRow.inPlace==Tryz.pinned.checked.prog.inPlace 5)=true:=by kernel_rfl
theorem g4:(Rows.topSoloRow.unfollowed==Tryz.pinned.checked.prog.unfollowed 5)=true:=by kernel_rfl
theorem g5:(Rows.topSoloRow.recurses==Tryz.pinned.checked.prog.recurses 5)=true:=by kernel_rfl
theorem g6:(Rows.topSoloRow.named==Tryz.pinned.checked.prog.varsNamed 5)=true:=by kernel_rfl
set_option maxRecDepth 100000 in
theorem closed:joinedFacts Tryz.pinned.checked.prog 5 Tryz.f5 Rows.topSoloSpec Rows.topSoloRow=true:=by
 unfold joinedFacts
 rw[g1,g2,g3,g4,g5,g6]
 kernel_rfl
theorem over:Rows.topSoloRow.holds Tryz.pinned (OpenSpec.ofChange Rows.topSoloSpec):=
 OpenClaim.holds_of_wide 5 Tryz.f5 rfl rfl rfl rfl rfl rfl rfl ⟨rfl,rfl,rfl,rfl,rfl⟩ rfl rfl rfl rfl rfl (by kernel_rfl) Tryz.func5 closed
  (of_decide_eq_true (by kernel_rfl)) (by unfold Func.isWrapper;first | (rw[if_pos (by decide +kernel)];kernel_rfl) | (rw[if_neg (by decide +kernel)];exact ⟨rfl,rfl⟩))
  (λos started H enc _=>lifted os started H enc)
theorem proved:Rows.TopSoloSaid:=over
#print axioms proved
end Go.Proofs.YtkpdpddmaoablaaGreat.topSolo
