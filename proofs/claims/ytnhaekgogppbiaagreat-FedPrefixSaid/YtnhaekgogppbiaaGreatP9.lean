/- Texts of the proof, joined. Conditions: none. -/
import Derived.Test.YtnhaekgogppbiaaGreatP8
import Derived.KernelRfl
section
namespace Go.Proofs.YtnhaekgogppbiaaGreat
open Go Go.E
set_option maxRecDepth 100000
variable {e w:World} {L Q R:List HP} {K:KV} {S S2:HP} {wd:Wd} {k:KS} {M:KM} {p n f s:Nat}
noncomputable def ZtU (wd:Wd) (room:Int):Int:=if (Za4 wd).2≠0 then (Za4 wd).2 else if 1≤room∧room≤16 then 0 else 1
theorem Zq6 {n room:Int} (hn:1≤n∧n≤8) (h:¬(1≤room∧room≤16)) (hk:K (.tuple #[.pointer none,.int .i64 1]) w):Cl prog 17 #[.int .i64 n,.int .i64 room] w K:=by
 refine Zhf ?_
 unfold Zn6
 by_cases c3:room<1
 ·refine Ze7 (by omega) (Zj (Ze (Zle (by omega) (Yd (Zj (Ze (Ztt (by omega) (Yd (Zd (Zd (Yv (Zi ?_))))))))))))
  exact hk
 ·refine Ze7 (by omega) (Zj (Ze (Zle (by omega) (Yd (Zj (Ze (Ze7 (by omega) (Yd (Zj (Ze (ZtF (by omega) (Yd (Zi ?_)))))))))))))
  exact hk
def ndK (wd:Wd) (f:Nat):Nd:=ZpY wd wd.Feds.length f (Zs wd f) (Zcz wd f)
theorem ZhV {j:Nat} (hj:j<wd.Feds.length):Zcz wd (j+1)=Zcz wd j+if (Zs wd j).Kind=0 then 0 else 1:=by
 unfold Zcz
 rw[Zx (ZaN hj),List.filter_append,List.length_append]
 congr 1
 rw[List.filter_cons]
 by_cases h:(Zs wd j).Kind=0
 ·rw[if_neg (by rw[decide_eq_true h];decide),if_pos h];rfl
 ·rw[if_pos (by rw[decide_eq_false h];rfl),if_neg h];rfl
theorem Zs7:Zcz wd wd.Feds.length=Zai wd:=by
 unfold Zcz Zai
 rw[List.take_length]
theorem ZuX:∀(l:List Nat),Sat e w Q→Sat e w (Yh (l.map λ_=>DI (.slice none 0 0) [])::Q)
 | [],h=>Sat.join (l':=[]) h
 | _::l,h=>by
  have h1:=Ziz (ZuX l h)
  have h2:Sat e w ((DI (.slice none 0 0) []::l.map λ_=>DI (.slice none 0 0) [])++Q):=(h1.swap.split.perm List.perm_middle)
  exact Sat.join (l':=DI (.slice none 0 0) []::l.map λ_=>DI (.slice none 0 0) []) h2
theorem Zx5 {α:Type} {j:Nat} (F:Nat→α) (x:α):((List.range (j+1)).map λi=>if i=j then x else F i)=(List.range j).map F++[x]:=by
 rw[List.range_succ,List.map_append]
 congr 1
 ·refine List.map_congr_left λi hi=>?_
  have:=List.mem_range.1 hi
  rw[if_neg (by omega)]
 ·show [if j=j then x else F j]=[x]
  rw[if_pos rfl]
theorem ZuA (m:Nat):Zan.zero m=Zcg m (CL.zero m):=by
 have:(λi=>(List.replicate m (0:Int)).getD i 0)=λ_=>0:=by
  funext i
  rw[List.getD_eq_getElem?_getD,List.getElem?_replicate]
  split <;> rfl
 unfold Zan.zero Zcg CL.zero
 dsimp only
 rw[this]
abbrev nkH (wd:Wd) (j:Nat) (ms:Nat→Nat × Nat):List HP:=(List.range j).map λf=>ndH wd 0 f (ndK wd f) (ms f)
abbrev nkV (wd:Wd) (j:Nat) (ms:Nat→Nat × Nat):List Value:=(List.range j).map λf=>ndV (ndK wd f) (ms f)
theorem ZtP {j:Nat} {ms:Nat→Nat × Nat} {m:Nat × Nat} {nv bv pv:Value} (hj:j<1000) (hpv:pv=ndV (ndK wd j) m) (hS:Sat e w (ndH wd 0 j (ndK wd j) m::Yh (nkH wd j ms)::blk p 62 [.int .i64 wd.End,nv,bv,pt n,.pointer none]::Zz 95 1 one nv (nkV wd j ms)::Q))
  {K:World→Prop} (hk:∀nv' w',Sat e w' (Yh (nkH wd (j+1) λi=>if i=j then m else ms i)::blk p 62 [.int .i64 wd.End,nv',bv,pt n,.pointer none]::Zz 95 1 one nv' (nkV wd (j+1) λi=>if i=j then m else ms i)::Q)→K w') :
  bsl 95 1 1 (Zl prog 95) [(0,pv)] w λt73 w=>apS prog #[59,59] 59 nv t73 w λt74 w=>ncP (pt p)<|fld 1 (pt p) w λt76 w=>stN 1 t76 t74 w λ_ w=>K w:=by
 subst hpv
 have hflat:flat (ndV (ndK wd j) m)=true:=by cases ndK wd j <;> rfl
 have hcells:(ndV (ndK wd j) m).cells.toList=one (ndV (ndK wd j) m):=by cases ndK wd j <;> rfl
 refine ZwC hcells rfl hS λb w1 h1=>?_
 refine Zcs ZVr ZVr.und (f:=one) (l:=nkV wd j ms) (m:=[ndV (ndK wd j) m]) (λ_=>rfl) (λx hx v hv=>by
  rw[List.mem_singleton.1 hx] at hv
  rw[List.mem_singleton.1 hv]
  exact hflat) (h1.selR [_,_,_,_,_] [_,_,_,_,_] [4,0,1,2,3] (by decide) rfl) (Zfu (f:=one) (Nat.le_refl _)) (by rw[List.length_map,List.length_range,List.length_singleton];omega) λnv' w2 h2=>?_
 have q1:=h2.own_cells 0 rfl
 refine Zh (Za (Zpm h2 4 rfl q1 (Nat.le_of_ble_eq_true rfl) (cs':=[.int .i64 wd.End,nv',bv,pt n,.pointer none]) rfl λw3 h3=>?_))
 have h4:Sat e w3 (ndH wd 0 j (ndK wd j) m::Yh (nkH wd j ms)::blk p 62 [.int .i64 wd.End,nv',bv,pt n,.pointer none]::Zz 95 1 one nv' (nkV wd j ms++[ndV (ndK wd j) m])::Q):=h3.selR [_,_,_,_,_] [_,_,_,_] [2,3,4,0] (by decide) rfl
 have h5:=ZiX h4
 have e1:nkH wd (j+1) (λi=>if i=j then m else ms i)=nkH wd j ms++[ndH wd 0 j (ndK wd j) m]:=by
  rw[←Zx5]
  refine List.map_congr_left λi _=>?_
  by_cases h:i=j
  ·subst h;rw[if_pos rfl];dsimp only;rw[if_pos rfl]
  ·rw[if_neg h];dsimp only;rw[if_neg h]
 have e2:nkV wd (j+1) (λi=>if i=j then m else ms i)=nkV wd j ms++[ndV (ndK wd j) m]:=by
  rw[←Zx5]
  refine List.map_congr_left λi _=>?_
  by_cases h:i=j
  ·subst h;rw[if_pos rfl];dsimp only;rw[if_pos rfl]
  ·rw[if_neg h];dsimp only;rw[if_neg h]
 refine hk nv' _ ?_
 rw[e1,e2]
 exact h5
theorem Zu2 {x:WdX} {room:Int} (i:Nat) (hi:L[i]?=some S) (hS:Sat e w L) (hr:∀g,S g→ZtG x g) (hwf:x.wf) (hs:x.short)
  (hbad:ZtU x.w room≠0→∀w',Sat e w' L→K (.tuple #[.pointer none,.int .i64 (ZtU x.w room)]) w')
  (hok:ZtU x.w room=0→∀p w',Sat e w' (Zby p x.w (KS.init x.w room.toNat) 0 0::L)→K (.tuple #[pt p,.int .i64 0]) w'):Cl prog 6 #[.agg x.cs.toArray,.int .i64 room] w K:=by
 refine ZoN ?_
 unfold ZvL
 refine Yp (cs:=x.cs) hS rfl λb w1 h1=>?_
 have hi1:(blk b 25 x.cs::L)[i+1]?=some S:=by simpa using hi
 refine Zo h1 0 (vs:=x.cs) rfl (by rfl) rfl ?_
 refine ZdI (x:=x) (i+1) hi1 h1 hr hwf hs λw2 h2=>?_
 refine Zam (Zal ?_)
 have hxl:x.w.Feds.length=x.Feds.length:=by simp[WdX.w]
 refine ZrP (λc1=>Zi ?_) (λc1=>Zf ?_)
 ·have e1:ZtU x.w room=(Za4 x.w).2:=if_pos c1
  rw[e1] at hbad
  exact hbad c1 _ h2.drop
 have hwd:=ZfI c1
 have hkd:=ZlD c1
 have hn8:=hwd.n
 refine Za (Zb h2 0 rfl (v:=x.fv) rfl (Zt h2 (i+1) hi1 (λg hg=>(hr g hg).feds) ?_))
 by_cases hrm:1≤room∧room≤16
 case neg=>
  have e1:ZtU x.w room=1:=by unfold ZtU;rw[if_neg (λh=>h c1),if_neg hrm]
  rw[e1] at hbad
  refine Zq6 (by omega) hrm ?_
  exact Zam (Zal (Zng (by decide) (Zi (hbad (by decide) _ h2.drop))))
 have e1:ZtU x.w room=0:=by unfold ZtU;rw[if_neg (λh=>h c1),if_pos hrm]
 have hok:=hok e1
 obtain ⟨rm,hrm'⟩:∃r:Nat,room=r:=⟨room.toNat,by omega⟩
 have hrt:room.toNat=rm:=by omega
 rw[hrt] at hok
 refine ZsT (by omega) (by omega) hrm.1 hrm.2 h2 λg w3 h3=>?_
 refine Zam (Zal (ZoP rfl (Zf ?_)))
 refine ZaY h3 λw4 h4=>?_
 refine Za (Zb h4 1 rfl (v:=.int .i64 x.End) rfl ?_)
 have hi4:(Yx g x.Feds.length room (λ_ _=>[])::blk b 25 x.cs::L)[i+2]?=some S:=by simpa using hi
 refine Za (Zb h4 1 rfl (v:=x.fv) rfl (Zt h4 (i+2) hi4 (λg hg=>(hr g hg).feds) ?_))
 refine Zyg ZVu (by omega) h4 one (λ_=>rfl) (.slice none 0 0) (by kernel_rfl) λbv w5 h5=>?_
 refine ⟨Zb h5 2 rfl (v:=.int .i64 x.End) rfl ⟨rfl,rfl⟩,?_⟩
 have q1:=h5.own_cells 0 rfl
 have hEnd:x.End=x.w.End:=rfl
 refine Zaf [.int .i64 x.End,.slice none 0 0,bv,pt g,.pointer none] ?_ ?_
 ·obtain ⟨A,cc,rfl,_⟩:=h5.shape 0 rfl (λ_=>Zp)
  kernel_rfl
 refine Yp (cs:=[.int .i64 x.End,.slice none 0 0,bv,pt g,.pointer none]) h5 rfl λp w6 h6=>?_
 rw[ZTN,ZTr]
 generalize hwdx:x.w=wd at*
 have hEnd:x.End=wd.End:=by rw[←hwdx];rfl
 rw[hEnd,hxl.symm] at h6
 have hi6:∀{A B C D:HP},(A::B::C::D::blk b 25 x.cs::L)[i+5]?=some S:=by simpa using hi
 have h7:Sat e w6 (Yh (nkH wd 0 λ_=>(0,0))::blk p 62 [.int .i64 wd.End,.slice none 0 0,bv,pt g,.pointer none]::Zz 95 1 one (.slice none 0 0) (nkV wd 0 λ_=>(0,0))::Zz 50 1 one bv (List.replicate wd.Feds.length (.slice none 0 0))::Yx g wd.Feds.length room (λ_ _=>[])::blk b 25 x.cs::L):=by
  have h8:=h6.own_nil 95 1 one
  exact Sat.join (l':=[]) (h8.selR [_,_,_,_,_] [_,_,_,_,_] [1,0,2,3,4] (by decide) rfl)
 refine Za (Zb h7 5 rfl (v:=x.fv) rfl (Zt h7 (i+6) (by simpa using hi) (λg hg=>(hr g hg).feds) ?_))
 refine ZjF (λz t11 t51 w=>∃(j:Nat) (nv:Value) (ms:Nat→Nat × Nat),j≤x.Feds.length∧t51=.int .i64 j∧t11=.int .i64 (Zcz wd j:Nat)∧z=x.Feds.length - j∧
   Sat e w (Yh (nkH wd j ms)::blk p 62 [.int .i64 wd.End,nv,bv,pt g,.pointer none]::Zz 95 1 one nv (nkV wd j ms)::Zz 50 1 one bv (List.replicate wd.Feds.length (.slice none 0 0))::Yx g wd.Feds.length room (λ_ _=>[])::blk b 25 x.cs::L)) x.Feds.length
  ⟨0,.slice none 0 0,λ_=>(0,0),Nat.zero_le _,rfl,rfl,rfl,h7⟩ ?_
 rintro z _ _ w8 g1 ⟨j,nv,ms,hj,rfl,rfl,rfl,h8⟩ hg1
 refine Za7 (λc0=>Zi ?_) (λc0=>Zf ?_)
 ·have hjl:j<x.Feds.length:=by omega
  have hjw:j<wd.Feds.length:=by omega
  obtain ⟨fx,hfx⟩:=Zk (l:=x.Feds) (j:=j) hjl
  have hfm:=List.mem_of_getElem? hfx
  have hfa:Zs wd j=fx.f:=by
   have h9:=ZaN hjw
   rw[←hwdx] at h9 ⊢
   have h10:x.w.Feds[j]?=some fx.f:=by simp only[WdX.w];rw[List.getElem?_map,hfx];rfl
   rw[h10] at h9
   exact (Option.some.inj h9).symm
  have hfk:(Zs wd j).Kind=fx.Kind:=by rw[hfa];rfl
  have hi8:∀{A B C D E F:HP},(A::B::C::D::E::F::L)[i+6]?=some S:=by simpa using hi
  refine J1.cut (λt11 w=>∃nv ms,t11=.int .i64 (Zcz wd (j+1):Nat)∧Sat e w (Yh (nkH wd (j+1) ms)::blk p 62 [.int .i64 wd.End,nv,bv,pt g,.pointer none]::Zz 95 1 one nv (nkV wd (j+1) ms)::Zz 50 1 one bv (List.replicate wd.Feds.length (.slice none 0 0))::Yx g wd.Feds.length room (λ_ _=>[])::blk b 25 x.cs::L)) (λk2 hcut=>?_) ?_
  ·refine Zw h8 (i+6) hi8 (λg hg=>(hr g hg).feds) (λ_=>rfl) hfx λa ha=>Ym h8 (i+6) hi8 ha rfl ?_
   refine Yp (cs:=(⟨0,0,0,.slice none 0 0,[],.slice none 0 0,[],.slice none 0 0,[],.slice none 0 0,[]⟩:Zao).cs) h8 rfl λt13 w9 h9=>?_
   refine Zq h9 0 rfl (vs:=fx.cs) rfl rfl (Nat.le_of_ble_eq_true rfl) (Zc1 (i+7) (by simpa using hi) h9 λg hg=>(hr g hg).fed fx hfm) (cs':=fx.cs) (by rfl) λw10 h10=>?_
   refine Za (Zb h10 0 rfl (v:=.int .i64 fx.Kind) rfl ?_)
   have h11:Sat e w10 (Yh (nkH wd j ms)::blk p 62 [.int .i64 wd.End,nv,bv,pt g,.pointer none]::Zz 95 1 one nv (nkV wd j ms)::Zz 50 1 one bv (List.replicate wd.Feds.length (.slice none 0 0))::Yx g wd.Feds.length room (λ_ _=>[])::blk b 25 x.cs::L):=h10.drop
   have hfw:wd.Feds[j]?=some (Zs wd j):=ZaN hjw
   refine ZoR (λck=>Zi ?_) (λck=>Zf ?_)
   ·refine Zo h11 5 (vs:=x.cs) rfl (by rfl) rfl ?_
    have hmay:Zh3 wd j=some (Zs wd j):=by
     unfold Zh3
     rw[if_pos (by omega),Int.toNat_natCast,hfw]
     show (if (Zs wd j).Kind=0 then some (Zs wd j) else none)=_
     rw[if_pos (by rw[hfk];exact ck)]
    refine ZsZ (x:=x) (f:=(j:Int)) (i+6) hi8 h11 hr hwf hs (λh=>absurd c1 (by rw[hwdx] at h;exact h)) (λ_ h=>by rw[hwdx,hmay] at h;cases h) λ_ m fd hm hfd' _ r w12 h12=>?_
    have hmj:m=j:=by omega
    subst hmj
    rw[hwdx] at hfd' h12
    rw[hfw] at hfd'
    obtain rfl:=Option.some.inj hfd'
    refine Zam (Zal (Zh (Za (Zb h12 2 rfl (v:=nv) rfl ?_))))
    refine Zaf [pt r] (by kernel_rfl) ?_
    have hndk:ndK wd m=.slow (ZoV wd.Feds.length m (Zs wd m)):=Zgj (by rw[hfk];exact ck)
    refine ZtP (j:=m) (m:=(r,0)) (by omega) (by rw[hndk];rfl) (Q:=Zz 50 1 one bv (List.replicate wd.Feds.length (.slice none 0 0))::Yx g wd.Feds.length room (λ_ _=>[])::blk b 25 x.cs::L) (ms:=ms) (by rw[hndk];exact h12) λnv' w13 h13=>?_
    refine hcut _ _ ⟨nv',_,?_,h13⟩
    rw[ZhV hjw,if_pos (by rw[hfk];exact ck)]
    rfl
   ·refine Zo h11 5 (vs:=x.cs) rfl (by rfl) rfl ?_
    have hk1:(Zs wd j).Kind=1:=by
     rcases hkd _ (List.mem_of_getElem? hfw) with h | h
     ·rw[hfk] at h;exact absurd h ck
     ·exact h
    have hmay:Zhq wd j=some (Zs wd j):=by
     unfold Zhq
     rw[if_pos (by omega),Int.toNat_natCast,hfw]
     show (if (Zs wd j).Kind=1 then some (Zs wd j) else none)=_
     rw[if_pos hk1]
    refine Ztr (x:=x) (f:=(j:Int)) (i+6) hi8 h11 hr hwf hs (λh=>absurd c1 (by rw[hwdx] at h;exact h)) (λ_ h=>by rw[hwdx,hmay] at h;cases h) λ_ m fd hm hfd' _ r w12 h12=>?_
    have hmj:m=j:=by omega
    subst hmj
    rw[hwdx] at hfd' h12
    rw[hfw] at hfd'
    obtain rfl:=Option.some.inj hfd'
    refine Zam (Zal (Zh (Za (Zb h12 2 rfl (v:=nv) rfl ?_))))
    refine Zaf [pt r,.int .i64 (Zcz wd m:Nat),.int .i64 0] (by kernel_rfl) ?_
    refine Yp (cs:=[pt r,.int .i64 (Zcz wd m:Nat),.int .i64 0]) h12 rfl λbb w13 h13=>?_
    have hndk:ndK wd m=.bold (ZiQ wd) (Zcz wd m) 0:=Zgb (by rw[hfk];exact ck)
    refine ZtP (j:=m) (m:=(r,bb)) (by omega) (by rw[hndk];rfl) (Q:=Zz 50 1 one bv (List.replicate wd.Feds.length (.slice none 0 0))::Yx g wd.Feds.length room (λ_ _=>[])::blk b 25 x.cs::L) (ms:=ms) (by rw[hndk];exact Sat.join (l':=[_,_]) h13) λnv' w14 h14=>?_
    refine Yr (by have:=ZhV hjw;have:Zcz wd m≤wd.Feds.length:=Nat.le_trans (List.length_filter_le _ _) (by rw[List.length_take];omega);omega) ?_
    refine hcut _ _ ⟨nv',_,?_,h14⟩
    rw[ZhV hjw,if_neg (by rw[hfk];exact ck)]
  ·rintro _ w9 ⟨nv',ms',rfl,h9⟩
   refine Yr (by omega) ?_
   exact hg1 _ _ _ _ (by omega) ⟨j+1,nv',ms',by omega,rfl,rfl,rfl,h9⟩
 ·have ej:j=wd.Feds.length:=by omega
  subst ej
  rw[Zs7]
  have hb8:=Zk9 hwd
  generalize hk0:KS.init0 wd rm=k0
  have hki:=Zqp c1 rm
  rw[hk0] at hki
  have hnd:∀f,f<wd.Feds.length→k0.node f=ndK wd f:=λf hf=>by rw[←hk0,Zgi hf];rfl
  have hbx:∀f,k0.box f=[]:=λf=>by rw[←hk0];exact ZmC rm f
  have hcut0:k0.cut=if Zai wd=0 then none else some (CL.zero (Zai wd)):=by rw[←hk0];rfl
  have parts:∀{w:World} (c:Nat) {Q:List HP},Sat e w (Yh (nkH wd wd.Feds.length ms)::blk p 62 [.int .i64 wd.End,nv,bv,pt g,ZG0 k0.cut c]::Zz 95 1 one nv (nkV wd wd.Feds.length ms)::Zz 50 1 one bv (List.replicate wd.Feds.length (.slice none 0 0))::Yx g wd.Feds.length room (λ_ _=>[])::ZBC (Zai wd) k0.cut c::Q)→
    Sat e w (KP p wd 0 k0 ⟨nv,bv,g,c,ms,λ_=>.slice none 0 0⟩++Q):=by
   intro w c Q h
   have h9:=ZuX (List.range wd.Feds.length) h
   have e2:Zat wd 0 k0 ⟨nv,bv,g,c,ms,λ_=>.slice none 0 0⟩=nkH wd wd.Feds.length ms:=List.map_congr_left λf hf=>by rw[hnd f (List.mem_range.1 hf)]
   have e3:Zar wd k0 ⟨nv,bv,g,c,ms,λ_=>.slice none 0 0⟩=(List.range wd.Feds.length).map λ_=>DI (.slice none 0 0) []:=List.map_congr_left λf _=>by rw[hbx]
   have e4:Zju wd k0 ⟨nv,bv,g,c,ms,λ_=>.slice none 0 0⟩=nkV wd wd.Feds.length ms:=List.map_congr_left λf hf=>by rw[hnd f (List.mem_range.1 hf)]
   have e5:Zg7 wd ⟨nv,bv,g,c,ms,λ_=>.slice none 0 0⟩=List.replicate wd.Feds.length (.slice none 0 0):=by
    show ((List.range wd.Feds.length).map λ_=>Value.slice none 0 0)=_
    rw[List.map_const',List.length_range]
   have e6:(λa b=>k0.q a b)=λ_ _=>[]:=by
    funext a b
    rw[←hk0]
    exact ZqT rm a b
   have e7:(k0.room:Int)=room:=by rw[←hk0,hrm'];rfl
   show Sat e w ([Yh (Zat wd 0 k0 _),Yh (Zar wd k0 _),blk p _ _,Zz _ 1 one _ (Zju wd k0 _),Zz _ 1 one _ (Zg7 wd _),Yx _ _ _ (λa b=>k0.q a b),ZBC (Zai wd) k0.cut _]++Q)
   rw[e2,e3,e4,e5,e6,e7]
   exact h9.selR [_,_,_,_,_,_,_] [_,_,_,_,_,_,_] [1,0,2,3,4,5,6] (by decide) rfl
  refine ZFJ ?_
  refine J0.cut (λw=>∃M',Sat e w (KP p wd 0 k0 M'++blk b 25 x.cs::L)) (λk3 hcut=>?_) ?_
  ·by_cases hb:Zai wd=0
   ·have e2:k0.cut=none:=by rw[hcut0,if_pos hb]
    rw[decide_eq_false (by omega)]
    refine Zf (hcut _ ⟨_,parts 0 ?_⟩)
    rw[e2]
    have h9:=h8.mk_pure (p:=True) trivial
    exact h9.selR [_,_,_,_,_,_,_] [_,_,_,_,_,_,_] [1,2,3,4,5,0,6] (by decide) rfl
   ·have e2:k0.cut=some (CL.zero (Zai wd)):=by rw[hcut0,if_neg hb]
    rw[decide_eq_true (by omega)]
    refine Zi ?_
    refine ZuG (by omega) (by omega) h8 λc w9 h9=>?_
    refine Zam (Zal (Zh (Za (Zq h9 2 rfl (vs:=[pt c]) rfl rfl (Nat.le_of_ble_eq_true rfl) (by simp[flat]) (cs':=[.int .i64 wd.End,nv,bv,pt g,pt c]) (by rfl) λw10 h10=>?_))))
    refine hcut _ ⟨_,parts c ?_⟩
    rw[e2]
    rw[ZuA] at h10
    exact h10.selR [_,_,_,_,_,_,_] [_,_,_,_,_,_,_] [1,2,3,4,5,0,6] (by decide) rfl
  ·rintro w9 ⟨M',h9⟩
   refine Zo h9 7 (vs:=x.cs) rfl (by rfl) rfl ?_
   refine ZwB (x:=x) (i+8) (by simpa using hi) h9 hr hs (by have:=hwd.tree;rw[←hwdx] at this;exact this) (by omega) (λf hf=>?_) λv w10 h10 hsl=>?_
   ·have hfm:f.f∈wd.Feds:=by rw[←hwdx];exact List.mem_map_of_mem hf
    have h:=hwd.init f.f hfm
    have hp:wd.Parents=x.Parents:=by rw[←hwdx];rfl
    rw[hp] at h
    exact ⟨h.1,λo ho=>(h.2 o ho).1⟩
   ·rw[hwdx] at h10 hsl
    have hmem:=λm (h:m∈Zaz wd.Parents wd.Feds wd.Feds)=>Znu h
    have hmok:=λm (h:m∈Zaz wd.Parents wd.Feds wd.Feds)=>Zql (wd:=wd) h
    have hfin:(Zaz wd.Parents wd.Feds wd.Feds).foldl ZxY k0=KS.init wd rm:=by rw[←hk0,←ZuV]
    generalize Zaz wd.Parents wd.Feds wd.Feds=l at h10 hsl hmem hmok hfin
    refine Zt h10 0 rfl (λ_=>Zp) ?_
    refine Zdk (λz t113 w=>∃j:Nat,j≤l.length∧t113=.int .i64 j∧z=l.length - j∧∃M',Sat e w (Zz 81 6 Msg.cs v l::(KP p wd 0 ((l.take j).foldl ZxY k0) M'++blk b 25 x.cs::L))) l.length ⟨0,Nat.zero_le _,rfl,rfl,M',h10⟩ ?_
    rintro z _ w11 g4 ⟨j,hj',rfl,rfl,M2,h11⟩ hg4
    refine Za7 (λc5=>Zi ?_) (λc5=>Zf ?_)
    ·obtain ⟨m,hm⟩:=Zk (l:=l) (j:=j) (by omega)
     have hml:=List.mem_of_getElem? hm
     obtain ⟨fi,fd,hfi,hsp⟩:=hmem m hml
     have hfrom:m.key.From=(fi:Int):=(Zpu hsp).from'
     have hfil:fi<wd.Feds.length:=(List.getElem?_eq_some_iff.1 hfi).1
     have hpre:=Zof (wd:=wd) (l.take j) k0 0 (λy hy=>hmok y (List.mem_of_mem_take hy)) hki
     rw[List.length_take] at hpre
     refine Zw h11 0 rfl (λ_=>Zp) (λ_=>rfl) hm λa ha=>Ym h11 0 rfl ha rfl ?_
     refine Yp (cs:=Msg.zero.cs) h11 rfl λt19 w12 h12=>?_
     refine Zq h12 0 rfl (vs:=m.cs) rfl rfl (by decide) (Zg _) (cs':=m.cs) (by rfl) λw13 h13=>?_
     refine Za (Za (Zb h13 0 rfl (v:=.int .i64 m.key.From) rfl ?_))
     refine Zo h13 0 (vs:=m.cs) rfl (by rfl) rfl ?_
     refine Zaf (Zae m).cs (by kernel_rfl) ?_
     refine ZwC (vs:=(Zae m).cs) rfl rfl h13 λbb w14 h14=>?_
     rw[hfrom]
     have h15:Sat e w14 (KP p wd 0 ((l.take j).foldl ZxY k0) M2++blk bb 84 (Zae m).cs::(Zz 81 6 Msg.cs v l::blk b 25 x.cs::L)):=h14.selR [_,_,_,_,_,_,_,_,_,_,_] [_,_,_,_,_,_,_,_,_,_] [3,4,5,6,7,8,9,0,2,10] (by decide) rfl
     refine ZdQ (l:=[Zae m]) (S:=blk bb 84 (Zae m).cs) hfil hpre.bl (Nat.le_trans (hpre.len fi) (by omega)) (Nat.le_of_ble_eq_true rfl) h15 (Zfu (f:=Zn.cs) (Nat.le_refl _)) λM3 w16 _ h16=>?_
     refine Yr (by omega) ?_
     refine hg4 _ _ _ (by omega) ⟨j+1,by omega,rfl,rfl,M3,?_⟩
     have e9:(l.take (j+1)).foldl ZxY k0=((l.take j).foldl ZxY k0).put fi [Zae m]:=by
      rw[Zx hm,List.foldl_append]
      show KS.put _ m.key.From.toNat [Zae m]=_
      rw[hfrom,Int.toNat_natCast]
     rw[e9]
     exact h16.selR [_,_,_,_,_,_,_,_,_,_] [_,_,_,_,_,_,_,_,_] [8,0,1,2,3,4,5,6,9] (by decide) rfl
    ·have ej:j=l.length:=by omega
     rw[ej,List.take_length,hfin] at h11
     have hki2:=Ze1.init c1 rm
     exact hok p _ (ZkQ hki2 (h11.selR [_,_,_,_,_,_,_,_,_] [_,_,_,_,_,_,_] [1,2,3,4,5,6,7] (by decide) rfl))
end Go.Proofs.YtnhaekgogppbiaaGreat
end
section
namespace Go.Proofs.YtnhaekgogppbiaaGreat
open Go Go.E
set_option maxRecDepth 100000
section
variable (wd:Wd)
def dl1 (a b:Nat) (p:Bool × KS):Bool × KS:=if p.1=true then (!decide ((p.2.deliver wd a b).1=2),(p.2.deliver wd a b).2) else p
def fl1 (a:Nat) (k:KS):KS:=(k.flush a).2
def ZvX (n a:Nat) (p:Bool × KS):Bool × KS:=(List.range n).foldl (λp b=>rep (dl1 wd a b) 8 p) (p.1,rep (fl1 a) 24 p.2)
def ZBa (p:Bool × KS) (a:Nat):Bool × KS:=(p.1&&(!decide ((p.2.step wd a).1=2) || !(p.2.box a).isEmpty),((p.2.step wd a).2.tell wd a).2)
def tr1 (k:KS) (a:Nat):KS:=(k.turn a).2
def rp1 (k:KS) (a:Nat):KS:=(k.report wd a).2
def ZkX (n:Nat) (k:KS):Bool × KS:=
 let p1:=(List.range n).foldl (λp a=>ZvX wd n a p) (true,k)
 let p2:=(List.range n).foldl (ZBa wd) p1
 (p2.1,(List.range n).foldl (rp1 wd) ((List.range n).foldl tr1 p2.2.begin'.2))
def ZmK (n m:Nat) (k:KS):KS:=rep (λk=>(ZkX wd n k).2) m k
end
def Zpx (wd:Wd) (k:KS):List (List (List Int)):=[((k.node 0).log wd 0).map Zak.ns,((k.node 1).log wd 1).map Zak.ns]
def ZFM:RS:=(Zul (Zb2 0 0) 150 (ZF4 (Zb2 0 0))).2
def Zlf:List (List (List Int)):=ZFM.feds.map λa=>a.log.map Zak.ns
def ZsX (n:Nat) (a b:Int) (room:Nat):Bool:=(ZmK (Zb2 a b) 2 n (KS.init (Zb2 a b) room)).quiet (Zb2 a b)&&decide (Zpx (Zb2 a b) (ZmK (Zb2 a b) 2 n (KS.init (Zb2 a b) room))=Zlf)
end Go.Proofs.YtnhaekgogppbiaaGreat
end
section
namespace Go.Proofs.YtnhaekgogppbiaaGreat
open Go Go.E
set_option maxRecDepth 100000
variable {wd:Wd}
theorem ZoO {α:Type} {P:α→Prop} {f:α→α} (hf:∀x,P x→P (f x)):∀(n:Nat) (x:α),P x→P (rep f n x)
 | 0,_,h=>h
 | n+1,x,h=>ZoO hf n (f x) (hf x h)
theorem Zig {α:Type} {P:α→Prop} {g:α→Nat→α} {N:Nat} (hg:∀x a,a<N→P x→P (g x a)) {x:α} (h:P x):P ((List.range N).foldl g x):=by
 have key:∀(l:List Nat) (x:α),(∀a∈l,a<N)→P x→P (l.foldl g x):=by
  intro l
  induction l with
  | nil=>exact λx _ h=>h
  | cons a l ih=>exact λx hl h=>ih _ (λb hb=>hl b (List.mem_cons_of_mem _ hb)) (hg x a (hl a (List.mem_cons_self ..)) h)
 exact key _ x (λa ha=>List.mem_range.1 ha) h
theorem Ztz {P:KS→Prop} {N:Nat} (hP:∀k kind a b,(kind≠4→a<N)→(kind=2→b<N)→P k→P (k.do' wd kind a b).2) {k:KS} (h:P k):P (ZkX wd N k).2:=by
 unfold ZkX
 dsimp only
 have h1:P ((List.range N).foldl (λp a=>ZvX wd N a p) (true,k)).2:=by
  refine Zig (P:=λp:Bool × KS=>P p.2) (λx a ha hx=>?_) h
  unfold ZvX
  have h24:P (rep (fl1 a) 24 x.2):=ZoO (P:=P) (f:=fl1 a) (λz hz=>hP z 1 a 0 (λ_=>ha) (λh=>by cases h) hz) 24 x.2 hx
  generalize rep (fl1 a) 24 x.2=kf at h24 ⊢
  refine Zig (P:=λp:Bool × KS=>P p.2) (x:=(x.1,kf)) (λy b hb hy=>?_) h24
  refine ZoO (P:=λp:Bool × KS=>P p.2) (f:=dl1 wd a b) (λz hz=>?_) 8 y hy
  unfold dl1
  split
  ·exact hP z.2 2 a b (λ_=>ha) (λ_=>hb) hz
  ·exact hz
 have h2:P ((List.range N).foldl (ZBa wd) ((List.range N).foldl (λp a=>ZvX wd N a p) (true,k))).2:=
  Zig (P:=λp:Bool × KS=>P p.2) (λx a ha hx=>hP _ 3 a 0 (λ_=>ha) (λh=>by cases h) (hP _ 0 a 0 (λ_=>ha) (λh=>by cases h) hx)) h1
 have h3:=hP _ 4 0 0 (λh=>absurd rfl h) (λh=>by cases h) h2
 have h4:=Zig (P:=P) (g:=tr1) (N:=N) (λx a ha hx=>hP x 5 a 0 (λ_=>ha) (λh=>by cases h) hx) h3
 exact Zig (P:=P) (g:=rp1 wd) (N:=N) (λx a ha hx=>hP x 6 a 0 (λ_=>ha) (λh=>by cases h) hx) h4
theorem Zsm {P:KS→Prop} {N:Nat} (hP:∀k kind a b,(kind≠4→a<N)→(kind=2→b<N)→P k→P (k.do' wd kind a b).2) (m:Nat) {k:KS} (h:P k):P (ZmK wd N m k):=ZoO (P:=P) (f:=λk=>(ZkX wd N k).2) (λ_ hx=>Ztz hP hx) m k h
theorem Zn3 (N m j:Nat) (k:KS):ZmK wd N (m+j) k=ZmK wd N j (ZmK wd N m k):=by
 unfold ZmK
 induction m generalizing k with
 | zero=>rw[Nat.zero_add];rfl
 | succ m ih=>rw[Nat.succ_add];exact ih _
theorem Zqk (N m:Nat) (k:KS):ZmK wd N (m+1) k=(ZkX wd N (ZmK wd N m k)).2:=Zn3 N m 1 k
def ZvV (wd:Wd) (k:KS):Prop:=∃s,Ze1 wd k s
theorem ZvV.do' {k:KS} (h:ZvV wd k) (kind a b:Nat) (ha:kind≠4→a<wd.Feds.length) (hb:kind=2→b<wd.Feds.length):ZvV wd (k.do' wd kind a b).2:=by
 obtain ⟨s,hs⟩:=h
 exact ⟨s+1,hs.do' kind a b ha hb⟩
theorem ZvV.run {k:KS} (h:ZvV wd k) {N:Nat} (hN:N≤wd.Feds.length) (m:Nat):ZvV wd (ZmK wd N m k):=
 Zsm (P:=ZvV wd) (λ_ kind a b ha hb hk=>hk.do' kind a b (λh=>Nat.lt_of_lt_of_le (ha h) hN) (λh=>Nat.lt_of_lt_of_le (hb h) hN)) m h
theorem Zkd {k:KS} (hI:ZvV wd k) (h:k.quiet wd=true):ZgS wd k:=by
 obtain ⟨s,hI⟩:=hI
 unfold KS.quiet at h
 rw[Bool.and_eq_true,List.all_eq_true,List.all_eq_true] at h
 obtain ⟨h1,h2⟩:=h
 refine ⟨λf i hi=>?_,λa b i hi=>?_,λf=>?_⟩
 ·by_cases hf:f<wd.Feds.length
  ·have h3:=h2 f (List.mem_range.2 (by rw[hI.nl];exact hf))
   rw[Bool.and_eq_true,List.all_eq_true] at h3
   exact of_decide_eq_true (h3.1 i hi)
  ·exfalso
   unfold KS.box at hi
   rw[List.getD_eq_getElem?_getD,List.getElem?_eq_none (by rw[hI.bl];omega)] at hi
   cases hi
 ·unfold KS.q at hi
  by_cases ha:a<k.net.length
  ·by_cases hb:b<(k.net.getD a []).length
   ·have e1:(k.net.getD a [])∈k.net:=by
     rw[List.getD_eq_getElem?_getD,List.getElem?_eq_getElem ha]
     exact List.getElem_mem ha
    have e2:((k.net.getD a []).getD b [])∈k.net.getD a []:=by
     rw[List.getD_eq_getElem?_getD (l:=k.net.getD a []),List.getElem?_eq_getElem hb]
     exact List.getElem_mem hb
    have h3:=List.all_eq_true.1 (h1 _ e1) _ e2
    exact of_decide_eq_true (List.all_eq_true.1 h3 i hi)
   ·rw[List.getD_eq_getElem?_getD (l:=k.net.getD a []),List.getElem?_eq_none (by omega)] at hi
    cases hi
  ·rw[List.getD_eq_getElem?_getD (l:=k.net),List.getElem?_eq_none (by omega)] at hi
   cases hi
 ·by_cases hf:f<wd.Feds.length
  ·have h3:=h2 f (List.mem_range.2 (by rw[hI.nl];exact hf))
   rw[Bool.and_eq_true] at h3
   have idle:∀q:List Msg,(!(ZjD q&&decide ((hdM q).key.T<wd.End)))=true→Zrm wd q:=by
    rintro q h ⟨h4,h5⟩
    rw[h4,decide_eq_true h5] at h
    cases h
   cases hn:k.node f with
   | slow N=>
    rw[hn] at h3
    exact idle _ h3.2
   | bold N r t=>
    rw[hn] at h3
    have h4:=h3.2
    rw[Bool.and_eq_true] at h4
    exact ⟨idle _ h4.1,List.isEmpty_iff.1 h4.2⟩
  ·have:k.node f=.slow ⟨⟨[],0,0⟩,[],0,0,[]⟩:=by
    unfold KS.node
    rw[List.getD_eq_getElem?_getD,List.getElem?_eq_none (by rw[hI.nl];omega)]
    rfl
   rw[this]
   exact λh=>by cases h.1
theorem Zj4 {k:KS} (h:ZgS wd k):k.quiet wd=true:=by
 unfold KS.quiet
 rw[Bool.and_eq_true,List.all_eq_true,List.all_eq_true]
 refine ⟨λr hr=>?_,λf _=>?_⟩
 ·rw[List.all_eq_true]
  intro l hl
  rw[List.all_eq_true]
  intro i hi
  obtain ⟨a,ha⟩:=List.getElem?_of_mem hr
  obtain ⟨b,hb⟩:=List.getElem?_of_mem hl
  have e1:k.net.getD a []=r:=by rw[List.getD_eq_getElem?_getD,ha];rfl
  have e2:k.q a b=l:=by
   show (k.net.getD a []).getD b []=l
   rw[e1,List.getD_eq_getElem?_getD,hb]
   rfl
  exact decide_eq_true (h.net a b i (by rw[e2];exact hi))
 ·have hn:=h.node f
  have hb:((k.box f).all λi=>decide (i.Kind=2))=true:=List.all_eq_true.2 λi hi=>decide_eq_true (h.boxes f i hi)
  have idle:∀q:List Msg,Zrm wd q→(!(ZjD q&&decide ((hdM q).key.T<wd.End)))=true:=by
   intro q h
   cases h1:ZjD q with
   | false=>rfl
   | true=>
    rw[decide_eq_false (λh2=>h ⟨h1,h2⟩)]
    rfl
  rw[hb,Bool.true_and]
  cases hnd:k.node f with
  | slow N=>
   rw[hnd] at hn
   exact idle _ hn
  | bold N r t=>
   rw[hnd] at hn
   show ((!_)&&_)=true
   rw[idle _ hn.1,hn.2]
   rfl
theorem Zsn {k:KS} (h:ZgS wd k) (N m:Nat):ZgS wd (ZmK wd N m k)∧Zb5 wd k (ZmK wd N m k):=
 Zsm (P:=λx=>ZgS wd x∧Zb5 wd k x) (λ_ kind a b _ _ hx=>⟨(hx.1.do' kind a b).1,λf=>((hx.1.do' kind a b).2 f).trans (hx.2 f)⟩) m ⟨h,λ_=>rfl⟩
theorem ZFQ:((List.range 16).all λr=>ZsX 17 0 0 (r+1))=true:=by kernel_rfl
theorem ZGh:((List.range 16).all λr=>ZsX 17 0 1 (r+1))=true:=by kernel_rfl
theorem ZGm:((List.range 16).all λr=>ZsX 17 1 0 (r+1))=true:=by kernel_rfl
theorem ZGp:((List.range 16).all λr=>ZsX 17 1 1 (r+1))=true:=by kernel_rfl
theorem Zwa:Zlf.map List.length=[3,4]:=by kernel_rfl
theorem Zvw:((KS.init (Zb2 0 1) 8).box 0).length=1∧(KS.init (Zb2 0 1) 8).quiet (Zb2 0 1)=false:=⟨by kernel_rfl,by kernel_rfl⟩
def bit (x:Int):Prop:=x=0∨x=1
theorem ZCx {a b:Int} (ha:bit a) (hb:bit b) {room:Nat} (hr:1≤room∧room≤16):ZsX 17 a b room=true:=by
 have hm:room - 1∈List.range 16:=List.mem_range.2 (by omega)
 have e:room - 1+1=room:=by omega
 rcases ha with rfl | rfl <;> rcases hb with rfl | rfl
 ·have:=List.all_eq_true.1 ZFQ _ hm;rwa [e] at this
 ·have:=List.all_eq_true.1 ZGh _ hm;rwa [e] at this
 ·have:=List.all_eq_true.1 ZGm _ hm;rwa [e] at this
 ·have:=List.all_eq_true.1 ZGp _ hm;rwa [e] at this
theorem Zqg {a b:Int} (hok:(Za4 (Zb2 a b)).2=0) (ha:bit a) (hb:bit b) {room:Nat} (hr:1≤room∧room≤16) {m:Nat} (hm:17≤m) :
  ZgS (Zb2 a b) (ZmK (Zb2 a b) 2 m (KS.init (Zb2 a b) room))∧Zpx (Zb2 a b) (ZmK (Zb2 a b) 2 m (KS.init (Zb2 a b) room))=Zlf:=by
 have h1:=ZCx ha hb hr
 unfold ZsX at h1
 rw[Bool.and_eq_true] at h1
 have hI:ZvV (Zb2 a b) (KS.init (Zb2 a b) room):=⟨0,Ze1.init hok room⟩
 have hR:=Zkd (hI.run (N:=2) (Nat.le_refl _) 17) h1.1
 obtain ⟨h2,h3⟩:=Zsn hR 2 (m - 17)
 rw[←Zn3,show 17+(m - 17)=m from by omega] at h2 h3
 refine ⟨h2,?_⟩
 rw[←of_decide_eq_true h1.2]
 unfold Zpx
 rw[h3 0,h3 1]
theorem Zsv {wd:Wd} {k:KS} (h:Zpx wd k=Zlf):((k.node 0).log wd 0).length=3∧((k.node 1).log wd 1).length=4:=by
 have h1:=Zwa
 rw[←h] at h1
 unfold Zpx at h1
 simp only[List.map_cons,List.map_nil,List.length_map,List.cons.injEq,and_true] at h1
 exact h1
variable {e w:World} {L Q R:List HP} {K:KV} {S S2:HP} {k:KS} {M:KM} {p n f s:Nat}
theorem ZLK {x:WdX} (i:Nat) (hi:L[i]?=some S) (hS:Sat e w L) (hr:∀g,S g→ZtG x g) (hk:∀w' (b:Bool),Sat e w' L→(b=true→x.short)→K (.bool b) w'):Cl prog 4 #[.agg x.cs.toArray] w K:=by
 refine ZJ1 ?_
 unfold ZJJ
 refine Yp (cs:=x.cs) hS rfl λb w1 h1=>?_
 have hno:∀w',Sat e w' (blk b 25 x.cs::L)→K (.bool false) w':=λw' h'=>hk w' false h'.drop (λh=>by cases h)
 refine Za (Zb h1 0 rfl (v:=x.pv) rfl ?_)
 refine Zt h1 (i+1) (by simpa using hi) (λg hg=>(hr g hg).par) ?_
 by_cases c1:(50:Int)<x.Parents.length
 ·refine ZtF (by omega) (Zd (Zd (Zd (Zd (Yv (Zi ?_))))))
  exact hno _ h1
 refine Zle c1 (Zj (Za (Zj (Zb h1 0 rfl (v:=x.fv) rfl (Zj ?_)))))
 refine Zt h1 (i+1) (by simpa using hi) (λg hg=>(hr g hg).feds) ?_
 by_cases c2:(20:Int)<x.Feds.length
 ·refine Ze (ZtF (by omega) (Yd (Zi ?_)))
  exact hno _ h1
 refine Zj (Zle c2 (Yd (Zf ?_)))
 rw[ZTN]
 refine Zdk (λq t w=>∃j:Nat,j≤x.Feds.length∧t=.int .i64 j∧q=x.Feds.length - j∧(∀f∈x.Feds.take j,f.short)∧Sat e w (blk b 25 x.cs::L)) x.Feds.length ⟨0,Nat.zero_le _,rfl,rfl,by simp,h1⟩ ?_
 rintro q _ w g ⟨j,hj,rfl,rfl,hall,h2⟩ hg
 refine Za (Zb h2 0 rfl (v:=x.fv) rfl ?_)
 refine Zt h2 (i+1) (by simpa using hi) (λg hg=>(hr g hg).feds) (Za7 (λc=>Zi ?_) (λc=>Zf ?_))
 ·obtain ⟨fd,hf⟩:=Zk (l:=x.Feds) (j:=j) (by omega)
  have hfm:=List.mem_of_getElem? hf
  refine Za (Zb h2 0 rfl (v:=x.fv) rfl ?_)
  refine Zw h2 (i+1) (by simpa using hi) (λg hg=>(hr g hg).feds) (λ_=>rfl) hf λa ha=>(Ym h2 (i+1) (by simpa using hi) ha rfl ?_)
  refine Yp (cs:=[.int .i64 0,.int .i64 0,.int .i64 0,.slice none 0 0,.slice none 0 0,.slice none 0 0,.slice none 0 0]) h2 rfl λt w5 h5=>(Zq h5 0 rfl (vs:=fd.cs) rfl rfl (by simp) (Zc1 i hi hS λg hg=>(hr g hg).fed fd hfm) (cs':=fd.cs) (by rfl) λw6 h6=>?_)
  have hi6:(blk t 46 fd.cs::blk b 25 x.cs::L)[i+2]?=some S:=by simpa using hi
  refine Za (Zb h6 0 rfl (v:=fd.rv) rfl ?_)
  refine Zt h6 (i+2) hi6 (λg hg=>((hr g hg).fed fd hfm).rules.s) ?_
  by_cases d1:(60:Int)<fd.Rules.length
  ·refine ZtF (by omega) (Zd (Zd (Zd (Zd (Yv (Zd (Zd (Zd (Zd (Yv (Zd (Zd (Zd (Zd (Yv (Zi ?_))))))))))))))))
   exact hno _ h6.drop
  refine Zle d1 (Zj (Za (Zj (Zb h6 0 rfl (v:=fd.pv) rfl (Zj ?_)))))
  refine Zt h6 (i+2) hi6 (λg hg=>((hr g hg).fed fd hfm).pubs) ?_
  by_cases d2:(50:Int)<fd.Pubs.length
  ·refine Ze (ZtF (by omega) (Yd (Zd (Zd (Zd (Zd (Yv (Zd (Zd (Zd (Zd (Yv (Zi ?_)))))))))))))
   exact hno _ h6.drop
  refine Zj (Zle d2 (Yd (Zj (Za (Zj (Zb h6 0 rfl (v:=fd.sv) rfl (Zj ?_)))))))
  refine Zt h6 (i+2) hi6 (λg hg=>((hr g hg).fed fd hfm).subs) ?_
  by_cases d3:(50:Int)<fd.Subs.length
  ·refine Ze (ZtF (by omega) (Yd (Zd (Zd (Zd (Zd (Yv (Zi ?_))))))))
   exact hno _ h6.drop
  refine Zj (Zle d3 (Yd (Zj (Za (Zj (Zb h6 0 rfl (v:=fd.iv) rfl (Zj ?_)))))))
  refine Zt h6 (i+2) hi6 (λg hg=>((hr g hg).fed fd hfm).init) ?_
  by_cases d4:(20:Int)<fd.Init.length
  ·refine Ze (ZtF (by omega) (Yd (Zi ?_)))
   exact hno _ h6.drop
  refine Zj (Zle d4 (Yd (Zf ?_)))
  refine Zdk (λq t' w=>∃n:Nat,n≤fd.Rules.length∧t'=.int .i64 n∧q=fd.Rules.length - n∧(∀r∈fd.Rules.take n,r.Sends.length≤1000)∧Sat e w (blk t 46 fd.cs::blk b 25 x.cs::L)) fd.Rules.length ⟨0,Nat.zero_le _,rfl,rfl,by simp,h6⟩ ?_
  rintro q _ w g2 ⟨n,hn,rfl,rfl,hall2,h7⟩ hg2
  refine Za (Zb h7 0 rfl (v:=fd.rv) rfl ?_)
  refine Zt h7 (i+2) hi6 (λg hg=>((hr g hg).fed fd hfm).rules.s) (Za7 (λc3=>Zi ?_) (λc3=>Zf ?_))
  ·obtain ⟨r,hrn⟩:=Zk (l:=fd.Rules) (j:=n) (by omega)
   have hrm:=List.mem_of_getElem? hrn
   refine Za (Zb h7 0 rfl (v:=fd.rv) rfl ?_)
   refine Zw h7 (i+2) hi6 (λg hg=>((hr g hg).fed fd hfm).rules.s) (λ_=>rfl) hrn λa ha=>(Zbd ha λa1 ha1=>?_)
   refine Yt h7 (i+2) hi6 ha1 (v:=r.sv) rfl (Zt h7 (i+2) hi6 (λg hg=>((hr g hg).fed fd hfm).rules.e r hrm) ?_)
   refine Ztu (λc4=>Zi (hno _ h7.drop)) (λc4=>Zf (Yr (by omega) ?_))
   refine hg2 _ _ _ (by omega) ⟨n+1,by omega,rfl,rfl,λy hy=>?_,h7⟩
   rw[Zx hrn] at hy
   rcases List.mem_append.1 hy with h | h
   ·exact hall2 y h
   ·rw[List.mem_singleton.1 h];omega
  ·have en:n=fd.Rules.length:=by omega
   rw[en,List.take_length] at hall2
   refine Yr (by omega) (hg _ _ _ (by omega) ⟨j+1,by omega,rfl,rfl,λy hy=>?_,h7.drop⟩)
   rw[Zx hf] at hy
   rcases List.mem_append.1 hy with h | h
   ·exact hall y h
   ·rw[List.mem_singleton.1 h]
    exact ⟨by omega,by omega,by omega,by omega,hall2⟩
 ·have ej:j=x.Feds.length:=by omega
  rw[ej,List.take_length] at hall
  exact hk _ true h2.drop λ_=>⟨by omega,by omega,hall⟩
theorem Zud {u v:Value} {l:List Zak} (i j:Nat) (hi:L[i]?=some S) (hj:L[j]?=some S2) (hS:Sat e w L) (hr:∀g,S g→rdS 7 Zak.cs u l g) (hr2:∀g,S2 g→rdS 7 Zak.cs v l g) (hl:l.length≤1000000)
  (hk:∀w',Sat e w' L→K (.bool true) w'):Cl prog 34 #[u,v] w K:=by
 refine Zd2 ?_
 unfold Zdv
 refine Zt hS i hi hr (Zt hS j hj hr2 ?_)
 refine ZoP rfl (Zf ?_)
 refine Zdk (λq t w=>∃n:Nat,n≤l.length∧t=.int .i64 n∧q=l.length - n∧Sat e w L) l.length ⟨0,Nat.zero_le _,rfl,rfl,hS⟩ ?_
 rintro q _ w g ⟨n,hn,rfl,rfl,h1⟩ hg
 refine Zt h1 i hi hr (Za7 (λc=>Zi ?_) (λc=>Zf (hk _ h1)))
 obtain ⟨y,hy⟩:=Zk (l:=l) (j:=n) (by omega)
 refine ZaY h1 λw2 h2=>(Zw h2 i hi hr (λ_=>rfl) hy λp hp=>Ym h2 i hi hp rfl ?_)
 refine Zw h2 j hj hr2 (λ_=>rfl) hy λp hp=>Ym h2 j hj hp rfl (ZDr (ns:=y.ns) (ms:=y.ns) ZVh ZVb ZVk (by decide) rfl ?_)
 rw[beq_self_eq_true]
 refine Zf (Yr (by omega) ?_)
 exact hg _ _ _ (by omega) ⟨n+1,by omega,rfl,rfl,h2⟩
theorem ZND {u v:Value} {l m:List Zak} (i j:Nat) (hi:L[i]?=some S) (hj:L[j]?=some S2) (hS:Sat e w L) (hr:∀g,S g→rdS 7 Zak.cs u l g) (hr2:∀g,S2 g→rdS 7 Zak.cs v (l++m) g) (hl:l.length≤1000000)
  (hk:∀w',Sat e w' L→K (.bool true) w'):Cl prog 9 #[u,v] w K:=by
 refine ZNx ?_
 unfold ZNv
 refine Zt hS i hi hr (Zt hS j hj hr2 (ZCA (by rw[List.length_append];omega) (Ze (Ze (Ze (Ze (Zt hS i hi hr ?_)))))))
 refine Ze (ZD8 (hi:=l.length) hS j hj hr2 (λ_=>rfl) (by rw[List.length_append];omega) λv' hv'=>?_)
 rw[List.take_left] at hv'
 exact Ze (Zud i j hi hj hS hr hv' hl λw2 h2=>Yv (hk _ h2))
theorem Zmx:Zc4 Zv3:=⟨by simp[Zv3],λr hr=>by
 simp only[Zv3,List.mem_cons,List.not_mem_nil,or_false] at hr
 rcases hr with rfl | rfl
 ·refine ⟨by decide,by decide,by decide,by decide,by decide,by decide,by decide,λo ho=>?_⟩
  have:o=⟨0,2,1⟩:=List.mem_singleton.1 ho
  rw[this]
  exact ⟨by decide,by decide,by decide,by decide,by decide,by decide⟩
 ·refine ⟨by decide,by decide,by decide,by decide,by decide,by decide,by decide,λo ho=>?_⟩
  have:o=⟨0,3,1⟩:=List.mem_singleton.1 ho
  rw[this]
  exact ⟨by decide,by decide,by decide,by decide,by decide,by decide⟩,by decide⟩
theorem Zsw {a b:Int} (ha:bit a) (hb:bit b):(Za4 (Zb2 a b)).2=0:=by
 have ht:ZhY [-1]=0:=by
  unfold ZhY
  refine if_pos ⟨by simp,by simp,λi p hp=>?_⟩
  match i with
  | 0=>simp at hp;omega
  | i+1=>simp at hp
 have h1:Zre ⟨a,2,0,Zv3,[0],[0],[⟨0,3,0⟩]⟩ 1=0:=by
  rw[ZjK]
  rcases ha with rfl | rfl <;> simp[Zmx,ZaF,ZlW] <;> simp[Zca,ZbW,Zv3]
 have h2:Zre ⟨b,2,0,Zv3,[0],[0],[]⟩ 1=0:=by
  rw[ZjK]
  rcases hb with rfl | rfl <;> simp[Zmx,ZaF,ZlW] <;> simp[Zca,ZbW,Zv3]
 unfold Za4 Zb2
 rw[if_neg (by rw[ht];decide),if_neg (by simp)]
 show (Zm3 1 0 _).2=_
 rw[ZdR,if_neg (by rw[h1];decide),ZdR,if_neg (by rw[h2];decide)]
 rfl
theorem Zvy {a:Int} (ha:bit a):i64 a:=by rcases ha with rfl | rfl <;> rfl
theorem ZGe {a b:Int} (ha:bit a) (hb:bit b) (hS:Sat e w Q) (hk:∀(x:WdX) (S:HP) w',x.w=Zb2 a b→x.wf→x.short→(∀g,S g→ZtG x g)→Sat e w' (S::Q)→K (.agg x.cs.toArray) w'):Cl prog 12 #[.int .i64 a,.int .i64 b] w K:=by
 refine Zed ?_
 unfold ZdY
 rw[ZqI]
 refine Yp (cs:=[.slice none 0 0,.slice none 0 0,.int .i64 0]) hS rfl λt0 w1 h1=>(Zaf (⟨0,2,1⟩:Out).cs (by kernel_rfl) ?_)
 refine Zfk (⟨0,2,1⟩:Out).cs h1 (by kernel_rfl) λb3 w2 h2=>?_
 obtain ⟨r0,hr0⟩:∃r0:Yg,r0=⟨0,0,1,.slice (some ⟨b3,0,none⟩) 1 1,[⟨0,2,1⟩]⟩:=⟨_,rfl⟩
 refine Zaf [.int .i64 0,.int .i64 0,.int .i64 1,.slice (some ⟨b3,0,none⟩) 1 1] (by kernel_rfl) (Zaf (⟨0,3,1⟩:Out).cs (by kernel_rfl) ?_)
 refine Zfk (⟨0,3,1⟩:Out).cs h2 (by kernel_rfl) λb7 w3 h3=>?_
 obtain ⟨r1,hr1⟩:∃r1:Yg,r1=⟨1,0,0,.slice (some ⟨b7,0,none⟩) 1 1,[⟨0,3,1⟩]⟩:=⟨_,rfl⟩
 refine Zaf [.int .i64 1,.int .i64 0,.int .i64 0,.slice (some ⟨b7,0,none⟩) 1 1] (by kernel_rfl) ?_
 have hrc:[r0,r1].flatMap Yg.cs=[.int .i64 0,.int .i64 0,.int .i64 1,.slice (some ⟨b3,0,none⟩) 1 1,.int .i64 1,.int .i64 0,.int .i64 0,.slice (some ⟨b7,0,none⟩) 1 1]:=by rw[hr0,hr1];rfl
 refine Zfk [.int .i64 0,.int .i64 0,.int .i64 1,.slice (some ⟨b3,0,none⟩) 1 1,.int .i64 1,.int .i64 0,.int .i64 0,.slice (some ⟨b7,0,none⟩) 1 1] h3 (by kernel_rfl) λb9 w4 h4=>?_
 rw[←hrc] at h4
 refine Zfk (Yi [-1]) h4 (by kernel_rfl) λb10 w5 h5=>(Zfk (Yi [0]) h5 (by kernel_rfl) λb12 w6 h6=>?_)
 refine Zfk (Yi [0]) h6 (by kernel_rfl) λb13 w7 h7=>(Zaf (⟨0,3,0⟩:Out).cs (by kernel_rfl) ?_)
 refine Zfk (⟨0,3,0⟩:Out).cs h7 (by kernel_rfl) λb14 w8 h8=>?_
 obtain ⟨f0,hf0⟩:∃f0:Zao,f0=⟨a,2,0,.slice (some ⟨b9,0,none⟩) 2 2,[r0,r1],.slice (some ⟨b12,0,none⟩) 1 1,[0],.slice (some ⟨b13,0,none⟩) 1 1,[0],.slice (some ⟨b14,0,none⟩) 1 1,[⟨0,3,0⟩]⟩:=⟨_,rfl⟩
 refine Zaf [.int .i64 a,.int .i64 2,.int .i64 0,.slice (some ⟨b9,0,none⟩) 2 2,.slice (some ⟨b12,0,none⟩) 1 1,.slice (some ⟨b13,0,none⟩) 1 1,.slice (some ⟨b14,0,none⟩) 1 1] (by kernel_rfl) (Zfk (Yi [0]) h8 (by kernel_rfl) λb15 w9 h9=>?_)
 refine Zfk (Yi [0]) h9 (by kernel_rfl) λb16 w10 h10=>?_
 obtain ⟨f1,hf1⟩:∃f1:Zao,f1=⟨b,2,0,.slice (some ⟨b9,0,none⟩) 2 2,[r0,r1],.slice (some ⟨b15,0,none⟩) 1 1,[0],.slice (some ⟨b16,0,none⟩) 1 1,[0],.slice none 0 0,[]⟩:=⟨_,rfl⟩
 refine Zaf [.int .i64 b,.int .i64 2,.int .i64 0,.slice (some ⟨b9,0,none⟩) 2 2,.slice (some ⟨b15,0,none⟩) 1 1,.slice (some ⟨b16,0,none⟩) 1 1,.slice none 0 0] (by kernel_rfl) ?_
 obtain ⟨fc,hfc⟩:∃fc:List Value,fc=[.int .i64 a,.int .i64 2,.int .i64 0,.slice (some ⟨b9,0,none⟩) 2 2,.slice (some ⟨b12,0,none⟩) 1 1,.slice (some ⟨b13,0,none⟩) 1 1,.slice (some ⟨b14,0,none⟩) 1 1,.int .i64 b,.int .i64 2,.int .i64 0,.slice (some ⟨b9,0,none⟩) 2 2,.slice (some ⟨b15,0,none⟩) 1 1,.slice (some ⟨b16,0,none⟩) 1 1,.slice none 0 0]:=⟨_,rfl⟩
 have hcs:[f0,f1].flatMap Zao.cs=fc:=by rw[hf0,hf1,hfc];rfl
 refine Zfk fc h10 (by rw[hfc];kernel_rfl) λb21 w11 h11=>?_
 rw[←hcs] at h11
 obtain ⟨x,hx⟩:∃x:WdX,x=⟨.slice (some ⟨b10,0,none⟩) 1 1,[-1],.slice (some ⟨b21,0,none⟩) 2 2,[f0,f1],20⟩:=⟨_,rfl⟩
 refine Zaf [.slice (some ⟨b10,0,none⟩) 1 1,.slice (some ⟨b21,0,none⟩) 2 2,.int .i64 20] (by kernel_rfl) ?_
 have hxc:[.slice (some ⟨b10,0,none⟩) 1 1,.slice (some ⟨b21,0,none⟩) 2 2,.int .i64 20]=x.cs:=by rw[hx];rfl
 refine Zq h11 10 rfl (vs:=[.slice (some ⟨b10,0,none⟩) 1 1,.slice (some ⟨b21,0,none⟩) 2 2,.int .i64 20]) rfl rfl (by simp) (by simp[flat]) (cs':=[.slice (some ⟨b10,0,none⟩) 1 1,.slice (some ⟨b21,0,none⟩) 2 2,.int .i64 20]) (by rfl) λw13 h13=>(Zo h13 10 (vs:=[.slice (some ⟨b10,0,none⟩) 1 1,.slice (some ⟨b21,0,none⟩) 2 2,.int .i64 20]) rfl (by rfl) rfl ?_)
 rw[hxc]
 have h14:Sat e w13 (Yh [blk b21 46 ([f0,f1].flatMap Zao.cs),blk b16 3 (Yi [0]),blk b15 3 (Yi [0]),blk b14 102 (⟨0,3,0⟩:Out).cs,blk b13 3 (Yi [0]),blk b12 3 (Yi [0]),blk b10 3 (Yi [-1]),blk b9 48 ([r0,r1].flatMap Yg.cs),blk b7 102 (⟨0,3,1⟩:Out).cs,blk b3 102 (⟨0,2,1⟩:Out).cs]::Q):=
  Sat.join (l':=[_,_,_,_,_,_,_,_,_,_]) (h13.selR [_,_,_,_,_,_,_,_,_,_,_] [_,_,_,_,_,_,_,_,_,_] [0,1,2,3,4,5,6,7,8,9] (by decide) rfl)
 refine hk x _ _ ?_ ?_ ?_ ?_ h14
 ·rw[hx,hf0,hf1,hr0,hr1];rfl
 ·rw[hx,hf0,hf1,hr0,hr1]
  have h0:∀n∈[(0:Int)],i64 n:=λn hn=>by rw[List.mem_singleton.1 hn];rfl
  have hrw:∀r∈[(⟨0,0,1,.slice (some ⟨b3,0,none⟩) 1 1,[⟨0,2,1⟩]⟩:Yg),⟨1,0,0,.slice (some ⟨b7,0,none⟩) 1 1,[⟨0,3,1⟩]⟩],r.wf:=λr hr=>by
   simp only[List.mem_cons,List.not_mem_nil,or_false] at hr
   rcases hr with rfl | rfl
   ·exact ⟨rfl,rfl,rfl,λo ho=>by rw[show o=⟨0,2,1⟩ from List.mem_singleton.1 ho];exact ⟨rfl,rfl,rfl⟩⟩
   ·exact ⟨rfl,rfl,rfl,λo ho=>by rw[show o=⟨0,3,1⟩ from List.mem_singleton.1 ho];exact ⟨rfl,rfl,rfl⟩⟩
  refine ⟨λn hn=>by rw[List.mem_singleton.1 hn];rfl,λf hf=>?_,rfl⟩
  simp only[List.mem_cons,List.not_mem_nil,or_false] at hf
  rcases hf with rfl | rfl
  ·exact ⟨Zvy ha,rfl,rfl,hrw,h0,h0,λo ho=>by rw[show o=⟨0,3,0⟩ from List.mem_singleton.1 ho];exact ⟨rfl,rfl,rfl⟩⟩
  ·exact ⟨Zvy hb,rfl,rfl,hrw,h0,h0,by simp⟩
 ·rw[hx,hf0,hf1,hr0,hr1]
  refine ⟨by simp,by simp,λf hf=>?_⟩
  have hrs:∀r∈[(⟨0,0,1,.slice (some ⟨b3,0,none⟩) 1 1,[⟨0,2,1⟩]⟩:Yg),⟨1,0,0,.slice (some ⟨b7,0,none⟩) 1 1,[⟨0,3,1⟩]⟩],r.Sends.length≤1000:=λr hr=>by
   simp only[List.mem_cons,List.not_mem_nil,or_false] at hr
   rcases hr with rfl | rfl
   ·show [(⟨0,2,1⟩:Out)].length≤_
    simp
   ·show [(⟨0,3,1⟩:Out)].length≤_
    simp
  simp only[List.mem_cons,List.not_mem_nil,or_false] at hf
  rcases hf with rfl | rfl
  ·exact ⟨by simp,by simp,by simp,by simp,hrs⟩
  ·exact ⟨by simp,by simp,by simp,by simp,hrs⟩
 ·intro g hg
  obtain ⟨g0,k0,s0⟩:=Yy (i:=0) hg rfl
  obtain ⟨g1,k1,s1⟩:=Yy (i:=1) hg rfl
  obtain ⟨g2,k2,s2⟩:=Yy (i:=2) hg rfl
  obtain ⟨g3,k3,s3⟩:=Yy (i:=3) hg rfl
  obtain ⟨g4,k4,s4⟩:=Yy (i:=4) hg rfl
  obtain ⟨g5,k5,s5⟩:=Yy (i:=5) hg rfl
  obtain ⟨g6,k6,s6⟩:=Yy (i:=6) hg rfl
  obtain ⟨g7,k7,s7⟩:=Yy (i:=7) hg rfl
  obtain ⟨g8,k8,s8⟩:=Yy (i:=8) hg rfl
  obtain ⟨g9,k9,s9⟩:=Yy (i:=9) hg rfl
  have nilR:∀{α:Type} (size:Nat) (f:α→List Value),rdS size f (.slice none 0 0) [] g:=λ_ _=>⟨none,0,rfl,Nat.le_refl _,λh=>absurd h (by simp)⟩
  subst hx
  have hrr:Zew (.slice (some ⟨b9,0,none⟩) 2 2) [r0,r1] g:=⟨Zbl s7 (Zbx (f:=Yg.cs) [r0,r1] rfl (Nat.le_refl _) g7 k7),λr hr=>by
   simp only[List.mem_cons,List.not_mem_nil,or_false] at hr
   rcases hr with rfl | rfl
   ·subst hr0
    exact Zbl s9 (Zbx (f:=Out.cs) [⟨0,2,1⟩] rfl (Nat.le_refl _) g9 k9)
   ·subst hr1
    exact Zbl s8 (Zbx (f:=Out.cs) [⟨0,3,1⟩] rfl (Nat.le_refl _) g8 k8)⟩
  refine ⟨Zbl s6 (Zbx (f:=Ye .i64) [-1] rfl (Nat.le_refl _) g6 k6),Zbl s0 (Zbx (f:=Zao.cs) [f0,f1] rfl (Nat.le_refl _) g0 k0),λf hf=>?_⟩
  simp only[List.mem_cons,List.not_mem_nil,or_false] at hf
  rcases hf with rfl | rfl
  ·subst hf0
   exact ⟨hrr,Zbl s5 (Zbx (f:=Ye .i64) [0] rfl (Nat.le_refl _) g5 k5),Zbl s4 (Zbx (f:=Ye .i64) [0] rfl (Nat.le_refl _) g4 k4),Zbl s3 (Zbx (f:=Out.cs) [⟨0,3,0⟩] rfl (Nat.le_refl _) g3 k3)⟩
  ·subst hf1
   exact ⟨hrr,Zbl s2 (Zbx (f:=Ye .i64) [0] rfl (Nat.le_refl _) g2 k2),Zbl s1 (Zbx (f:=Ye .i64) [0] rfl (Nat.le_refl _) g1 k1),nilR _ _⟩
theorem Zgh {n' s':Nat} (hn:n≤n') (hs:s≤s') (hS:Sat e w (Zby p wd k n s::Q)):Sat e w (Zby p wd k n' s'::Q):=by
 obtain ⟨M,hI,h⟩:=ZpC hS
 exact ZkQ (hI.mono hs) (Zrf hn h)
theorem Zzh {kind a b:Nat} (h6:kind≤6) (ha:kind≠4→a<wd.Feds.length) (hb:kind=2→b<wd.Feds.length):doK wd k ⟨(kind:Int),(a:Int),(b:Int)⟩=k.do' wd kind a b:=by
 unfold doK
 rw[if_neg]
 ·show k.do' wd (kind:Int).toNat (a:Int).toNat (b:Int).toNat=_
  rw[Int.toNat_natCast,Int.toNat_natCast,Int.toNat_natCast]
 ·rintro (h | h | h | h)
  ·have h:(kind:Int)<0:=h
   omega
  ·have h:6<(kind:Int):=h
   omega
  ·obtain ⟨h1,h2⟩:=h
   have h1:(kind:Int)≠4:=h1
   have:=ha (by omega)
   exact h2 ⟨by show (0:Int)≤(a:Int);omega,by show (a:Int)<_;omega⟩
  ·obtain ⟨h1,h2⟩:=h
   have h1:(kind:Int)=2:=h1
   have:=hb (by omega)
   exact h2 ⟨by show (0:Int)≤(b:Int);omega,by show (b:Int)<_;omega⟩
theorem ZzD {kind a b:Nat} (h6:kind≤6) (ha:kind≠4→a<wd.Feds.length) (hb:kind=2→b<wd.Feds.length) (hs:s≤1000000) (hn:n≤1000) (hS:Sat e w (Zby p wd k n s::Q))
  (hk:∀w',Sat e w' (Zby p wd (k.do' wd kind a b).2 (if kind=0 then n+1 else n) (s+1)::Q)→K (.int .i64 (k.do' wd kind a b).1) w') :
  Cl prog 8 #[pt p,.agg (⟨(kind:Int),(a:Int),(b:Int)⟩:Zbs).cs.toArray] w K:=by
 refine ZrZ hs hn hS λw2 h2=>?_
 rw[Zzh h6 ha hb] at h2 ⊢
 refine hk _ ?_
 have e1:Zdq n ⟨(kind:Int),(a:Int),(b:Int)⟩=if kind=0 then n+1 else n:=by
  show (if (kind:Int)=0 then n+1 else n)=_
  by_cases h:kind=0
  ·rw[if_pos h,if_pos (by omega)]
  ·rw[if_neg h,if_neg (by omega)]
 rw[e1] at h2
 exact h2
theorem ZlE {α:Type} (f:α→α):∀(n:Nat) (x:α),rep f (n+1) x=f (rep f n x)
 | 0,_=>rfl
 | n+1,x=>ZlE f n (f x)
theorem ZdV {α:Type} (g:α→Nat→α) (x:α) (n:Nat):(List.range (n+1)).foldl g x=g ((List.range n).foldl g x) n:=by
 rw[List.range_succ,List.foldl_append]
 rfl
theorem Zs9 {a:Nat} (ha:a<wd.Feds.length) (hs:s+24≤900000) (hn:n≤1000) (hS:Sat e w (Zby p wd k n s::Q)) {Kn:World→Prop} (hk:∀w',Sat e w' (Zby p wd (rep (fl1 a) 24 k) n (s+24)::Q)→Kn w') :
  lp [(Value.int IntKind.i64 0)] w (b1 λt7 w g2=>bi .lss .i64 t7 (Value.int IntKind.i64 24) w λt21 w=>Zr t21
   (bld (Zl prog 38) #[(0,1),(1,1),(2,1)] [(0,(Value.int IntKind.i64 1)),(1,.int .i64 (a:Int))] w λt26 w=>Cl prog 8 #[pt p,t26] w λ_ w=>bi .add .i64 t7 (Value.int IntKind.i64 1) w λt23 w=>g2 [t23] w) (Kn w)):=by
 refine Zdk (λz t w=>∃j:Nat,j≤24∧t=.int .i64 j∧z=24 - j∧Sat e w (Zby p wd (rep (fl1 a) j k) n (s+j)::Q)) 24 ⟨0,Nat.zero_le _,rfl,rfl,hS⟩ ?_
 rintro z _ w g2 ⟨j,hj,rfl,rfl,h1⟩ hg
 refine Za7 (λc=>Zi ?_) (λc=>Zf ?_)
 ·refine Zaf (⟨((1:Nat):Int),(a:Int),((0:Nat):Int)⟩:Zbs).cs (by kernel_rfl) ?_
  refine ZzD (by omega) (λ_=>ha) (λh=>by omega) (by omega) hn h1 λw2 h2=>?_
  refine Yr (by omega) ?_
  refine hg _ _ _ (by omega) ⟨j+1,by omega,rfl,rfl,?_⟩
  rw[ZlE]
  exact h2
 ·have ej:j=24:=by omega
  rw[ej] at h1
  exact hk _ h1
theorem ZpS {a b:Nat} {q:Bool × KS} (ha:a<wd.Feds.length) (hb:b<wd.Feds.length) (hs:s+8≤900000) (hn:n≤1000) (hS:Sat e w (Zby p wd q.2 n s::Q)) {Kn:Value→World→Prop} (hk:∀w',Sat e w' (Zby p wd (rep (dl1 wd a b) 8 q).2 n (s+8)::Q)→Kn (.bool (rep (dl1 wd a b) 8 q).1) w') :
  lp [.bool q.1,(Value.int IntKind.i64 0)] w (b2 λt5_2 t9 w g4=>bi .lss .i64 t9 (Value.int IntKind.i64 8) w λt34 w=>Zr t34
   (gd t5_2 true (λk=>k (pt p) w) w λt39 w=>gd t5_2 true (λk=>k (.int .i64 (a:Int)) w) w λt40 w=>gd t5_2 true (λk=>k (.int .i64 (b:Int)) w) w λt41 w=>
   gd t5_2 true (λk=>bld (Zl prog 38) #[(0,1),(1,1),(2,1)] [(0,(Value.int IntKind.i64 2)),(1,t40),(2,t41)] w k) w λt42 w=>gd t5_2 true (λk=>Cl prog 8 #[t39,t42] w k) w λt43 w=>
   gd t5_2 true (λk=>bi .neq .i64 t43 (Value.int IntKind.i64 2) w k) w λt44 w=>pk t5_2 t44 (Value.bool false) w λt45 w=>bi .add .i64 t9 (Value.int IntKind.i64 1) w λt36 w=>g4 [t45,t36] w) (Kn t5_2 w)):=by
 refine ZjF (λz t5 t9 w=>∃j:Nat,j≤8∧t9=.int .i64 j∧t5=.bool (rep (dl1 wd a b) j q).1∧z=8 - j∧Sat e w (Zby p wd (rep (dl1 wd a b) j q).2 n (s+j)::Q)) 8 ⟨0,Nat.zero_le _,rfl,rfl,rfl,hS⟩ ?_
 rintro z _ _ w g2 ⟨j,hj,rfl,rfl,rfl,h1⟩ hg
 have e1:=ZlE (dl1 wd a b) j q
 generalize hr:rep (dl1 wd a b) j q=r at*
 obtain ⟨q0,k0⟩:=r
 refine Za7 (λc=>Zi ?_) (λc=>Zf ?_)
 ·cases q0 with
  | true=>
   refine Ze (Ze (Ze (Ze (Zaf (⟨((2:Nat):Int),(a:Int),(b:Int)⟩:Zbs).cs (by kernel_rfl) (Ze ?_)))))
   refine ZzD (by omega) (λ_=>ha) (λ_=>hb) (by omega) hn h1 λw2 h2=>Ze (ZF7 (Yv (Yr (by omega) ?_)))
   have e2:rep (dl1 wd a b) (j+1) q=(!decide ((k0.deliver wd a b).1=2),(k0.deliver wd a b).2):=e1.trans (if_pos rfl)
   refine hg _ _ _ _ (by omega) ⟨j+1,by omega,rfl,?_,rfl,?_⟩
   ·rw[e2]
    show Value.bool (decide (¬(k0.deliver wd a b).1=2))=.bool (!decide ((k0.deliver wd a b).1=2))
    by_cases h:(k0.deliver wd a b).1=2
    ·rw[decide_eq_true h,decide_eq_false (λh'=>h' h)];rfl
    ·rw[decide_eq_false h,decide_eq_true h];rfl
   ·rw[e2];exact h2
  | false=>
   refine Zu (Zu (Zu (Zu (Zu (Zu (Yd (Yr (by omega) ?_)))))))
   have e2:rep (dl1 wd a b) (j+1) q=(false,k0):=e1.trans (if_neg (λh=>by cases (show false=true from h)))
   refine hg _ _ _ _ (by omega) ⟨j+1,by omega,rfl,by rw[e2],rfl,?_⟩
   rw[e2]
   exact Zgh (Nat.le_refl _) (by omega) h1
 ·have ej:j=8:=by omega
  subst ej
  rw[hr] at hk
  exact hk _ h1
theorem ZuP {N:Nat} (hN:N≤wd.Feds.length) (h8:wd.Feds.length≤8) (hs:s+2000≤900000) (hn:n+8≤1000) (hS:Sat e w (Zby p wd k n s::Q)) (hk:∀w',Sat e w' (Zby p wd (ZkX wd N k).2 (n+8) (s+2000)::Q)→K (.bool (ZkX wd N k).1) w') :
  Cl prog 15 #[pt p,.int .i64 (N:Int)] w K:=by
 refine ZdG ?_
 unfold Zc2
 refine ZjF (λz t5 t6 w=>∃j:Nat,j≤N∧t6=.int .i64 j∧z=N - j∧t5=.bool ((List.range j).foldl (λp a=>ZvX wd N a p) (true,k)).1∧Sat e w (Zby p wd ((List.range j).foldl (λp a=>ZvX wd N a p) (true,k)).2 n (s+88*j)::Q)) N ⟨0,Nat.zero_le _,rfl,rfl,rfl,hS⟩ ?_
 rintro z _ _ w1 g1 ⟨a,hj,rfl,rfl,rfl,h1⟩ hg1
 refine Za7 (λc=>Zi ?_) (λc=>Zf ?_)
 ·have hal:a<wd.Feds.length:=by omega
  have e1:=ZdV (λ(p:Bool × KS) a=>ZvX wd N a p) (true,k) a
  generalize (List.range a).foldl (λ(p:Bool × KS) a=>ZvX wd N a p) (true,k)=q at*
  refine Zs9 hal (by omega) (by omega) h1 λw2 h2=>?_
  have e1:(List.range (a+1)).foldl (λ(p:Bool × KS) a=>ZvX wd N a p) (true,k)=(List.range N).foldl (λp b=>rep (dl1 wd a b) 8 p) (q.1,rep (fl1 a) 24 q.2):=e1
  generalize rep (fl1 a) 24 q.2=kf at*
  refine ZjF (λz t5 t8 w=>∃j:Nat,j≤N∧t8=.int .i64 j∧z=N - j∧t5=.bool ((List.range j).foldl (λp b=>rep (dl1 wd a b) 8 p) (q.1,kf)).1∧Sat e w (Zby p wd ((List.range j).foldl (λp b=>rep (dl1 wd a b) 8 p) (q.1,kf)).2 n (s+88*a+24+8*j)::Q)) N ⟨0,Nat.zero_le _,rfl,rfl,rfl,h2⟩ ?_
  rintro z _ _ w3 g3 ⟨b,hb,rfl,rfl,rfl,h3⟩ hg3
  refine Za7 (λc2=>Zi ?_) (λc2=>Zf ?_)
  ·have e2:=ZdV (λ(p:Bool × KS) b=>rep (dl1 wd a b) 8 p) (q.1,kf) b
   generalize (List.range b).foldl (λ(p:Bool × KS) b=>rep (dl1 wd a b) 8 p) (q.1,kf)=q2 at*
   refine ZpS hal (by omega) (by omega) (by omega) h3 λw4 h4=>?_
   refine Yr (by omega) ?_
   refine hg3 _ _ _ _ (by omega) ⟨b+1,by omega,rfl,rfl,by rw[e2],?_⟩
   rw[e2]
   exact Zgh (Nat.le_refl _) (by omega) h4
  ·have eb:b=N:=by omega
   rw[eb] at h3 ⊢
   refine Yr (by omega) ?_
   refine hg1 _ _ _ _ (by omega) ⟨a+1,by omega,rfl,rfl,by rw[e1],?_⟩
   rw[e1]
   exact Zgh (Nat.le_refl _) (by omega) h3
 ·have ea:a=N:=by omega
  rw[ea] at h1 ⊢
  unfold ZkX at hk
  dsimp only at hk
  generalize (List.range N).foldl (λ(p:Bool × KS) a=>ZvX wd N a p) (true,k)=q at*
  refine ZjF (λz t5 t10 w=>∃j:Nat,j≤N∧t10=.int .i64 j∧z=N - j∧t5=.bool ((List.range j).foldl (ZBa wd) q).1∧Sat e w (Zby p wd ((List.range j).foldl (ZBa wd) q).2 (n+j) (s+88*N+2*j)::Q)) N ⟨0,Nat.zero_le _,rfl,rfl,rfl,h1⟩ ?_
  rintro z _ _ w5 g5 ⟨j,hj,rfl,rfl,rfl,h5⟩ hg5
  refine Za7 (λc2=>Zi ?_) (λc2=>Zf ?_)
  ·have hjl:j<wd.Feds.length:=by omega
   have e2:=ZdV (ZBa wd) q j
   generalize (List.range j).foldl (ZBa wd) q=r at*
   obtain ⟨q0,k0⟩:=r
   refine Zp2 (by omega) h5 λv w6 h6=>?_
   have eo:ZDK wd k0 j=k0.box j:=if_pos (by unfold inN;omega)
   rw[eo] at h6
   refine Zt h6 0 rfl (λ_=>Zp) (ZBD ?_)
   refine Zaf (⟨((0:Nat):Int),(j:Int),((0:Nat):Int)⟩:Zbs).cs (by kernel_rfl) ?_
   refine ZzD (by omega) (λ_=>hjl) (λh=>by omega) (by omega) (by omega) h6.drop λw7 h7=>?_
   have fin:∀{w:World},Sat e w (Zby p wd (k0.step wd j).2 (n+j+1) (s+88*N+2*j+1)::Q)→
     bld (Zl prog 38) #[(0,1),(1,1),(2,1)] [(0,(Value.int IntKind.i64 3)),(1,.int .i64 (j:Int))] w λt71 w=>Cl prog 8 #[pt p,t71] w λ_ w=>bi .add .i64 (.int .i64 (j:Int)) (Value.int IntKind.i64 1) w λt50 w=>
      g5 [.bool (q0&&(!decide ((k0.step wd j).1=2) || !(k0.box j).isEmpty)),t50] w:=by
    intro w h
    refine Zaf (⟨((3:Nat):Int),(j:Int),((0:Nat):Int)⟩:Zbs).cs (by kernel_rfl) ?_
    refine ZzD (by omega) (λ_=>hjl) (λh=>by omega) (by omega) (by omega) h λw8 h8=>?_
    refine Yr (by omega) ?_
    refine hg5 _ _ _ _ (by omega) ⟨j+1,by omega,rfl,rfl,by rw[e2];rfl,?_⟩
    rw[e2]
    exact h8
   have he:(decide (((k0.box j).length:Int)=0))=(k0.box j).isEmpty:=by
    cases k0.box j with
    | nil=>rfl
    | cons x l=>rw[decide_eq_false (by rw[List.length_cons];omega)];rfl
   rw[he]
   cases q0 with
   | false=>exact Zu (Zu (Zu (Zrb (Zrb (Zu (Yd (fin h7)))))))
   | true=>
    refine Ze (Ze (ZF7 (Ze ?_)))
    have hst:(k0.do' wd 0 j 0)=k0.step wd j:=rfl
    rw[hst]
    by_cases h2:(k0.step wd j).1=2
    ·rw[decide_eq_false (λh'=>h' h2)]
     refine Zj (Zj (Zk5 (Ze (Yd (Yv ?_)))))
     have:=fin h7
     rw[decide_eq_true h2] at this
     exact this
    ·rw[decide_eq_true h2]
     refine Zd (Zd (Ze (Yv (Yv ?_))))
     have:=fin h7
     rw[decide_eq_false h2] at this
     exact this
  ·have ej:j=N:=by omega
   rw[ej] at h5 ⊢
   generalize (List.range N).foldl (ZBa wd) q=r at*
   refine Zaf (⟨((4:Nat):Int),((0:Nat):Int),((0:Nat):Int)⟩:Zbs).cs (by kernel_rfl) ?_
   refine ZzD (by omega) (λh=>absurd rfl h) (λh=>by omega) (by omega) (by omega) h5 λw6 h6=>?_
   have h6:Sat e w6 (Zby p wd r.2.begin'.2 (n+N) (s+88*N+2*N+1)::Q):=h6
   refine Zdk (λz t w=>∃j:Nat,j≤N∧t=.int .i64 j∧z=N - j∧Sat e w (Zby p wd ((List.range j).foldl tr1 r.2.begin'.2) (n+N) (s+88*N+2*N+1+j)::Q)) N ⟨0,Nat.zero_le _,rfl,rfl,h6⟩ ?_
   rintro z _ w7 g6 ⟨j,hj,rfl,rfl,h7⟩ hg6
   refine Za7 (λc3=>Zi ?_) (λc3=>Zf ?_)
   ·refine Zaf (⟨((5:Nat):Int),(j:Int),((0:Nat):Int)⟩:Zbs).cs (by kernel_rfl) ?_
    refine ZzD (by omega) (λ_=>by omega) (λh=>by omega) (by omega) (by omega) h7 λw8 h8=>?_
    refine Yr (by omega) ?_
    refine hg6 _ _ _ (by omega) ⟨j+1,by omega,rfl,rfl,?_⟩
    rw[ZdV]
    exact h8
   ·have ej:j=N:=by omega
    rw[ej] at h7
    generalize (List.range N).foldl tr1 r.2.begin'.2=k4 at*
    refine Zdk (λz t w=>∃j:Nat,j≤N∧t=.int .i64 j∧z=N - j∧Sat e w (Zby p wd ((List.range j).foldl (rp1 wd) k4) (n+N) (s+88*N+3*N+1+j)::Q)) N ⟨0,Nat.zero_le _,rfl,rfl,Zgh (Nat.le_refl _) (by omega) h7⟩ ?_
    rintro z _ w8 g7 ⟨j,hj,rfl,rfl,h8⟩ hg7
    refine Za7 (λc4=>Zi ?_) (λc4=>Zf ?_)
    ·refine Zaf (⟨((6:Nat):Int),(j:Int),((0:Nat):Int)⟩:Zbs).cs (by kernel_rfl) ?_
     refine ZzD (by omega) (λ_=>by omega) (λh=>by omega) (by omega) (by omega) h8 λw9 h9=>?_
     refine Yr (by omega) ?_
     refine hg7 _ _ _ (by omega) ⟨j+1,by omega,rfl,rfl,?_⟩
     rw[ZdV]
     exact h9
    ·have ej:j=N:=by omega
     rw[ej] at h8
     exact hk _ (Zgh (by omega) (by omega) h8)
theorem ZzB {wd:Wd} (h:(Za4 wd).2=0) {room:Int} (hr:1≤room∧room≤16):ZtU wd room=0:=by
 unfold ZtU
 rw[if_neg (λh'=>h' h),if_pos hr]
theorem Zsk {a b:Int} {room:Nat} (ha:bit a) (hb:bit b) (hr:1≤room∧room≤16) (hS:Sat e w Q) (hk:∀p w',Sat e w' (Zby p (Zb2 a b) (KS.init (Zb2 a b) room) 0 0::Q)→K (.tuple #[pt p,.int .i64 0]) w') :
  Cl prog 12 #[.int .i64 a,.int .i64 b] w λt w=>Cl prog 6 #[t,.int .i64 (room:Int)] w K:=by
 refine ZGe ha hb hS λx S w1 hx hwf hs hrd h1=>?_
 have hE:ZtU x.w (room:Int)=0:=by rw[hx];exact ZzB (Zsw ha hb) (by omega)
 refine Zu2 (room:=(room:Int)) 0 rfl h1 hrd hwf hs (λh=>absurd hE h) λ_ p w2 h2=>?_
 rw[hx,Int.toNat_natCast] at h2
 exact hk p _ (h2.selR [_,_] [_] [0] (by decide) rfl)
theorem Zh9 {a b:Int}:(Zb2 a b).Feds.length=2:=rfl
theorem ZvP {a b:Int} (k:KS):ZBN (Zb2 a b) k 0=(k.node 0).log (Zb2 a b) 0:=if_pos ⟨Int.le_refl 0,by rw[Zh9];decide⟩
theorem ZvF {a b:Int} (k:KS):ZBN (Zb2 a b) k 1=(k.node 1).log (Zb2 a b) 1:=if_pos ⟨by decide,by rw[Zh9];decide⟩
theorem Zu0 (hS:Sat e w Q) (hk:∀w',Sat e w' Q→K (.bool true) w'):Cl prog 5 #[] w K:=by
 refine ZdB ?_
 unfold ZcY
 have h0:bit 0:=.inl rfl
 have h1:bit 1:=.inr rfl
 refine Zsk (room:=8) h0 h1 (by decide) hS λp w1 hw1=>(Zam (Zal (ZoP rfl (Zj (Zj (ZmP _ (Yd (Zj (Zj ?_)))))))))
 obtain ⟨hb1,hb2⟩:=Zvw
 refine Zp2 (a:=0) (by omega) hw1 λv w2 hw2=>?_
 have eo:ZDK (Zb2 0 1) (KS.init (Zb2 0 1) 8) 0=(KS.init (Zb2 0 1) 8).box 0:=if_pos ⟨Int.le_refl 0,by rw[Zh9];decide⟩
 rw[eo] at hw2
 refine Zj (Zt hw2 0 rfl (λ_=>Zp) (Zj (ZoP (by rw[hb1];rfl) (Yd (Zj (Zj ?_))))))
 refine Zc0 (by omega) hw2.drop λw3 hw3=>?_
 rw[hb2]
 refine Yd (Zf ?_)
 generalize hk0:KS.init (Zb2 0 1) 8=k0 at*
 refine Zdk (λz t w=>∃j:Nat,j≤30∧t=.int .i64 j∧z=30 - j∧Sat e w (Zby p (Zb2 0 1) (ZmK (Zb2 0 1) 2 j k0) (8*j) (2000*j)::Q)) 30 ⟨0,Nat.zero_le _,rfl,rfl,hw3⟩ ?_
 rintro z _ w4 g1 ⟨j,hj,rfl,rfl,hw4⟩ hg
 refine Za7 (λc=>Zi ?_) (λc=>Zf ?_)
 ·refine ZuP (N:=2) (by rw[Zh9];decide) (by rw[Zh9];decide) (by omega) (by omega) hw4 λw5 hw5=>(Yr (by omega) ?_)
  refine hg _ _ _ (by omega) ⟨j+1,by omega,rfl,rfl,?_⟩
  rw[Zqk]
  exact hw5
 ·have ej:j=30:=by omega
  subst ej
  obtain ⟨hR,hL⟩:=Zqg (Zsw h0 h1) h0 h1 (room:=8) (by decide) (m:=30) (by decide)
  rw[hk0] at hR hL
  have hq:=Zj4 hR
  obtain ⟨l0,l1⟩:=Zsv hL
  generalize ZmK (Zb2 0 1) 2 30 k0=k1 at*
  refine Zc0 (by omega) hw4 λw5 hw5=>?_
  rw[hq]
  refine Ze (Ze (ZdZ (a:=0) (by omega) hw5 λv0 w6 hw6=>Ze (Zt hw6 0 rfl (λ_=>Zp) ?_)))
  rw[ZvP,l0]
  refine Ze (ZtF (by decide) (Yv (Ze (Ze (ZdZ (a:=1) (by omega) hw6.drop λv1 w7 hw7=>Ze (Zt hw7 0 rfl (λ_=>Zp) ?_))))))
  rw[ZvF,l1]
  exact Ze (ZtF (by decide) (Yv (hk _ hw7.drop.drop)))
theorem Zxu (n:Nat) (o:Zbs):Zdq n o≤n+1:=by
 unfold Zdq
 split <;> omega
theorem ZJm {n:Int} (h:(Lit.int .u8 n).wf=true):0≤n∧n≤255:=by
 simp only[Lit.wf,IntKind.min,IntKind.max,IntKind.signed,IntKind.bits] at h
 simp at h
 omega
theorem ZJk {n:Int} (h:0≤n∧n≤255) (hk:∀r:Nat,1≤r∧r≤16→K (.int .i64 (r:Int)) w) :
  cvI .i64 (.int .u8 n) w λt w=>bi .rem .i64 t (Value.int IntKind.i64 16) w λt w=>bi .add .i64 (Value.int IntKind.i64 1) t w K:=by
 refine ZDy ?_
 rw[Zdl (by omega) (by omega)]
 refine Zwn (by decide) ?_
 have h1:n.tmod 16=n % 16:=Int.tmod_eq_emod_of_nonneg h.1
 rw[h1]
 refine ZcD (by omega) (by omega) ?_
 have h2:=hk (1+n % 16).toNat (by omega)
 rwa [show (((1+n % 16).toNat:Nat):Int)=1+n % 16 from by omega] at h2
theorem ZKP {r k:Nat} {x:WdX} {R:RS} {f:Int} (hk0:k≤1000) (hS:Sat e w (ZKC r x R k::Q))
  (hk:∀v w',Sat e w' (Zz 100 7 Zak.cs v (ZK0 R f)::ZKC r x R k::Q)→K v w'):Cl prog 11 #[.pointer (some ⟨r,0,none⟩),.int .i64 f] w K:=by
 refine ZJM ?_
 unfold ZJv
 obtain ⟨sv,qv,wv,dv,ds,hR,h1⟩:=ZLQ hS
 rw[hR.logs f] at hk
 have hlen:=hR.len
 refine Zw3 h1 Zak.cs λv0 w2 h2=>?_
 refine ZjF (λq t4 t5 w=>∃j:Nat,j≤ds.length∧t5=.int .i64 j∧q=ds.length - j∧Sat e w (Zz 100 7 Zak.cs t4 ((ds.take j).filter λd=>decide (d.m.To=f))::blk r 98 (x.cs++[sv,qv,wv,dv])::Zz 3 1 (Ye .i64) sv (R.feds.map FA.st)::Zz 3 1 (Ye .i64) qv (R.feds.map FA.sent)::Zz 81 6 Msg.cs wv R.wait::Zz 100 7 Zak.cs dv ds::Q)) ds.length ⟨0,Nat.zero_le _,rfl,rfl,h2⟩ ?_
 rintro q t4 _ w g ⟨j,hj,rfl,rfl,h3⟩ hg
 refine Zh (Za (Zb h3 1 rfl (v:=dv) rfl ?_))
 refine Zt h3 5 rfl (λ_=>Zp) ?_
 refine Za7 (λc=>Zi ?_) (λc=>Zf ?_)
 ·obtain ⟨y,hy⟩:=Zk (l:=ds) (j:=j) (by omega)
  have hfl:((ds.take j).filter λd=>decide (d.m.To=f)).length≤ds.length:=Nat.le_trans (List.length_filter_le _ _) (by rw[List.length_take];omega)
  have hsn:((ds.take (j+1)).filter λd=>decide (d.m.To=f))=((ds.take j).filter λd=>decide (d.m.To=f))++if y.m.To=f then [y] else []:=by
   rw[Zx hy,List.filter_append]
   congr 1
   by_cases h:y.m.To=f <;> simp[h]
  refine J1.cut (λt4 w=>Sat e w (Zz 100 7 Zak.cs t4 ((ds.take (j+1)).filter λd=>decide (d.m.To=f))::blk r 98 (x.cs++[sv,qv,wv,dv])::Zz 3 1 (Ye .i64) sv (R.feds.map FA.st)::Zz 3 1 (Ye .i64) qv (R.feds.map FA.sent)::Zz 81 6 Msg.cs wv R.wait::Zz 100 7 Zak.cs dv ds::Q)) (λk2 hcut=>?_) (λt4 w' h'=>?_)
  ·rw[hsn] at hcut
   refine Zh (Za (Zb h3 1 rfl (v:=dv) rfl ?_))
   refine Zw h3 5 rfl (λ_=>Zp) (λ_=>rfl) hy λp hp=>?_
   refine Zbd hp λp1 hp1=>Zbd hp1 λp2 hp2=>Yt h3 5 rfl hp2 (v:=.int .i64 y.m.To) rfl ?_
   refine ZoR (λc1=>?_) (λc1=>?_)
   ·rw[if_pos c1] at hcut
    refine Zi ?_
    refine Zh (Za (Zb h3 1 rfl (v:=dv) rfl ?_))
    refine Zw h3 5 rfl (λ_=>Zp) (λ_=>rfl) hy λp hp=>Ym h3 5 rfl hp rfl ?_
    refine Zj7 ZT4 (f:=Zak.cs) (λ_=>rfl) (λ_=>Zg _) h3 (x:=y) rfl (by omega) λv2 w6 h6=>?_
    exact hcut _ _ h6
   ·rw[if_neg c1,List.append_nil] at hcut
    exact Zf (hcut _ _ h3)
  ·refine Yr (by omega) ?_
   exact hg _ _ _ _ (by omega) ⟨j+1,by omega,rfl,rfl,h'⟩
 ·have ej:j=ds.length:=by omega
  rw[ej,List.take_length] at h3
  have h4:=ZLm hR (h3.selR [_,_,_,_,_,_] [_,_,_,_,_,_] [1,2,3,4,5,0] (by decide) rfl)
  exact hk _ _ h4.swap
theorem ZMd {x:WdX} (i:Nat) (hi:L[i]?=some S) (hS:Sat e w L) (hr:∀g,S g→ZtG x g) (hs:x.short) (hc:(Za4 x.w).2=0)
  (hk:∀r w',Sat e w' (ZKC r x (Zul x.w 150 (ZF4 x.w)).2 (Zul x.w 150 (ZF4 x.w)).1::L)→K (.tuple #[pt r,.bool (decide ((Zul x.w 150 (ZF4 x.w)).1<150))]) w'):Cl prog 7 #[.agg x.cs.toArray] w K:=by
 refine ZJX ?_
 unfold ZJF
 refine Yp (cs:=x.cs) hS rfl λb w1 h1=>?_
 have hi1:(blk b 25 x.cs::L)[i+1]?=some S:=by simpa using hi
 refine Zo h1 0 (vs:=x.cs) rfl (by rfl) rfl ?_
 refine ZLi (x:=x) (i+1) hi1 h1 hr hs (λh=>absurd hc h) λ_ r w2 h2=>?_
 refine Zam (Zal (ZoP rfl (Zf ?_)))
 refine ZKY (n:=150) (by omega) (i+1) hi1 h2 hr hs λw3 h3=>ZwL ?_
 rw[Nat.zero_add] at h3
 have e1:decide (((Zul x.w 150 (ZF4 x.w)).1:Int)<150)=decide ((Zul x.w 150 (ZF4 x.w)).1<150):=by
  rw[decide_eq_decide]
  omega
 rw[e1]
 exact hk r _ (h3.swap.drop)
def ZMn (wd:Wd) (k:KS) (l:List Zbs):KS:=l.foldl (λk o=>(doK wd k o).2) k
theorem ZLb (k:KS) (l:List Zbs) (o:Zbs):ZMn wd k (l++[o])=(doK wd (ZMn wd k l) o).2:=by
 unfold ZMn
 rw[List.foldl_append]
 rfl
theorem ZLJ {j:Nat} (hj:j<wd.Feds.length) (hS:Sat e w (Zby p wd k n s::Q)) (hn:n≤1000):(ZBN wd k j).length≤1000:=by
 obtain ⟨M,_,h1⟩:=ZpC hS
 have e1:ZBN wd k j=(k.node j).log wd j:=if_pos (by unfold inN;omega)
 rw[e1]
 have h2:=Sat.focus h1 j (Yk (F:=λf=>ndH wd n f (k.node f) (M.ms f)) hj)
 cases hN:k.node j with
 | slow N=>
  rw[hN] at h2
  have h3:=(ZzP (n:=(M.ms j).1) (wd:=wd) (f:=j) (N:=N) (k:=n) 0 h2 rfl).1
  exact Nat.le_trans h3.log hn
 | bold N r t=>
  rw[hN] at h2
  have h3:Sat e w (ZfN (M.ms j) r t::Ya (M.ms j).1 wd j (Zs wd j) N n::_):=Sat.split (l':=[_,_]) h2
  exact Nat.le_trans (ZAT (ZqK 1 h3 rfl)) hn
theorem ZUB {x:WdX} (i:Nat) (hi:L[i]?=some S) (hS:Sat e w L) (hr:∀g,S g→ZtG x g) (hs:x.short) (hc:(Za4 x.w).2≠0)
  (hk:∀w',Sat e w' L→K (.tuple #[.pointer none,.bool false]) w'):Cl prog 7 #[.agg x.cs.toArray] w K:=by
 refine ZJX ?_
 unfold ZJF
 refine Yp (cs:=x.cs) hS rfl λb w1 h1=>(Zo h1 0 (vs:=x.cs) rfl (by rfl) rfl ?_)
 exact ZLi (x:=x) (i+1) (by simpa using hi) h1 hr hs (λ_ w2 h2=>Zam (Zal (Zng hc (Zi (hk _ h2.drop))))) λh=>absurd h hc
theorem FK.doK {R:RS} (h:FK wd R k) (w:WF wd R) (o:Zbs):FK wd R (doK wd k o).2:=by
 unfold Go.Proofs.YtnhaekgogppbiaaGreat.doK
 split
 ·exact h
 ·rename_i hb
  unfold ZuO inN at hb
  exact h.do' w _ _ _ (λh4=>by omega) λh2=>by omega
theorem ZUd {x:WdX} {r1:Int} {v:Value} {l:List Zbs} (hS:Sat e w (S::Q)) (hr:∀g,S g→ZtG x g) (hwf:x.wf) (hw1:(Lit.int .u8 r1).wf=true) (hr2:∀g,S g→rdS 3 Zbs.cs v l g) (hk:∀w',Sat e w' (S::Q)→K (.bool true) w') :
  Cl prog 3 #[.agg x.cs.toArray,.int .u8 r1,v] w K:=by
 refine ZTx ?_
 unfold ZTw
 refine Yp (cs:=x.cs) hS rfl λb4 w2 h2=>(Zo h2 0 (vs:=x.cs) rfl (by rfl) rfl ?_)
 refine ZLK (x:=x) 1 rfl h2 hr λw3 q h3 hshort=>?_
 have hsh:∀{w:World},Sat e w (blk b4 25 x.cs::S::Q)→Cl prog 5 #[] w λt w=>K t w:=λh=>Zu0 h λw' h'=>hk _ h'.drop
 cases q with
 | false=>exact Zch (Zd (Zd (Zd (Yv (Zi (hsh h3))))))
 | true=>
  have hs:=hshort rfl
  refine ZaJ (Zj (Zj (Zt h3 1 rfl hr2 (Zj (Ztu (λc0=>Yd (Zi (hsh h3))) (λc0=>Yd (Zf ?_)))))))
  refine Zo h3 0 (vs:=x.cs) rfl (by rfl) rfl (ZJk (ZJm hw1) λrm hrm=>?_)
  have hE:ZtU x.w (rm:Int)=(Za4 x.w).2:=by
   unfold ZtU
   by_cases hc:(Za4 x.w).2=0
   ·rw[if_neg (λh=>h hc),if_pos (by omega),hc]
   ·rw[if_pos hc]
  refine Zu2 (room:=(rm:Int)) 1 rfl h3 hr hwf hs (λhb w4 h4=>?_) λhok p w4 h4=>?_
  ·rw[hE] at hb ⊢
   refine Zam (Zal (Zo h4 0 (vs:=x.cs) rfl (by rfl) rfl (ZUB 1 rfl h4 hr hs hb λw5 h5=>Zam (Zal ?_))))
   refine Zu0 h5 λw6 h6=>ZaJ (Zj (Zj (Zd8 hb (Zj (Zj (ZtL (Zj (ZMz (Yd (Zf ?_))))))))))
   refine Zng hb (Zd (Zd (Yv (Zi (Zd8 hb (Zj (Zj (Ztj (Yd (hk _ h6.drop))))))))))
  ·rw[Int.toNat_natCast] at h4
   rw[hE] at hok
   refine Zam (Zal (Zo h4 1 (vs:=x.cs) rfl (by rfl) rfl (ZMd 2 rfl h4 hr hs hok λp2 w5 h5=>Zam (Zal ?_))))
   refine Zu0 h5 λw6 h6=>ZaJ (Zj (Zj (Znq rfl (Zj (Zj (ZtQ _ (Zj (ZMz (Yd (Zf ?_))))))))))
   refine ZoP rfl (Zj (Zj ?_))
   by_cases hen:(Zul x.w 150 (ZF4 x.w)).1<150
   case neg=>
    rw[decide_eq_false hen]
    exact Zch (Yd (Zi (Znq rfl (Zd (Zd (Yv (hk _ h6.drop.drop.drop)))))))
   rw[decide_eq_true hen]
   refine ZaJ (Yd (Zf ?_))
   have hW:=ZU0 hok hen
   have hF0:=FK.init hW rm
   have hc150:(Zul x.w 150 (ZF4 x.w)).1≤1000:=by omega
   have hn8:=(ZfI hok).n
   have hxl:x.w.Feds.length=x.Feds.length:=by simp[WdX.w]
   generalize (Zul x.w 150 (ZF4 x.w)).1=c at*
   generalize (Zul x.w 150 (ZF4 x.w)).2=Rw at*
   generalize hk0:KS.init x.w rm=k0 at*
   generalize hwdx:x.w=wd at*
   refine Zdk (λz t w=>∃i:Nat,i≤l.length∧t=.int .i64 i∧z=l.length - i∧FK wd Rw (ZMn wd k0 (l.take i))∧Sat e w (Zby p wd (ZMn wd k0 (l.take i)) i i::ZKC p2 x Rw c::blk b4 25 x.cs::S::Q)) l.length ⟨0,Nat.zero_le _,rfl,rfl,hF0,h6.selR [_,_,_,_] [_,_,_,_] [1,0,2,3] (by decide) rfl⟩ ?_
   rintro z _ w8 g1 ⟨i,hi,rfl,rfl,hF,h9⟩ hg1
   refine Zt h9 3 rfl hr2 (Za7 (λc1=>Zi ?_) (λc1=>Zf (hk _ h9.drop.drop.drop)))
   obtain ⟨y,hy⟩:=Zk (l:=l) (j:=i) (by omega)
   have e1:ZMn wd k0 (l.take (i+1))=(doK wd (ZMn wd k0 (l.take i)) y).2:=by rw[Zx hy,ZLb]
   have hF':=hF.doK hW y
   rw[←e1] at hF'
   refine J0.cut (λw=>Sat e w (Zby p wd (ZMn wd k0 (l.take (i+1))) (i+1) (i+1)::ZKC p2 x Rw c::blk b4 25 x.cs::S::Q)) (λk2 hcut=>?_) λw10 h10=>Yr (by omega) (hg1 _ _ _ (by omega) ⟨i+1,by omega,rfl,rfl,hF',h10⟩)
   refine Zw h9 3 rfl hr2 (λ_=>rfl) hy λa ha=>Ym h9 3 rfl ha rfl (ZrZ (o:=y) (by omega) (by omega) h9 λw11 h11=>?_)
   rw[←e1] at h11
   have h12:=Zgh (Zxu i y) (Nat.le_refl _) h11
   generalize hk2:ZMn wd k0 (l.take (i+1))=k3 at*
   have inner:Zr (.bool true) (lp [(Value.int IntKind.i64 0)] w11 (b1 λt12 w g3=>
     fld 1 (pt b4) w λt80 w=>
     ld1 t80 w λt81 w=>
     lnS t81 w λt82 w=>
     bi .lss .i64 t12 t82 w λt83 w=>
     Zr t83
     (Cl prog 10 #[pt p,t12] w λt88 w=>
     Cl prog 11 #[pt p2,t12] w λt91 w=>
     Cl prog 9 #[t88,t91] w λt92 w=>
     Zb3 t92 w λt93 w=>
     Zr t93
     (K (Value.bool false) w)
     (bi .add .i64 t12 (Value.int IntKind.i64 1) w λt85 w=>
     g3 [t85] w))
     (k2 w))) (k2 w11):=by
    refine Zi (Zdk (λz t w=>∃j:Nat,j≤x.Feds.length∧t=.int .i64 j∧z=x.Feds.length - j∧Sat e w (Zby p wd k3 (i+1) (i+1)::ZKC p2 x Rw c::blk b4 25 x.cs::S::Q)) x.Feds.length ⟨0,Nat.zero_le _,rfl,rfl,h12⟩ ?_)
    rintro z _ w13 g3 ⟨j,hj,rfl,rfl,h13⟩ hg3
    refine Za (Zb h13 2 rfl (v:=x.fv) rfl (Zt h13 3 rfl (λg hg=>(hr g hg).feds) ?_))
    refine Za7 (λc2=>Zi ?_) (λc2=>Zf (hcut _ h13))
    have hjl:j<wd.Feds.length:=by omega
    have hl0:=ZLJ (j:=j) hjl h13 (by omega)
    obtain ⟨m,hm⟩:=hF'.prefix hW hjl
    have e2:ZBN wd k3 (j:Int)=(k3.node j).log wd j:=if_pos (by unfold inN;omega)
    rw[←e2] at hm
    refine ZdZ (a:=(j:Int)) (by omega) h13 λu w14 h14=>(ZKP (f:=(j:Int)) hc150 (h14.pick 2 rfl) λu2 w15 h15=>?_)
    rw[hm] at h15
    refine ZND (l:=ZBN wd k3 (j:Int)) (m:=m) 2 0 rfl rfl h15 (λ_=>Zp) (λ_=>Zp) (by omega) λw16 h16=>(ZaJ (Zf (Yr (by omega) ?_)))
    exact hg3 _ _ _ (by omega) ⟨j+1,by omega,rfl,rfl,h16.selR [_,_,_,_,_,_] [_,_,_,_] [3,1,4,5] (by decide) rfl⟩
   refine Zwn (by decide) (ZoR (λc3=>?_) λc3=>?_)
   ·exact Zd (Zd (Zd (Zd (Zd (Yv inner)))))
   ·refine Zj (Zj (Yr (by omega) (Zj (Zj (Zt h12 3 rfl hr2 (Zj (ZoR (λc4=>Yd inner) λc4=>Yd (Zf (hcut _ h12)))))))))
end Go.Proofs.YtnhaekgogppbiaaGreat
end
