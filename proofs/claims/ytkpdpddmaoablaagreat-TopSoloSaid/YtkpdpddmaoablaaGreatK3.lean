/- Texts of the proof, joined. Conditions: none. -/
import Derived.Test.YtkpdpddmaoablaaGreatK2
section
namespace Go.Proofs.YtkpdpddmaoablaaGreat
open Go Go.E
set_option maxRecDepth 100000
variable {e w:World} {L R:List HP} {K:KV} {S S2:HP}
def upL (ps:List Int):Nat→Int→List Int
 | 0,_=>[]
 | n+1,a=>if a<0 then [] else a::upL ps n (ps.getD a.toNat (-1))
theorem Zse (ps:List Int) (n:Nat) (a:Int):upL ps (n+1) a=if a<0 then [] else a::upL ps n (ps.getD a.toNat (-1)):=rfl
theorem Zza (ps:List Int) {a:Int} (h:a<0):∀n,upL ps n a=[]
 | 0=>rfl
 | n+1=>by rw[Zse,if_pos h]
def ZsD (ps:List Int) (a:Int):List Int:=upL ps (a.toNat+1) a
theorem ZFY {v:Value} {ps:List Int} {a b:Int} (i:Nat) (hi:L[i]?=some S) (hS:Sat e w L) (hr:∀g,S g→rdS 1 (Ye .i64) v ps g) (ht:ZkT ps) (ha:0≤a∧a<ps.length) (hk:∀w',Sat e w' L→K (.bool (decide (b∈ZsD ps a))) w') :
  Cl prog 106 #[v,.int .i64 a,.int .i64 b] w K:=by
 refine Zm4 ?_
 unfold Zsj
 rw[ZDc]
 refine Yp (cs:=[.int .i64 b]) hS rfl λcb w1 h1=>?_
 refine Yp (cs:=[.bool false]) h1 rfl λcr w2 h2=>?_
 refine Zoy ?_
 unfold ZtV
 refine Yp (cs:=[v]) h2 ?_ λcp w3 h3=>?_
 ·obtain ⟨A,c,rfl,_⟩:=hS.shape i hi hr
  rfl
 refine Yp (cs:=[.int .i64 a]) h3 rfl λca w4 h4=>?_
 refine ZF0 rfl (by kernel_rfl) h4 λl E LR w5 Kf rule fin finr h5=>?_
 refine Zmz (t0:=.func (.yield l) #[] #[]) (t1:=.pointer (some ⟨ca,0,none⟩)) (t2:=.pointer (some ⟨cp,0,none⟩)) ?_
 unfold Zqa
 refine Zb h5 2 rfl rfl ?_
 refine Zb h5 3 rfl rfl ?_
 have hi6:(lpC LR l .ready::dfC E::blk ca 3 [.int .i64 a]::blk cp 24 [v]::blk cr 4 [.bool false]::blk cb 3 [.int .i64 b]::L)[i+6]?=some S:=by simpa using hi
 refine Zt h5 (i+6) hi6 hr ?_
 refine ZnR (by omega) (Zj (Zb h5 3 rfl rfl (Zj (Zkz (i+6) hi6 h5 hr ?_))))
 have htE:ZhY ps=0:=by unfold ZhY;exact if_pos ht
 rw[htE]
 refine Ze (ZoP (by omega) (Yd (Zf ?_)))
 refine ZG9 (λn w=>∃z:Int,z<n∧-1≤z∧z<ps.length∧(b∈ZsD ps a↔b∈upL ps n z)∧
   Sat e w (lpC LR l .ready::dfC E::blk ca 3 [.int .i64 z]::blk cp 24 [v]::blk cr 4 [.bool false]::blk cb 3 [.int .i64 b]::L)) (a.toNat+1) ⟨a,by omega,by omega,by omega,Iff.rfl,h5⟩ ?_
 rintro n w g1 ⟨z,hzn,hz1,hzl,hiff,h6⟩ hg
 refine Zb h6 2 rfl rfl ?_
 by_cases hz:0≤z
 case neg=>
  refine ZnR (by omega) (Zf ?_)
  have hb:¬b∈ZsD ps a:=by rw[hiff,Zza ps (by omega)];simp
  refine fin h6 λw7 h7=>?_
  refine Zq h7 3 rfl (vs:=[.bool false]) rfl rfl (by simp) (by simp[flat]) (cs':=[.bool false]) (by rfl) λw8 h8=>?_
  refine Zvn h8 λw9 h9=>?_
  refine Zb h9 2 rfl rfl ?_
  have:=hk _ (h9.selR [_,_,_,_] [] [] (by decide) rfl)
  rw[decide_eq_false hb] at this
  exact this
 refine Zqv (by omega) (Zi (Zb h6 2 rfl rfl ?_))
 obtain ⟨m,rfl⟩:∃m,n=m+1:=⟨n - 1,by omega⟩
 rw[Zse,if_neg (by omega)] at hiff
 refine rule h6 rfl ?_
 show bgn l w λw=>ld1 _ w λt13 w=>bi .eql .i64 (.int .i64 z) t13 w λt14 w=>_
 refine ZB7 h6 λw7 h7=>?_
 refine Zb h7 5 rfl rfl ?_
 refine ZoR (λc1=>Zi ?_) (λc1=>Zf ?_)
 ·refine Zq h7 4 rfl (vs:=[.bool true]) rfl rfl (by simp) (by simp[flat]) (cs':=[.bool true]) (by rfl) λw8 h8=>?_
  refine ZGj h8 λw9 h9=>?_
  refine Zch (Zi ?_)
  have hb:b∈ZsD ps a:=by rw[hiff,c1];simp
  refine finr h9 λw10 h10=>?_
  refine Zvn h10 λw11 h11=>?_
  refine Zb h11 2 rfl rfl ?_
  have:=hk _ (h11.selR [_,_,_,_] [] [] (by decide) rfl)
  rw[decide_eq_true hb] at this
  exact this
 ·refine ZwR h7 λw9 h9=>?_
  refine ZaJ (Zf ?_)
  refine Zb h9 3 rfl rfl (Zb h9 2 rfl rfl ?_)
  obtain ⟨y,hy⟩:=Zk (l:=ps) (j:=z.toNat) (by omega)
  have hzN:z=((z.toNat:Nat):Int):=by omega
  have hp:=ht.2.2 z.toNat y hy
  have hpl:=ht.2.1
  have hgd:ps.getD z.toNat (-1)=y:=by rw[List.getD_eq_getElem?_getD,hy];rfl
  rw[hgd] at hiff
  have hi9:(lpC LR l .ready::dfC E::blk ca 3 [.int .i64 z]::blk cp 24 [v]::blk cr 4 [.bool false]::blk cb 3 [.int .i64 b]::L)[i+6]?=some S:=by simpa using hi
  rw[show Value.int .i64 z=.int .i64 ((z.toNat:Nat):Int) from by rw[←hzN]]
  refine Zw h9 (i+6) hi9 hr (λ_=>rfl) hy λq hq=>?_
  refine Yt h9 (i+6) hi9 hq (v:=.int .i64 y) rfl ?_
  refine Zq h9 2 rfl (vs:=[.int .i64 y]) rfl rfl (by simp) (by simp[flat]) (cs':=[.int .i64 y]) (by rfl) λw10 h10=>?_
  refine hg m _ (by omega) ⟨y,by omega,by omega,by omega,?_,h10⟩
  rw[hiff]
  simp[Ne.symm c1]
def Zl1 (ps:List Int) (c:Int) (f:Fed):Bool:=f.Subs.any λs=>decide (s∈ZsD ps c)
def Zba (ps:List Int) (f c:Int) (l:List Fed):List Int:=(l.zipIdx.filter λp=>decide ((p.2:Int)≠f)&&Zl1 ps c p.1).map λp=>(p.2:Int)
theorem ZpM (ps:List Int) (f c:Int) (l:List Fed) (x:Fed):Zba ps f c (l++[x])=Zba ps f c l++if (l.length:Int)≠f∧Zl1 ps c x=true then [(l.length:Int)] else []:=by
 unfold Zba
 rw[List.zipIdx_append,List.filter_append,List.map_append]
 congr 1
 simp only[List.zipIdx_singleton,Nat.zero_add,List.filter_cons,List.filter_nil]
 by_cases h:(l.length:Int)≠f∧Zl1 ps c x=true
 ·rw[if_pos h,if_pos (by simp[h])];rfl
 ·rw[if_neg h,if_neg (by simpa using h)];rfl
theorem ZhD (ps:List Int) (f c:Int) (l:List Fed):(Zba ps f c l).length≤l.length:=by
 unfold Zba
 rw[List.length_map]
 exact Nat.le_trans (List.length_filter_le _ _) (by simp)
theorem Zn9 {v fv:Value} {l:List Int} {p:Int→Bool} (i:Nat) (hi:L[i]?=some S) (hS:Sat e w L) (hr:∀g,S g→rdS 1 (Ye .i64) v l g) (hl:l.length≤1000000)
  (hp:∀o∈l,∀(w:World) (K:KV),Sat e w L→(∀w',Sat e w' L→K (.bool (p o)) w')→clV prog fv #[.int .i64 o] w K)
  (hk:∀w',Sat e w' L→K (.bool (l.any p)) w'):Cl prog 104 #[v,fv] w K:=by
 refine Zcf ?_
 unfold Zbq
 refine ZcA ?_
 unfold ZbV
 refine Zt hS i hi hr ?_
 refine Zdk (λq t8 w=>∃j:Nat,j≤l.length∧t8=.int .i64 j∧q=l.length - j∧(∀o∈l.take j,p o=false)∧Sat e w L) l.length ⟨0,Nat.zero_le _,rfl,rfl,by simp,hS⟩ ?_
 rintro q _ w g ⟨j,hj,rfl,rfl,hno,h1⟩ hg
 refine Za7 (λc=>Zi ?_) (λc=>Zf ?_)
 ·obtain ⟨o,ho⟩:=Zk (l:=l) (j:=j) (by omega)
  refine Zw h1 i hi hr (λ_=>rfl) ho λa ha=>?_
  refine Yt h1 i hi ha (v:=.int .i64 o) rfl ?_
  refine hp o (List.mem_of_getElem? ho) _ _ h1 λw2 h2=>?_
  cases hpo:p o with
  | true=>
   refine Zi (Zqv (by omega) ?_)
   have:=hk _ h2
   rw[List.any_eq_true.2 ⟨o,List.mem_of_getElem? ho,hpo⟩] at this
   exact this
  | false=>
   refine Zf (Yr (by omega) ?_)
   refine hg _ _ _ (by omega) ⟨j+1,by omega,rfl,rfl,λy hy=>?_,h2⟩
   rw[Zx ho] at hy
   rcases List.mem_append.1 hy with h | h
   ·exact hno y h
   ·rw[List.mem_singleton.1 h];exact hpo
 ·have ej:j=l.length:=by omega
  rw[ej,List.take_length] at hno
  refine ZnR (by omega) ?_
  have:=hk _ h1
  rw[List.any_eq_false.2 λo ho=>by rw[hno o ho];decide] at this
  exact this
theorem Zwx {x:WdX} {f c:Int} (i:Nat) (hi:L[i]?=some S) (hS:Sat e w L) (hr:∀g,S g→ZtG x g) (hs:x.short) (ht:ZkT x.Parents) (hc:0≤c∧c<x.Parents.length)
  (hk:∀v w',Sat e w' (Zz 3 1 (Ye .i64) v (Zba x.w.Parents f c x.w.Feds)::L)→K v w'):Cl prog 75 #[.agg x.cs.toArray,.int .i64 f,.int .i64 c] w K:=by
 refine Zhu ?_
 unfold ZiO
 refine Yp (cs:=x.cs) hS rfl λb w1 h1=>?_
 refine Yp (cs:=[.int .i64 c]) h1 rfl λcb w2 h2=>?_
 refine Za (Zb h2 1 rfl (v:=x.fv) rfl ?_)
 have hi2:(blk cb 3 [.int .i64 c]::blk b 27 x.cs::L)[i+2]?=some S:=by simpa using hi
 refine Zt h2 (i+2) hi2 (λg hg=>(hr g hg).feds) ?_
 have hfl:=hs.feds
 rw[ZOh]
 refine ZjF (λq t7 t13 w=>∃j:Nat,j≤x.Feds.length∧t13=.int .i64 j∧q=x.Feds.length - j∧Sat e w (Zz 3 1 (Ye .i64) t7 (Zba x.Parents f c ((x.Feds.take j).map Zao.f))::blk cb 3 [.int .i64 c]::blk b 27 x.cs::L)) x.Feds.length
  ⟨0,Nat.zero_le _,rfl,rfl,h2.own_nil 3 1 (Ye .i64)⟩ ?_
 rintro q t7 _ w g ⟨j,hj,rfl,rfl,h3⟩ hg
 have hi3:(Zz 3 1 (Ye .i64) t7 (Zba x.Parents f c ((x.Feds.take j).map Zao.f))::blk cb 3 [.int .i64 c]::blk b 27 x.cs::L)[i+3]?=some S:=by simpa using hi
 refine Za7 (λc0=>Zi ?_) (λc0=>Zf ?_)
 ·obtain ⟨fd,hf⟩:=Zk (l:=x.Feds) (j:=j) (by omega)
  have hfm:=List.mem_of_getElem? hf
  have hlen:((x.Feds.take j).map Zao.f).length=j:=by rw[List.length_map,List.length_take];omega
  have hsn:Zba x.Parents f c ((x.Feds.take (j+1)).map Zao.f)=Zba x.Parents f c ((x.Feds.take j).map Zao.f)++if (j:Int)≠f∧Zl1 x.Parents c fd.f=true then [(j:Int)] else []:=by
   rw[Zx hf,List.map_append,List.map_singleton,ZpM,hlen]
  have hrl:=ZhD x.Parents f c ((x.Feds.take j).map Zao.f)
  rw[hlen] at hrl
  refine J1.cut (λt7 w=>Sat e w (Zz 3 1 (Ye .i64) t7 (Zba x.Parents f c ((x.Feds.take (j+1)).map Zao.f))::blk cb 3 [.int .i64 c]::blk b 27 x.cs::L)) (λk2 hcut=>?_) (λt7 w h4=>?_)
  ·rw[hsn] at hcut
   refine Zw h3 (i+3) hi3 (λg hg=>(hr g hg).feds) (λ_=>rfl) hf λa ha=>?_
   refine Ym h3 (i+3) hi3 ha rfl ?_
   refine Yp (cs:=[.int .i64 0,.int .i64 0,.int .i64 0,.slice none 0 0,.slice none 0 0,.slice none 0 0,.slice none 0 0]) h3 rfl λt w5 h5=>?_
   refine Zq h5 0 rfl (vs:=fd.cs) rfl rfl (by simp) (Zc1 i hi hS λg hg=>(hr g hg).fed fd hfm) (cs':=fd.cs) (by rfl) λw6 h6=>?_
   refine ZrP (λc1=>?_) (λc1=>?_)
   ·refine Ze (Za (Ze (Zb h6 0 rfl (v:=fd.sv) rfl (Ze (Ze ?_)))))
    refine Zn9 (p:=λs=>decide (s∈ZsD x.Parents c)) (i+4) (by simpa using hi) h6 (λg hg=>((hr g hg).fed fd hfm).subs) (by have:=(hs.fed fd hfm).subs;omega) (λo ho w K h hK=>?_) λw7 h7=>?_
    ·refine ⟨_,_,_,rfl,?_⟩
     refine ZfE (t0:=.int .i64 o) (t1:=.pointer (some ⟨b,0,none⟩)) (t2:=.pointer (some ⟨cb,0,none⟩)) ?_
     unfold ZfM
     refine Za (Zb h 3 rfl (v:=x.pv) rfl ?_)
     refine Zb h 2 rfl rfl ?_
     exact ZFY (i+4) (by simpa using hi) h (λg hg=>(hr g hg).par) ht hc λw' h'=>hK _ h'
    ·refine Yv (ZBL _ (λhh=>?_) (λhh=>?_))
     ·have hh':Zl1 x.Parents c fd.f=true:=hh
      rw[if_pos ⟨c1,hh'⟩] at hcut
      refine Zj7 ZOX (f:=Ye .i64) (λ_=>rfl) (λ_ _ h=>by simp[Ye] at h;subst h;rfl) (h7.pick 1 rfl) (x:=(j:Int)) rfl (by omega) λv' w8 h8=>?_
      exact hcut _ _ (h8.selR [_,_,_,_] [_,_,_] [0,2,3] (by decide) rfl)
     ·have hh':¬Zl1 x.Parents c fd.f=true:=by unfold Zl1;rw[show fd.f.Subs=fd.Subs from rfl,hh];decide
      rw[if_neg λh=>hh' h.2,List.append_nil] at hcut
      exact hcut _ _ h7.drop
   ·refine Zd (Zd (Zu (Zd (Yd (Zf ?_)))))
    rw[if_neg λh=>h.1 c1,List.append_nil] at hcut
    exact hcut _ _ h6.drop
  ·refine Yr (by omega) ?_
   exact hg _ _ _ _ (by omega) ⟨j+1,by omega,rfl,rfl,h4⟩
 ·have ej:j=x.Feds.length:=by omega
  rw[ej,List.take_length] at h3
  exact hk _ _ (h3.selR [_,_,_] [_] [0] (by decide) rfl)
end Go.Proofs.YtkpdpddmaoablaaGreat
namespace Go.Proofs.YtkpdpddmaoablaaGreat
open Go Go.E
set_option maxRecDepth 100000
variable {e w:World} {L R:List HP} {K:KV} {S S2:HP}
theorem ZFK (a:Int):∃k:Int,a=1000*k+a.tmod 1000∧-999≤a.tmod 1000∧a.tmod 1000≤999:=by
 refine ⟨a.tdiv 1000,(Int.mul_tdiv_add_tmod a 1000).symm,?_,?_⟩
 ·by_cases h:0≤a
  ·have:=Int.tmod_nonneg 1000 h;omega
  ·have h1:=Int.neg_tmod a 1000
   have h2:=Int.tmod_lt_of_pos (-a) (show (0:Int)<1000 by decide)
   rw[h1] at h2
   omega
 ·have:=Int.tmod_lt_of_pos a (show (0:Int)<1000 by decide);omega
theorem Zoo {n:Int} (hk:K (.int .i64 (n % 1000)) w):Cl prog 103 #[.int .i64 n] w K:=by
 refine Zjc ?_
 unfold ZkS
 refine Zwn (by decide) ?_
 obtain ⟨k,h1,h2,h3⟩:=ZFK n
 generalize n.tmod 1000=r at h1 h2 h3
 refine Za7 (λc=>Zi ?_) (λc=>Zf ?_)
 ·refine ZcD (by omega) (by omega) ?_
  rw[show r+1000=n % 1000 from by omega]
  exact hk
 ·rw[show r=n % 1000 from by omega]
  exact hk
def Zim (f seq now body:Int) (o:Out):Msg:=⟨⟨ZvS now o.Delay,f,seq⟩,-1,o.Class,(body+o.Add) % 1000⟩
theorem ZDb {f seq now body:Int} {o:Out} (hS:Sat e w L) (hk:∀w',Sat e w' L→K (.agg (Zim f seq now body o).cs.toArray) w') :
  Cl prog 74 #[.int .i64 f,.int .i64 seq,.int .i64 now,.int .i64 body,.agg o.cs.toArray] w K:=by
 refine ZkY ?_
 unfold ZnJ
 refine Yp (cs:=o.cs) hS rfl λt9 w1 h1=>?_
 rw[ZNN]
 refine Yp (cs:=Msg.zero.cs) h1 rfl λt10 w2 h2=>?_
 refine ZaY h2 λw3 h3=>?_
 refine Za (Zb h3 1 rfl (v:=.int .i64 o.Delay) rfl ?_)
 refine Za (Zb h3 1 rfl (v:=.int .i64 o.Class) rfl ?_)
 refine Za (Zb h3 1 rfl (v:=.int .i64 o.Add) rfl ?_)
 refine ZhT ?_
 have oA:ld1 (.pointer (some ⟨t9,0+2,none⟩)) w3 (λv' w''=>v'=.int .i64 o.Add∧w''=w3):=Zb h3 1 rfl (v:=.int .i64 o.Add) rfl ⟨rfl,rfl⟩
 have oC:ld1 (.pointer (some ⟨t9,0+0,none⟩)) w3 (λv' w''=>v'=.int .i64 o.Class∧w''=w3):=Zb h3 1 rfl (v:=.int .i64 o.Class) rfl ⟨rfl,rfl⟩
 have key:∀K:KV,K (.agg (Yi [ZvS now o.Delay,f,seq]).toArray) w3→bld (Zl prog 38) #[(0,1),(1,1),(2,1)] [(0,.int .i64 (ZvS now o.Delay)),(1,.int .i64 f),(2,.int .i64 seq)] w3 K:=λK h=>Zaf (Yi [ZvS now o.Delay,f,seq]) (by kernel_rfl) h
 have e0:(body % 1000+o.Add % 1000) % 1000=(body+o.Add) % 1000:=by omega
 have fin:bld #[.int .i64 0,.int .i64 0,.int .i64 0,.int .i64 0,.int .i64 0,.int .i64 0] #[(0,3),(3,1),(4,1),(5,1)] [(0,.agg (Yi [ZvS now o.Delay,f,seq]).toArray),(1,.int .i64 (-1)),(2,.int .i64 o.Class),(3,.int .i64 ((body % 1000+o.Add % 1000) % 1000))] w3 λt27 w=>
   stN 6 (.pointer (some ⟨t10,0,none⟩)) t27 w λ_ w=>ldN 6 (.pointer (some ⟨t10,0,none⟩)) w λr0 _=>K r0 w:=by
  rw[e0]
  refine Zaf (Zim f seq now body o).cs (by kernel_rfl) ?_
  refine Zq h3 0 rfl (vs:=(Zim f seq now body o).cs) rfl rfl (by simp[Yi,Msg.ns,Msg.zero]) (Zg _) (cs':=(Zim f seq now body o).cs) (by rfl) λw4 h4=>?_
  refine Zo h4 0 (vs:=(Zim f seq now body o).cs) rfl (by rfl) rfl ?_
  exact hk _ h4.drop.drop
 have mA:∀K:KV,K (.int .i64 (o.Add % 1000)) w3→Cl prog 103 #[.int .i64 o.Add] w3 K:=λK h=>Zoo h
 have mB:∀K:KV,K (.int .i64 (body % 1000)) w3→Cl prog 103 #[.int .i64 body] w3 K:=λK h=>Zoo h
 have mS:∀K:KV,K (.int .i64 ((body % 1000+o.Add % 1000) % 1000)) w3→Cl prog 103 #[.int .i64 (body % 1000+o.Add % 1000)] w3 K:=λK h=>Zoo h
 refine ⟨oA,oC,?_,?_⟩
 ·refine key _ ⟨oA,oC,mB _ ⟨oA,oC,mA _ ⟨oC,ZcD (by omega) (by omega) (mS _ ⟨oC,?_⟩)⟩⟩⟩
  exact fin
 ·refine mB _ ⟨oA,oC,key _ ⟨oA,oC,mA _ ⟨oC,ZcD (by omega) (by omega) (mS _ ⟨oC,?_⟩)⟩⟩,?_⟩
  ·exact fin
  ·refine mA _ ⟨oC,ZcD (by omega) (by omega) ⟨key _ ⟨oA,oC,mS _ ⟨oC,?_⟩⟩,mS _ ⟨oC,key _ ⟨oA,oC,?_⟩⟩⟩⟩
   ·exact fin
   ·exact fin
def Zau (ps:List Int) (feds:List Fed) (f seq now body:Int) (outs:List Out):List Msg:=outs.zipIdx.flatMap λp=>(Zba ps f p.1.Class feds).map λto=>{ Zim f (seq+p.2) now body p.1 with To:=to }
theorem ZpO (ps:List Int) (feds:List Fed) (f seq now body:Int) (outs:List Out) (o:Out):Zau ps feds f seq now body (outs++[o])=Zau ps feds f seq now body outs++(Zba ps f o.Class feds).map λto=>{ Zim f (seq+outs.length) now body o with To:=to }:=by
 unfold Zau
 rw[List.zipIdx_append,List.flatMap_append]
 simp
theorem ZcU (ps:List Int) (feds:List Fed) (f seq now body:Int) (outs:List Out):(Zau ps feds f seq now body outs).length≤outs.length*feds.length:=by
 have key:∀(l:List (Out × Nat)),(l.flatMap λp=>(Zba ps f p.1.Class feds).map λto=>({ Zim f (seq+p.2) now body p.1 with To:=to }:Msg)).length≤l.length*feds.length:=by
  intro l
  induction l with
  | nil=>simp
  | cons p l ih=>
   rw[List.flatMap_cons,List.length_append,List.length_map,List.length_cons,Nat.add_mul]
   have:=ZhD ps f p.1.Class feds
   omega
 have:=key outs.zipIdx
 rw[List.length_zipIdx] at this
 exact this
def Zpq (n:Nat) (o:Out):Prop:=0≤o.Class∧o.Class<n∧0≤o.Add
theorem Zog {x:WdX} {f seq now body:Int} {v:Value} {outs:List Out} (i k:Nat) (hi:L[i]?=some S) (hk2:L[k]?=some S2) (hS:Sat e w L) (hr:∀g,S g→ZtG x g) (hr2:∀g,S2 g→rdS 3 Out.cs v outs g) (hs:x.short) (ht:ZkT x.Parents)
  (ho:∀o∈outs,Zpq x.Parents.length o) (hl:outs.length≤1000) (hq:0≤seq∧seq≤1125899906842624)
  (hk:∀v w',Sat e w' (Zz 40 6 Msg.cs v (Zau x.w.Parents x.w.Feds f seq now body outs)::L)→K v w'):Cl prog 48 #[.agg x.cs.toArray,.int .i64 f,.int .i64 seq,.int .i64 now,.int .i64 body,v] w K:=by
 refine Zht ?_
 unfold ZiW
 refine Yp (cs:=x.cs) hS rfl λb w1 h1=>?_
 have hi1:(blk b 27 x.cs::L)[i+1]?=some S:=by simpa using hi
 have hk1:(blk b 27 x.cs::L)[k+1]?=some S2:=by simpa using hk2
 refine Zt h1 (k+1) hk1 hr2 ?_
 have hfl:=hs.feds
 rw[ZPt,ZNN]
 have hflat:=ZoI i hi hS hr
 refine ZjF (λq t13 t21 w=>∃j:Nat,j≤outs.length∧t21=.int .i64 j∧q=outs.length - j∧Sat e w (Zz 40 6 Msg.cs t13 (Zau x.w.Parents x.w.Feds f seq now body (outs.take j))::blk b 27 x.cs::L)) outs.length
  ⟨0,Nat.zero_le _,rfl,rfl,h1.own_nil 40 6 Msg.cs⟩ ?_
 rintro q t13 _ w g ⟨j,hj,rfl,rfl,h2⟩ hg
 refine Za7 (λc0=>Zi ?_) (λc0=>Zf ?_)
 ·obtain ⟨o,hoj⟩:=Zk (l:=outs) (j:=j) (by omega)
  obtain ⟨o1,o2,o3⟩:=ho o (List.mem_of_getElem? hoj)
  have hlen:(outs.take j).length=j:=by rw[List.length_take];omega
  have hsn:Zau x.w.Parents x.w.Feds f seq now body (outs.take (j+1))=Zau x.w.Parents x.w.Feds f seq now body (outs.take j)++(Zba x.w.Parents f o.Class x.w.Feds).map λto=>{ Zim f (seq+j) now body o with To:=to }:=by
   rw[Zx hoj,ZpO,hlen]
  have hsl:=ZcU x.w.Parents x.w.Feds f seq now body (outs.take j)
  have hfl2:x.w.Feds.length≤1000:=by simp only[WdX.w,List.length_map];exact hfl
  rw[hlen] at hsl
  have hsl2:j*x.w.Feds.length≤1000*1000:=Nat.mul_le_mul (by omega) hfl2
  have hi2:(Zz 40 6 Msg.cs t13 (Zau x.w.Parents x.w.Feds f seq now body (outs.take j))::blk b 27 x.cs::L)[i+2]?=some S:=by simpa using hi
  have hk3:(Zz 40 6 Msg.cs t13 (Zau x.w.Parents x.w.Feds f seq now body (outs.take j))::blk b 27 x.cs::L)[k+2]?=some S2:=by simpa using hk2
  refine Zw h2 (k+2) hk3 hr2 (λ_=>rfl) hoj λa ha=>?_
  refine Ym h2 (k+2) hk3 ha rfl ?_
  refine Yp (cs:=Yi [0,0,0]) h2 rfl λt w3 h3=>?_
  refine Zq h3 0 rfl (vs:=o.cs) rfl rfl (by decide) (Zg _) (cs':=o.cs) (by rfl) λw4 h4=>?_
  refine ZcD (by omega) (by omega) ?_
  refine Zo h4 0 (vs:=o.cs) rfl (by rfl) rfl ?_
  refine ZDb h4 λw5 h5=>?_
  refine Yp (cs:=Msg.zero.cs) h5 rfl λtm w6 h6=>?_
  generalize hm:Zim f (seq+j) now body o=m at hsn h6 ⊢
  have hmc:m.Class=o.Class:=by rw[←hm];rfl
  refine Zq h6 0 rfl (vs:=m.cs) rfl rfl (by decide) (Zg _) (cs':=m.cs) (by rfl) λw7 h7=>?_
  refine Zo h7 3 (vs:=x.cs) rfl (by rfl) rfl ?_
  refine Za (Zb h7 0 rfl (v:=.int .i64 m.Class) rfl ?_)
  rw[hmc]
  refine Zwx (x:=x) (i+4) (by simpa using hi) h7 hr hs ht ⟨o1,o2⟩ λtv w8 h8=>?_
  refine Zt h8 0 rfl (λ_=>Zp) ?_
  generalize hrt:Zba x.w.Parents f o.Class x.w.Feds=rt at hsn h8 ⊢
  have hrtl:rt.length≤1000:=by rw[←hrt];exact Nat.le_trans (ZhD _ _ _ _) hfl2
  refine ZjF (λq t13 t40 w=>∃(n:Nat) (m':Msg),n≤rt.length∧t40=.int .i64 n∧q=rt.length - n∧(∀to,{ m' with To:=to }={ m with To:=to })∧
    Sat e w (Zz 40 6 Msg.cs t13 (Zau x.w.Parents x.w.Feds f seq now body (outs.take j)++(rt.take n).map λto=>{ m with To:=to })::Zz 3 1 (Ye .i64) tv rt::blk tm 40 m'.cs::blk t 55 o.cs::blk b 27 x.cs::L)) rt.length
   ⟨0,m,Nat.zero_le _,rfl,rfl,λ_=>rfl,by simpa using h8.selR [_,_,_,_,_] [_,_,_,_,_] [3,0,1,2,4] (by decide) rfl⟩ ?_
  rintro q t13' _ w g2 ⟨n,m',hn,rfl,rfl,hmm,h9⟩ hg2
  refine Za7 (λc1=>Zi ?_) (λc1=>Zf ?_)
  ·obtain ⟨to,hto⟩:=Zk (l:=rt) (j:=n) (by omega)
   refine Zw h9 1 rfl (λ_=>Zp) (λ_=>rfl) hto λa ha=>?_
   refine Yt h9 1 rfl ha (v:=.int .i64 to) rfl ?_
   refine Za (Zq h9 2 rfl (vs:=Yi [to]) rfl rfl (Nat.le_of_ble_eq_true rfl) (Zg _) (cs':=({ m' with To:=to }:Msg).cs) (by rfl) λw10 h10=>?_)
   refine Zo h10 2 (vs:=({ m' with To:=to }:Msg).cs) rfl (by rfl) rfl ?_
   refine Zj7 ZPm (f:=Msg.cs) (λ_=>rfl) (λ_=>Zg _) h10 (x:={ m' with To:=to }) rfl (by rw[List.length_append,List.length_map,List.length_take];omega) λv' w11 h11=>?_
   refine Yr (by omega) ?_
   refine hg2 _ _ _ _ (by omega) ⟨n+1,{ m' with To:=to },by omega,rfl,rfl,λto'=>hmm to',?_⟩
   rw[Zx hto,List.map_append,←List.append_assoc,List.map_singleton,←hmm to]
   exact h11
  ·have en:n=rt.length:=by omega
   rw[en,List.take_length,←hsn] at h9
   refine Yr (by omega) ?_
   exact hg _ _ _ _ (by omega) ⟨j+1,by omega,rfl,rfl,h9.selR [_,_,_,_,_] [_,_] [0,4] (by decide) rfl⟩
 ·have ej:j=outs.length:=by omega
  rw[ej,List.take_length] at h2
  exact hk _ _ (h2.selR [_,_] [_] [0] (by decide) rfl)
end Go.Proofs.YtkpdpddmaoablaaGreat
namespace Go.Proofs.YtkpdpddmaoablaaGreat
open Go Go.E
set_option maxRecDepth 100000
variable {e w:World} {L R:List HP} {K:KV} {S S2:HP}
structure Zak where
 m:Msg
 st:Int
 deriving DecidableEq
def Zak.ns (d:Zak):List Int:=[d.m.key.T,d.m.key.From,d.m.key.Seq,d.m.To,d.m.Class,d.m.Body,d.st]
abbrev Zak.cs (d:Zak):List Value:=Yi d.ns
def Zak.zero:Zak:=⟨Msg.zero,0⟩
theorem Zak.eq_ns (a b:Zak):(a.ns==b.ns)=decide (a=b):=by
 rw[Bool.eq_iff_iff]
 obtain ⟨⟨⟨a1,a2,a3⟩,a4,a5,a6⟩,a7⟩:=a
 obtain ⟨⟨⟨b1,b2,b3⟩,b4,b5,b6⟩,b7⟩:=b
 simp[Zak.ns,and_assoc]
theorem ZlK {α:Type} {size:Nat} {f:α→List Value} {n c:Nat} {l:List α} (hS:Sat e w (S::R)) (hr:∀g,S g→rdS size f (.slice none n c) l g):l=[]:=by
 obtain ⟨g,hg,_⟩:=hS.get 0 rfl
 obtain ⟨A',c',h1,h2,h3⟩:=hr g hg
 injection h1 with e1 e2 e3
 by_cases h0:0<l.length
 ·obtain ⟨a,ha,_⟩:=h3 h0
  rw[←e1] at ha
  cases ha
 ·exact List.length_eq_zero_iff.1 (by omega)
theorem Zqf {v:Value} {l:List Int} (hl:l.length≤1000000) (hff:∀x∈l,∀v∈(Ye .i64) x,flat v=true) (hS:Sat e w (S::R)) (hr:∀g,S g→rdS 1 (Ye .i64) v l g)
  (hk:∀v' w',Sat e w' (Zz 3 1 (Ye .i64) v' l::S::R)→K v' w'):Cl prog 59 #[v] w K:=by
 refine Zdc ?_
 unfold ZcL
 obtain ⟨A,c,rfl,_⟩:=hS.shape 0 rfl hr
 cases A with
 | none=>
  refine Yn (w':=w) (v:=.bool true) (by kernel_rfl) ?_
  obtain rfl:=ZlK hS hr
  exact Zi (hk _ _ (hS.own_nil 3 1 (Ye .i64)))
 | some a=>
  refine Yn (w':=w) (v:=.bool false) (by kernel_rfl) ?_
  refine Zf ?_
  refine Zw3 hS (Ye .i64) λv1 w2 h2=>?_
  refine Zcs ZOX ZQN (f:=(Ye .i64)) (λ_=>rfl) hff h2 hr (by simp;omega) λv2 w3 h3=>?_
  rw[List.nil_append] at h3
  exact hk _ _ h3
theorem ZkK {v:Value} {l:List Out} (hl:l.length≤1000000) (hff:∀x∈l,∀v∈Out.cs x,flat v=true) (hS:Sat e w (S::R)) (hr:∀g,S g→rdS 3 Out.cs v l g)
  (hk:∀v' w',Sat e w' (Zz 55 3 Out.cs v' l::S::R)→K v' w'):Cl prog 61 #[v] w K:=by
 refine ZbZ ?_
 unfold Zbm
 obtain ⟨A,c,rfl,_⟩:=hS.shape 0 rfl hr
 cases A with
 | none=>
  refine Yn (w':=w) (v:=.bool true) (by kernel_rfl) ?_
  obtain rfl:=ZlK hS hr
  exact Zi (hk _ _ (hS.own_nil 55 3 Out.cs))
 | some a=>
  refine Yn (w':=w) (v:=.bool false) (by kernel_rfl) ?_
  refine Zf ?_
  refine Zw3 hS Out.cs λv1 w2 h2=>?_
  refine Zcs ZRC ZQC (f:=Out.cs) (λ_=>rfl) hff h2 hr (by simp;omega) λv2 w3 h3=>?_
  rw[List.nil_append] at h3
  exact hk _ _ h3
theorem Zob {v:Value} {l:List Yg} (hl:l.length≤1000000) (hff:∀x∈l,∀v∈Yg.cs x,flat v=true) (hS:Sat e w (S::R)) (hr:∀g,S g→rdS 4 Yg.cs v l g)
  (hk:∀v' w',Sat e w' (Zz 57 4 Yg.cs v' l::S::R)→K v' w'):Cl prog 62 #[v] w K:=by
 refine ZbH ?_
 unfold Za3
 obtain ⟨A,c,rfl,_⟩:=hS.shape 0 rfl hr
 cases A with
 | none=>
  refine Yn (w':=w) (v:=.bool true) (by kernel_rfl) ?_
  obtain rfl:=ZlK hS hr
  exact Zi (hk _ _ (hS.own_nil 57 4 Yg.cs))
 | some a=>
  refine Yn (w':=w) (v:=.bool false) (by kernel_rfl) ?_
  refine Zf ?_
  refine Zw3 hS Yg.cs λv1 w2 h2=>?_
  refine Zcs ZRB ZQM (f:=Yg.cs) (λ_=>rfl) hff h2 hr (by simp;omega) λv2 w3 h3=>?_
  rw[List.nil_append] at h3
  exact hk _ _ h3
theorem ZoY {v:Value} {l:List Zao} (hl:l.length≤1000000) (hff:∀x∈l,∀v∈Zao.cs x,flat v=true) (hS:Sat e w (S::R)) (hr:∀g,S g→rdS 7 Zao.cs v l g)
  (hk:∀v' w',Sat e w' (Zz 53 7 Zao.cs v' l::S::R)→K v' w'):Cl prog 60 #[v] w K:=by
 refine Zb1 ?_
 unfold Zbk
 obtain ⟨A,c,rfl,_⟩:=hS.shape 0 rfl hr
 cases A with
 | none=>
  refine Yn (w':=w) (v:=.bool true) (by kernel_rfl) ?_
  obtain rfl:=ZlK hS hr
  exact Zi (hk _ _ (hS.own_nil 53 7 Zao.cs))
 | some a=>
  refine Yn (w':=w) (v:=.bool false) (by kernel_rfl) ?_
  refine Zf ?_
  refine Zw3 hS Zao.cs λv1 w2 h2=>?_
  refine Zcs ZQZ ZQO (f:=Zao.cs) (λ_=>rfl) hff h2 hr (by simp;omega) λv2 w3 h3=>?_
  rw[List.nil_append] at h3
  exact hk _ _ h3
theorem ZiJ {v:Value} {l:List Zak} (hl:l.length≤1000000) (hff:∀x∈l,∀v∈Zak.cs x,flat v=true) (hS:Sat e w (S::R)) (hr:∀g,S g→rdS 7 Zak.cs v l g)
  (hk:∀v' w',Sat e w' (Zz 42 7 Zak.cs v' l::S::R)→K v' w'):Cl prog 35 #[v] w K:=by
 refine ZbG ?_
 unfold Za1
 obtain ⟨A,c,rfl,_⟩:=hS.shape 0 rfl hr
 cases A with
 | none=>
  refine Yn (w':=w) (v:=.bool true) (by kernel_rfl) ?_
  obtain rfl:=ZlK hS hr
  exact Zi (hk _ _ (hS.own_nil 42 7 Zak.cs))
 | some a=>
  refine Yn (w':=w) (v:=.bool false) (by kernel_rfl) ?_
  refine Zf ?_
  refine Zw3 hS Zak.cs λv1 w2 h2=>?_
  refine Zcs ZPl ZQG (f:=Zak.cs) (λ_=>rfl) hff h2 hr (by simp;omega) λv2 w3 h3=>?_
  rw[List.nil_append] at h3
  exact hk _ _ h3
def Zaz (ps:List Int) (feds:List Fed) (l:List Fed):List Msg:=l.zipIdx.flatMap λp=>Zau ps feds (p.2:Int) 0 0 0 p.1.Init
theorem Zkw (ps:List Int) (feds:List Fed) (l:List Fed) (x:Fed):Zaz ps feds (l++[x])=Zaz ps feds l++Zau ps feds (l.length:Int) 0 0 0 x.Init:=by
 unfold Zaz
 rw[List.zipIdx_append,List.flatMap_append]
 simp
theorem ZwB {x:WdX} (i:Nat) (hi:L[i]?=some S) (hS:Sat e w L) (hr:∀g,S g→ZtG x g) (hs:x.short) (ht:ZkT x.Parents) (hf8:x.Feds.length≤8)
  (ho:∀f∈x.Feds,f.Init.length≤4∧∀o∈f.Init,Zpq x.Parents.length o)
  (hk:∀v w',Sat e w' (Zz 40 6 Msg.cs v (Zaz x.w.Parents x.w.Feds x.w.Feds)::L)→(Zaz x.w.Parents x.w.Feds x.w.Feds).length≤1000→K v w'):Cl prog 22 #[.agg x.cs.toArray] w K:=by
 refine ZhE ?_
 unfold Ziq
 refine Yp (cs:=x.cs) hS rfl λb w1 h1=>?_
 have hi1:(blk b 27 x.cs::L)[i+1]?=some S:=by simpa using hi
 refine Za (Zb h1 0 rfl (v:=x.fv) rfl ?_)
 refine Zt h1 (i+1) hi1 (λg hg=>(hr g hg).feds) ?_
 rw[ZOh]
 have hflen:x.w.Feds.length=x.Feds.length:=by simp[WdX.w]
 refine ZjF (λq t3 t9 w=>∃j:Nat,j≤x.Feds.length∧t9=.int .i64 j∧q=x.Feds.length - j∧(Zaz x.w.Parents x.w.Feds ((x.Feds.take j).map Zao.f)).length≤j*32∧
   Sat e w (Zz 40 6 Msg.cs t3 (Zaz x.w.Parents x.w.Feds ((x.Feds.take j).map Zao.f))::blk b 27 x.cs::L)) x.Feds.length
  ⟨0,Nat.zero_le _,rfl,rfl,by simp[Zaz],h1.own_nil 40 6 Msg.cs⟩ ?_
 rintro q t3 _ w g ⟨j,hj,rfl,rfl,hb,h2⟩ hg
 have hi2:(Zz 40 6 Msg.cs t3 (Zaz x.w.Parents x.w.Feds ((x.Feds.take j).map Zao.f))::blk b 27 x.cs::L)[i+2]?=some S:=by simpa using hi
 refine Za7 (λc0=>Zi ?_) (λc0=>Zf ?_)
 ·obtain ⟨fd,hf⟩:=Zk (l:=x.Feds) (j:=j) (by omega)
  have hfm:=List.mem_of_getElem? hf
  obtain ⟨ho1,ho2⟩:=ho fd hfm
  have hlen:((x.Feds.take j).map Zao.f).length=j:=by rw[List.length_map,List.length_take];omega
  have hsn:Zaz x.w.Parents x.w.Feds ((x.Feds.take (j+1)).map Zao.f)=Zaz x.w.Parents x.w.Feds ((x.Feds.take j).map Zao.f)++Zau x.w.Parents x.w.Feds (j:Int) 0 0 0 fd.Init:=by
   rw[Zx hf,List.map_append,List.map_singleton,Zkw,hlen]
   rfl
  have hsl:=ZcU x.w.Parents x.w.Feds (j:Int) 0 0 0 fd.Init
  have hsl2:fd.Init.length*x.w.Feds.length≤4*8:=Nat.mul_le_mul ho1 (by rw[hflen];exact hf8)
  refine Zw h2 (i+2) hi2 (λg hg=>(hr g hg).feds) (λ_=>rfl) hf λa ha=>?_
  refine Ym h2 (i+2) hi2 ha rfl ?_
  refine Yp (cs:=[.int .i64 0,.int .i64 0,.int .i64 0,.slice none 0 0,.slice none 0 0,.slice none 0 0,.slice none 0 0]) h2 rfl λt w5 h5=>?_
  refine Zq h5 0 rfl (vs:=fd.cs) rfl rfl (by simp) (Zc1 i hi hS λg hg=>(hr g hg).fed fd hfm) (cs':=fd.cs) (by rfl) λw6 h6=>?_
  refine Zo h6 2 (vs:=x.cs) rfl (by rfl) rfl ?_
  refine Za (Zb h6 0 rfl (v:=fd.iv) rfl ?_)
  refine Zog (x:=x) (outs:=fd.Init) (i+3) (i+3) (by simpa using hi) (by simpa using hi) h6 hr (λg hg=>((hr g hg).fed fd hfm).init) hs ht ho2 (by omega) (by decide) λmv w7 h7=>?_
  have h8:=h7.selR [_,_,_,_] [_,_,_,_] [2,0,1,3] (by decide) rfl
  refine Zeo ZPm ZOF (f:=Msg.cs) (λ_=>rfl) (λ_=>Zg _) h8 (λ_=>Zp) (by omega) λv2 w9 h9=>?_
  refine Yr (by omega) ?_
  refine hg _ _ _ _ (by omega) ⟨j+1,by omega,rfl,rfl,?_,?_⟩
  ·rw[hsn,List.length_append];omega
  ·rw[hsn]
   exact h9.selR [_,_,_,_] [_,_] [0,3] (by decide) rfl
 ·have ej:j=x.Feds.length:=by omega
  rw[ej,List.take_length] at h2 hb
  exact hk _ _ (h2.selR [_,_] [_] [0] (by decide) rfl) (Nat.le_trans hb (by omega))
def ZbY (l:List Zsp) (s c:Int):Int × List Out:=match l.find? λr=>decide (r.State=s)&&decide (r.Class=c) with
 | some r=>(r.Next,r.Sends)
 | none=>(s,[])
theorem Ztc {l:List Yg} {s c:Int} (h:∀r∈l,¬ZxS s c r):ZbY (l.map Yg.r) s c=(s,[]):=by
 unfold ZbY
 rw[List.find?_eq_none.2]
 intro r hr
 obtain ⟨x,hx,rfl⟩:=List.mem_map.1 hr
 have:=h x hx
 unfold ZxS at this
 intro hd
 rw[Bool.and_eq_true] at hd
 exact this ⟨of_decide_eq_true hd.1,of_decide_eq_true hd.2⟩
theorem Ztq {l:List Yg} {s c:Int} {j:Nat} {r:Yg} (hj:l[j]?=some r) (hon:ZxS s c r) (hlo:∀y∈l.take j,¬ZxS s c y):ZbY (l.map Yg.r) s c=(r.Next,r.Sends):=by
 unfold ZbY
 have hsp:l.map Yg.r=(l.take j).map Yg.r++r.r::(l.drop (j+1)).map Yg.r:=by
  conv=>lhs;rw[Zgn hj]
  simp
 rw[hsp,List.find?_append]
 have h1:((l.take j).map Yg.r).find? (λr=>decide (r.State=s)&&decide (r.Class=c))=none:=by
  rw[List.find?_eq_none]
  intro r hr
  obtain ⟨x,hx,rfl⟩:=List.mem_map.1 hr
  have:=hlo x hx
  unfold ZxS at this
  intro hd
  rw[Bool.and_eq_true] at hd
  exact this ⟨of_decide_eq_true hd.1,of_decide_eq_true hd.2⟩
 unfold ZxS at hon
 rw[h1,Option.none_or,List.find?_cons_of_pos (by simp[Yg.r,hon])]
 rfl
theorem Zkr {v:Value} {l:List Yg} {s c:Int} (hS:Sat e w (S::R)) (hr:∀g,S g→Zew v l g) (hl:l.length≤1000) (hl2:∀r∈l,r.Sends.length≤1000)
  (hk:∀v' w',Sat e w' (Zz 55 3 Out.cs v' (ZbY (l.map Yg.r) s c).2::S::R)→K (.tuple #[.int .i64 (ZbY (l.map Yg.r) s c).1,v']) w'):Cl prog 65 #[v,.int .i64 s,.int .i64 c] w K:=by
 refine Zk2 ?_
 unfold Znm
 refine Zk3 ?_
 unfold Znc
 refine Yp (cs:=[.int .i64 s]) hS rfl λbs w1 h1=>?_
 refine Yp (cs:=[.int .i64 c]) h1 rfl λbc w2 h2=>?_
 refine Zbp ?_
 unfold ZaG
 refine Zt h2 2 rfl (λg hg=>(hr g hg).s) ?_
 refine Zdk (λq t8 w=>∃j:Nat,j≤l.length∧t8=.int .i64 j∧q=l.length - j∧(∀y∈l.take j,¬ZxS s c y)∧Sat e w (blk bc 3 [.int .i64 c]::blk bs 3 [.int .i64 s]::S::R)) l.length ⟨0,Nat.zero_le _,rfl,rfl,by simp,h2⟩ ?_
 rintro q _ w g ⟨j,hj,rfl,rfl,hlo,h3⟩ hg
 refine Za7 (λc0=>Zi ?_) (λc0=>Zf ?_)
 ·obtain ⟨r,hrj⟩:=Zk (l:=l) (j:=j) (by omega)
  have hrm:=List.mem_of_getElem? hrj
  refine Zw h3 2 rfl (λg hg=>(hr g hg).s) (λ_=>rfl) hrj λa ha=>?_
  refine Ym h3 2 rfl ha rfl ?_
  refine ⟨_,_,_,rfl,?_⟩
  refine Zie (t0:=.agg r.cs.toArray) (t1:=.pointer (some ⟨bs,0,none⟩)) (t2:=.pointer (some ⟨bc,0,none⟩)) ?_
  unfold ZkP
  refine Yp (cs:=r.cs) h3 rfl λt w4 h4=>?_
  refine Za (Zb h4 0 rfl (v:=.int .i64 r.State) rfl ?_)
  refine Zb h4 2 rfl rfl ?_
  have hnext:¬ZxS s c r→bi .add .i64 (.int .i64 j) (.int .i64 1) w4 λt18 w=>g [t18] w:=by
   intro h
   refine Yr (by omega) ?_
   refine hg _ _ _ (by omega) ⟨j+1,by omega,rfl,rfl,λy hy=>?_,h4.drop⟩
   rw[Zx hrj] at hy
   rcases List.mem_append.1 hy with h' | h'
   ·exact hlo y h'
   ·rw[List.mem_singleton.1 h'];exact h
  refine ZoR (λc1=>?_) (λc1=>?_)
  ·refine Ze (Za (Ze (Zb h4 0 rfl (v:=.int .i64 r.Class) rfl (Ze (Zb h4 1 rfl rfl ?_)))))
   refine Ze (ZoR (λc2=>?_) (λc2=>?_))
   ·refine Yv (Zi (Ze7 (by omega) (Zf ?_)))
    rw[Ztq hrj ⟨c1,c2⟩ hlo] at hk
    refine ZaY h4.drop.drop.drop λw5 h5=>?_
    refine Zw h5 0 rfl (λg hg=>(hr g hg).s) (λ_=>rfl) hrj λa ha=>?_
    refine Zbd ha λa1 ha1=>?_
    refine Yt h5 0 rfl ha1 (v:=.int .i64 r.Next) rfl ?_
    refine Zw h5 0 rfl (λg hg=>(hr g hg).s) (λ_=>rfl) hrj λa2 ha2=>?_
    refine Zbd ha2 λa3 ha3=>?_
    refine Yt h5 0 rfl ha3 (v:=r.sv) rfl ?_
    refine ZkK (by have:=hl2 r hrm;omega) (λ_ _=>Zg _) h5 (λg hg=>(hr g hg).e r hrm) λv' w6 h6=>?_
    exact ⟨Yt h6 1 rfl ha1 (v:=.int .i64 r.Next) rfl ⟨rfl,rfl⟩,hk _ _ h6⟩
   ·exact Yv (Zf (hnext λh=>c2 h.2))
  ·refine Zd (Zd (Zd (Zd (Yd (Zf ?_)))))
   exact hnext λh=>c1 h.1
 ·have ej:j=l.length:=by omega
  rw[ej,List.take_length] at hlo
  rw[Ztc hlo] at hk
  refine Ztt (by omega) (Zi ?_)
  exact hk _ _ (h3.drop.drop.own_nil 55 3 Out.cs)
end Go.Proofs.YtkpdpddmaoablaaGreat
end
section
namespace Go.Proofs.YtkpdpddmaoablaaGreat
open Go Go.E
set_option maxRecDepth 100000
variable {e w:World} {R:List HP} {K:KV}
def Zv (a b:Key):Prop:=a.T<b.T∨(a.T=b.T∧(a.From<b.From∨(a.From=b.From∧a.Seq<b.Seq)))
theorem Zke (a b:Key):(Zv a b∧ZeU a b=-1)∨(a=b∧ZeU a b=0)∨(Zv b a∧ZeU a b=1):=by
 obtain ⟨a1,a2,a3⟩:=a
 obtain ⟨b1,b2,b3⟩:=b
 unfold Zv ZeU Zlb
 simp only[Key.mk.injEq]
 rcases Int.lt_trichotomy a1 b1 with h | h | h
 ·left
  rw[if_pos h]
  simp[h]
 ·subst h
  rcases Int.lt_trichotomy a2 b2 with h | h | h
  ·left;simp[h]
  ·subst h
   rcases Int.lt_trichotomy a3 b3 with h | h | h
   ·left;simp[h]
   ·subst h;right;left;simp
   ·right;right
    have:¬a3<b3:=by omega
    simp[h,this]
  ·right;right
   have:¬a2<b2:=by omega
   simp[h,this]
 ·right;right
  have:¬a1<b1:=by omega
  simp[h,this]
theorem Zv.asymm {a b:Key} (h:Zv a b):¬Zv b a:=by unfold Zv at *;omega
theorem Zv.trans {a b c:Key} (h:Zv a b) (k:Zv b c):Zv a c:=by unfold Zv at *;omega
theorem Zv.irrefl (a:Key):¬Zv a a:=by unfold Zv;omega
theorem Zav {a b:Key}:ZeU a b<0↔Zv a b:=by
 rcases Zke a b with ⟨h,e⟩ | ⟨h,e⟩ | ⟨h,e⟩ <;> rw[e]
 ·exact ⟨λ_=>h,λ_=>by decide⟩
 ·subst h;exact ⟨λh=>by omega,λh=>absurd h (Zv.irrefl a)⟩
 ·exact ⟨λh=>by omega,λk=>absurd k h.asymm⟩
theorem Zyv {a b:Key}:ZeU a b=0↔a=b:=by
 rcases Zke a b with ⟨h,e⟩ | ⟨h,e⟩ | ⟨h,e⟩ <;> rw[e]
 ·exact ⟨λh=>by omega,λk=>by subst k;exact absurd h (Zv.irrefl a)⟩
 ·exact ⟨λ_=>h,λ_=>rfl⟩
 ·exact ⟨λh=>by omega,λk=>by subst k;exact absurd h (Zv.irrefl a)⟩
theorem Zv.tri (a b:Key):Zv a b∨a=b∨Zv b a:=by
 rcases Zke a b with ⟨h,_⟩ | ⟨h,_⟩ | ⟨h,_⟩
 ·exact .inl h
 ·exact .inr (.inl h)
 ·exact .inr (.inr h)
end Go.Proofs.YtkpdpddmaoablaaGreat
end
section
namespace Go.E
open Go.RowKit
section
variable {κ ν:Type} [DecidableEq κ] {P:Program} {kt vt t:TypeId} {kf:κ→Value} {vf:ν→Value} {zv:Value} {e w:World} {L:List HP} {K:KV} {b:Nat} {m:List (κ × ν)}
theorem ZqR (es:Array MapEntry) (j:Nat) (e':MapEntry) (kv:Value) (he:es[j]?=some e') (hk:e'.key=kv):es.modify j (λe=>{ e with key:=kv })=es:=by
 apply Array.ext'
 rw[Array.toList_modify]
 apply List.ext_getElem?
 intro n
 rw[List.getElem?_modify]
 by_cases h:j=n
 ·subst h
  rw[←Array.getElem?_toList] at he
  rw[he]
  cases e'
  simp only[if_true] at hk ⊢
  subst hk
  rfl
 ·simp[h]
theorem ZwP {es:Array MapEntry} {clock j:Nat} {e':MapEntry} (hb:ZBE es.toList clock) (he:es[j]?=some e'):es.findIdx? (λe=>(e.born:Int)==(e'.born:Int))=some j:=by
 obtain ⟨hj,hje⟩:=Array.getElem?_eq_some_iff.1 he
 rw[Array.findIdx?_eq_some_iff_getElem]
 refine ⟨hj,by rw[hje];simp,λi hi=>?_⟩
 have h1:=List.pairwise_iff_getElem.1 hb.1 i j (by simp;omega) (by simpa using hj) hi
 simp only[Array.getElem_toList] at h1
 rw[hje] at h1
 simp
 omega
theorem ZE9 (KT:ZvT P kt kf) (MT:Zx6 P t kt vt zv) (hu:Znz m) (hS:Sat e w (Zaj kf vf b m::L)) (k:κ) (x:ν) {xv:Value} (hx:xv=vf x) (hin:(lkA m k).isSome=true)
  (hk:∀w',Sat e w' (Zaj kf vf b (upA m k x)::L)→K undef w'):meM P t (.map (some b)) (kf k) w λa w=>xt 1 a w λs _=>esM P t (.map (some b)) s xv w K:=by
 subst hx
 obtain ⟨h1,h2,d,s1,s2,⟨es,clock,hb,hm,hbo⟩,r⟩:=hS.mem
 have hh:w.heap[b]?=some (.map es clock):=s1 _ _ hb
 have hS0:Sat e w ((λg=>g b=some (.map es clock))::L):=⟨hS.os,hS.tape,hS.output,hS.drawn,hS.size,h1,h2,d,s1,s2,hb,r⟩
 have hf:=KT.fnd k es.toList (m.map (·.1)) (ZlZ hm) w
 have hl:=ZlY m k
 cases hx:(m.map (·.1)).findIdx? (λx=>decide (x=k)) with
 | none=>
  rw[hx] at hl
  simp only[Option.bind_none] at hl
  rw[←hl] at hin
  cases hin
 | some j=>
  rw[hx] at hl hf
  simp only[Option.bind_some] at hl hf
  obtain ⟨hj,hjk,hjn⟩:=List.findIdx?_eq_some_iff_getElem.1 hx
  simp only[List.length_map] at hj
  simp only[List.getElem_map,decide_eq_true_eq] at hjk
  have hkey:=ZxT hm j
  rw[List.getElem?_eq_getElem hj] at hkey hl
  simp only[Option.map_some] at hkey hl
  obtain ⟨e',he,hek⟩:=Option.map_eq_some_iff.1 hkey
  rw[he] at hf
  simp only[Option.map_some] at hf
  have he2:es[j]?=some e':=by rw[←Array.getElem?_toList];exact he
  have hks:e'.key=kf k:=by rw[hek,hjk]
  refine Yn (w':=World.setB w b (.map es clock)) (v:=.tuple #[e'.val,goInt e'.born]) ?_ (Zal ?_)
  ·unfold Instr.mapEntry
   have hst:(Instr.keyThatStays (((es[j]?).map (·.key)).getD (kf k)) (kf k)).run P w=.ok (kf k) w:=by
    rw[he2]
    simp only[Option.map_some,Option.getD_some,hks,Instr.keyThatStays,KT.sam,if_true,Sem.run_pure]
   have hmd:=ZqR es j e' (kf k) he2 hks
   simp only[Sem.run_bind,Yb MT.und,Result.andThen_ok,Zbf hh,KT.chk,hf,hst,setObj,Sem.run,hh,World.setB]
   rw[he2]
   simp only[Option.map_some,Option.getD_some]
   rw[hmd]
   rfl
  ·have hS1:=hS0.setB (o':=.map es clock)
   have hlt:b<w.heap.size:=(Array.getElem?_eq_some_iff.1 hh).1
   have hh1:(World.setB w b (.map es clock)).heap[b]?=some (.map es clock):=by simp[World.setB,hlt]
   refine Zwl (w':=World.setB (World.setB w b (.map es clock)) b (.map (es.modify j λe=>{ e with val:=vf x }) clock)) ?_ (hk _ ?_)
   ·unfold Instr.entryStore
    have hai:(asInt (goInt e'.born)).run P (World.setB w b (.map es clock))=.ok (e'.born:Int) (World.setB w b (.map es clock)):=rfl
    simp only[Sem.run_bind,Result.andThen_ok,Zbf hh1,hai,ZwP hbo he2,setObj,Sem.run,hh1]
    rfl
   ·refine hS1.setB.imp λg hg=>⟨_,_,hg,?_,?_⟩
    ·unfold upA
     rw[←hl]
     simp only[Option.isSome_some,if_true]
     apply List.ext_getElem?
     intro n
     have hn:=congrArg (λl=>l[n]?) hm
     simp only[List.getElem?_map] at hn ⊢
     rw[Array.toList_modify,List.getElem?_modify]
     cases hen:es.toList[n]? with
     | none=>
      rw[hen] at hn
      cases hmn:m[n]? with
      | none=>rfl
      | some p=>rw[hmn] at hn;cases hn
     | some en=>
      rw[hen] at hn
      cases hmn:m[n]? with
      | none=>rw[hmn] at hn;cases hn
      | some p=>
       rw[hmn] at hn
       simp only[Option.map_some,Option.some.injEq] at hn ⊢
       by_cases hjn':j=n
       ·subst hjn'
        have hp:p.1=k:=by
         rw[List.getElem?_eq_getElem hj] at hmn
         cases hmn
         exact hjk
        have hek2:en.key=kf p.1:=by
         have:=congrArg Prod.fst hn
         exact this
        simp[hp,Zcn,hek2]
       ·have hp:p.1≠k:=by
         intro hpk
         have hnl:=(List.getElem?_eq_some_iff.1 hmn).1
         have e1:(m.map (·.1))[j]?=some k:=by simp[List.getElem?_eq_getElem hj,hjk]
         have e2:(m.map (·.1))[n]?=some k:=by simp[hmn,hpk]
         have:=(List.getElem?_inj (by simpa using hj) hu).1 (e1.trans e2.symm)
         exact hjn' this
        simp only[hjn',if_false,hp]
        exact congrArg some hn
    ·rw[Array.toList_modify]
     exact ZlP hbo j _ (λ_=>rfl)
end
section
variable {P:Program} {w:World} {K:KV}
theorem ZvQ {x:Value} {s t:TypeId} (h:(Instr.typeAssert (.iface t x) s t false).run P w=.ok x w) (hk:K x w):tyA P (.iface t x) s t false w K:=Yn h hk
end
end Go.E
end
section
namespace Go.Proofs.YtkpdpddmaoablaaGreat
open Go Go.E
set_option maxRecDepth 100000
variable {e w:World} {L R:List HP} {K:KV} {S S2:HP}
abbrev rW (r:Nat):Value:=.pointer (some ⟨r,4,none⟩)
theorem ZTi {xt:TypeId} {a:Addr} {x y:String}:(Builtin.ssaWrapNilChk_ #[xt] xt #[.pointer (some a),strVal x,strVal y]).run prog w=.ok (.pointer (some a)) w:=by rfl
theorem ZSq {t elem:TypeId} {a:Addr} {name:String} {f:FuncId} {n:Nat} {inf:TypeInfo} {v:Value} (hi:prog.info? t=some inf) (hmm:(inf.methods.find? (·.name==name)).map (λm=>(m.path,m.func))=some (#[],some (f,false))) (hu:prog.underlying t=some (.pointer elem))
  (hl:(loadVar elem a).run prog w=.ok v w):(Go.method (n+1) t (.pointer (some a)) name).run prog w=.ok (f,v) w:=by
 obtain ⟨m,hm,hpf⟩:=Option.map_eq_some_iff.1 hmm
 have hp:m.path=#[]:=congrArg Prod.fst hpf
 have hf:m.func=some (f,false):=congrArg Prod.snd hpf
 unfold Go.method
 simp only[Sem.run_bind,ZnL hi,Result.andThen_ok,hm,hp,hf,follow,Sem.run_pure,receiverAt,Yb hu,Place.get,asAddr]
 rw[if_pos (by rfl)]
 simp only[Sem.run_bind,ZTi,Result.andThen_ok,Sem.run_pure,hl]
def MLt (a b:Msg):Prop:=Zv a.key b.key∨(a.key=b.key∧a.To<b.To)
def ZHW (a b:Msg):Int:=if ZeU a.key b.key≠0 then ZeU a.key b.key else Zlb a.To b.To
theorem ZL0 {a b:Int}:Zlb a b<0↔a<b:=by unfold Zlb;split <;> (try split) <;> omega
theorem ZLa {a b:Key}:ZeU a b=0↔a=b:=by
 rcases Zke a b with ⟨h1,h2⟩ | ⟨h1,h2⟩ | ⟨h1,h2⟩
 ·exact ⟨λh=>by omega,λh=>absurd h1 (by rw[h];exact Zv.irrefl _)⟩
 ·exact ⟨λ_=>h1,λ_=>h2⟩
 ·exact ⟨λh=>by omega,λh=>absurd h1 (by rw[h];exact Zv.irrefl _)⟩
theorem ZLH {a b:Msg}:ZHW a b<0↔MLt a b:=by
 unfold ZHW MLt
 by_cases h:ZeU a.key b.key=0
 ·rw[if_neg (λk=>k h),ZL0]
  have hk:=ZLa.1 h
  constructor
  ·exact λh=>.inr ⟨hk,h⟩
  ·rintro (h2 | h2)
   ·rw[hk] at h2;exact absurd h2 (Zv.irrefl _)
   ·exact h2.2
 ·rw[if_pos h,Zav]
  constructor
  ·exact .inl
  ·rintro (h2 | h2)
   ·exact h2
   ·exact absurd (ZLa.2 h2.1) h
theorem MLt.irrefl (a:Msg):¬MLt a a:=by
 rintro (h | h)
 ·exact Zv.irrefl _ h
 ·omega
theorem MLt.trans {a b c:Msg} (h:MLt a b) (k:MLt b c):MLt a c:=by
 rcases h with h | ⟨h1,h2⟩
 ·rcases k with k | ⟨k1,k2⟩
  ·exact .inl (h.trans k)
  ·rw[k1] at h;exact .inl h
 ·rcases k with k | ⟨k1,k2⟩
  ·rw[←h1] at k;exact .inl k
  ·exact .inr ⟨h1.trans k1,by omega⟩
theorem MLt.asymm {a b:Msg} (h:MLt a b):¬MLt b a:=λk=>MLt.irrefl _ (h.trans k)
theorem MLt.tri (a b:Msg):MLt a b∨(a.key=b.key∧a.To=b.To)∨MLt b a:=by
 rcases Zv.tri a.key b.key with h | h | h
 ·exact .inl (.inl h)
 ·rcases Int.lt_trichotomy a.To b.To with k | k | k
  ·exact .inl (.inr ⟨h,k⟩)
  ·exact .inr (.inl ⟨h,k⟩)
  ·exact .inr (.inr (.inr ⟨h.symm,k⟩))
 ·exact .inr (.inr (.inl h))
theorem Zpc {a b c:Msg} (h:¬MLt a b) (k:¬MLt b c):¬MLt a c:=by
 intro hac
 rcases MLt.tri a b with h1 | h1 | h1
 ·exact h h1
 ·apply k
  rcases hac with h2 | h2
  ·left;rw[←h1.1];exact h2
  ·right;rw[←h1.1,←h1.2];exact h2
 ·exact k (h1.trans hac)
theorem ZS7 {a b:Msg} (hS:Sat e w R) (hk:∀w',Sat e w' R→K (.int .i64 (ZHW a b)) w'):Cl prog 161 #[.agg a.cs.toArray,.agg b.cs.toArray] w K:=by
 refine ZSi ?_
 unfold ZSm
 rw[Zr6]
 refine Yp (cs:=a.cs) hS rfl λb2 w1 h1=>?_
 refine Yp (cs:=b.cs) h1 rfl λb3 w2 h2=>?_
 refine ZaY h2 λw3 h3=>?_
 refine Za (Zo h3 1 (vs:=a.key.cs) rfl (by rfl) rfl (Za (Zo h3 0 (vs:=b.key.cs) rfl (by rfl) rfl ?_)))
 refine Za (Zb h3 1 rfl (v:=.int .i64 a.To) rfl (Za (Zb h3 0 rfl (v:=.int .i64 b.To) rfl ?_)))
 refine Zcr h3 λw4 h4=>?_
 refine ⟨Zb h4 0 rfl (v:=.int .i64 b.To) rfl ⟨rfl,rfl⟩,Zb h4 1 rfl (v:=.int .i64 a.To) rfl ⟨rfl,rfl⟩,?_⟩
 refine ZmJ ?_
 refine Zfk (Yi [ZeU a.key b.key,Zlb a.To b.To]) h4 (by kernel_rfl) λb20 w5 h5=>?_
 refine ZIl h5 (l:=[ZeU a.key b.key,Zlb a.To b.To]) (Zbx (f:=Ye .i64) [ZeU a.key b.key,Zlb a.To b.To] rfl (Nat.le_refl _)) (by simp) λw6 h6=>?_
 have h7:=hk _ (h6.drop.drop.drop)
 have e1:([ZeU a.key b.key,Zlb a.To b.To].find? (λn=>decide (n≠0))).getD 0=ZHW a b:=by
  unfold ZHW
  by_cases h1:ZeU a.key b.key=0
  ·by_cases h2:Zlb a.To b.To=0 <;> simp[h1,h2]
  ·simp[h1]
 rw[e1]
 exact h7
def ZwI (l:List Msg) (i k:Nat) (x y:Msg):List Msg:=(l.set i y).set k x
theorem ZSc (l:List Msg) (i k:Nat) (x y:Msg):(ZwI l i k x y).length=l.length:=by simp[ZwI]
theorem Zo2 {l:List Msg} {i k:Nat} {x y:Msg} (hx:l[i]?=some x) (hy:l[k]?=some y) (n:Nat):(ZwI l i k x y)[n]?=if n=k then some x else if n=i then some y else l[n]?:=by
 have hi:=(List.getElem?_eq_some_iff.1 hx).1
 have hk:=(List.getElem?_eq_some_iff.1 hy).1
 unfold ZwI
 rw[List.getElem?_set]
 by_cases h:k=n
 ·subst h;simp[hk]
 ·have h':¬n=k:=λe=>h e.symm
  rw[if_neg h,if_neg h',List.getElem?_set]
  by_cases h2:i=n
  ·subst h2;simp[hi]
  ·have h2':¬n=i:=λe=>h2 e.symm
   rw[if_neg h2,if_neg h2']
theorem ZSf {l:List Msg} {i k:Nat} {x y:Msg} (hx:l[i]?=some x) (hy:l[k]?=some y):(ZwI l i k x y).Perm l:=by
 have hi:=(List.getElem?_eq_some_iff.1 hx)
 have hk:=(List.getElem?_eq_some_iff.1 hy)
 by_cases hik:i=k
 ·subst hik
  rw[hx] at hy
  injection hy with hy
  subst hy
  have:ZwI l i i x x=l:=by
   apply List.ext_getElem?
   intro n
   rw[Zo2 hx hx]
   split
   ·rename_i e;subst e;exact hx.symm
   ·rfl
  rw[this]
 ·unfold ZwI
  have h1:=List.set_set_perm hi.1 hk.1
  rw[hi.2,hk.2] at h1
  exact h1
def IsW (r:Nat) (pre:List Value) (l:List Msg):HP:=hex λv:Value=>Yh [pur (pre.length=4),blk r 103 (pre++[v]),Zz 40 6 Msg.cs v l]
theorem ZSg {r:Nat} {pre:List Value} {l:List Msg} (h:Sat e w (IsW r pre l::R)):∃v,pre.length=4∧Sat e w (blk r 103 (pre++[v])::Zz 40 6 Msg.cs v l::R):=by
 obtain ⟨v,h0⟩:=h.ex
 exact ⟨v,Sat.pure h0.split⟩
theorem ZSy {r:Nat} {pre:List Value} {l:List Msg} {v:Value} (hp:pre.length=4) (h:Sat e w (blk r 103 (pre++[v])::Zz 40 6 Msg.cs v l::R)):Sat e w (IsW r pre l::R):=
 .mk_ex v (.join (l':=[_,_,_]) (.mk_pure hp h))
theorem ZRY {pre:List Value} {v:Value} (hp:pre.length=4):(pre++[v])[4]?=some v:=by
 rw[List.getElem?_append_right (by omega),hp];rfl
theorem ZSK {pre:List Value} {v u:Value} (hp:pre.length=4):wrL (pre++[v]) 4 [u]=pre++[u]:=by
 unfold wrL
 rw[List.take_left' hp,List.drop_of_length_le (by simp[hp]),List.append_nil]
theorem ZS5 {r:Nat} {pre:List Value} {v:Value} {l:List Msg} (hp:pre.length=4) (h:Sat e w (blk r 103 (pre++[v])::Zz 40 6 Msg.cs v l::R)):(loadVar 101 ⟨r,4,none⟩).run prog w=.ok v w:=by
 obtain ⟨a,u,h1,h2,h3⟩:=ZuC (P:=prog) (t:=101) (x:=.pointer (some ⟨r,4,none⟩)) (w:=w) (K:=λv' w'=>v'=v) (by
  show ld1 (.pointer (some ⟨r,4,none⟩)) w λv' w'=>v'=v
  exact Zb h 0 rfl (ZRY hp) rfl)
 injection h1 with h1
 injection h1 with h1
 subst h1 h3
 exact h2
theorem ZSQ {r:Nat} {name:String} {f:FuncId} {args:Array Value} {v:Value} (hm:(Go.method (prog.types.size+Made.depth) 160 (rW r) name).run prog w=.ok (f,v) w) (h:Cl prog f (#[v]++args) w K):clI prog (.iface 160 (rW r)) name args w K:=Zrj hm h
theorem ZSM {r:Nat} {pre:List Value} {l:List Msg} (hS:Sat e w (IsW r pre l::R)) (hk:∀w',Sat e w' (IsW r pre l::R)→K (.int .i64 (l.length:Int)) w'):clI prog (.iface 160 (rW r)) "Len" #[] w K:=by
 obtain ⟨v,hp,h1⟩:=ZSg hS
 refine ZSQ (f:=240) (ZSq (inf:=Tryz.t160) (by kernel_rfl) (by kernel_rfl) (by kernel_rfl) (ZS5 hp h1)) ?_
 refine ZR2 (t0:=v) ?_
 unfold ZR1
 exact Zt h1 1 rfl (λ_=>Zp) (hk _ hS)
theorem ZSr {r i k:Nat} {pre:List Value} {l:List Msg} {x y:Msg} (hx:l[i]?=some x) (hy:l[k]?=some y) (hS:Sat e w (IsW r pre l::R)) (hk:∀w',Sat e w' (IsW r pre l::R)→K (.bool (decide (ZHW x y<0))) w') :
  clI prog (.iface 160 (rW r)) "Less" #[.int .i64 (i:Int),.int .i64 (k:Int)] w K:=by
 obtain ⟨v,hp,h1⟩:=ZSg hS
 refine ZSQ (f:=241) (ZSq (inf:=Tryz.t160) (by kernel_rfl) (by kernel_rfl) (by kernel_rfl) (ZS5 hp h1)) ?_
 refine ZRW (t0:=v) (t1:=.int .i64 (i:Int)) (t2:=.int .i64 (k:Int)) ?_
 unfold ZRT
 refine ZaY h1 λw3 h3=>?_
 refine Zw h3 1 rfl (λ_=>Zp) (λ_=>rfl) hx λp hp'=>?_
 refine Ym h3 1 rfl hp' rfl ?_
 refine Zw h3 1 rfl (λ_=>Zp) (λ_=>rfl) hy λq hq=>?_
 refine Ym h3 1 rfl hq rfl ?_
 refine ZS7 h3 λw4 h4=>?_
 exact ZwL (hk _ (ZSy hp h4))
theorem ZSn {r i k:Nat} {pre:List Value} {l:List Msg} {x y:Msg} (hx:l[i]?=some x) (hy:l[k]?=some y) (hS:Sat e w (IsW r pre l::R)) (hk:∀w',Sat e w' (IsW r pre (ZwI l i k x y)::R)→K (.tuple #[]) w') :
  clI prog (.iface 160 (rW r)) "Swap" #[.int .i64 (i:Int),.int .i64 (k:Int)] w K:=by
 obtain ⟨v,hp,h1⟩:=ZSg hS
 refine ZSQ (f:=242) (ZSq (inf:=Tryz.t160) (by kernel_rfl) (by kernel_rfl) (by kernel_rfl) (ZS5 hp h1)) ?_
 refine ZRZ (t0:=v) (t1:=.int .i64 (i:Int)) (t2:=.int .i64 (k:Int)) ?_
 unfold ZRU
 have hil:=(List.getElem?_eq_some_iff.1 hx).1
 have hkl:=(List.getElem?_eq_some_iff.1 hy).1
 refine ZaY h1 λw3 h3=>?_
 refine Zw h3 1 rfl (λ_=>Zp) (λ_=>rfl) hy λq hq=>?_
 refine Ym h3 1 rfl hq rfl ?_
 refine Zw h3 1 rfl (λ_=>Zp) (λ_=>rfl) hx λp hp'=>?_
 refine Ym h3 1 rfl hp' rfl ?_
 refine ZdJ h3 1 rfl (λ_=>rfl) hil (x:=y) rfl (Zg _) λw4 h4=>?_
 refine ZdJ h4 1 rfl (λ_=>rfl) (by rw[List.length_set];exact hkl) (x:=x) rfl (Zg _) λw5 h5=>?_
 exact hk _ (ZSy hp h5)
theorem ZSN {r:Nat}:(Go.method (prog.types.size+Made.depth) 160 (rW r) "Push").run prog w=.ok (245,rW r) w:=by kernel_rfl
theorem ZST {r:Nat} {pre:List Value} {l:List Msg} {x:Msg} (hl:l.length≤1000000) (hS:Sat e w (IsW r pre l::R)) (hk:∀w',Sat e w' (IsW r pre (l++[x])::R)→K (.tuple #[]) w') :
  clI prog (.iface 160 (rW r)) "Push" #[.iface 40 (.agg x.cs.toArray)] w K:=by
 obtain ⟨v,hp,h1⟩:=ZSg hS
 refine ZSQ ZSN ?_
 refine ZRX (t0:=rW r) (t1:=.iface 40 (.agg x.cs.toArray)) ?_
 unfold ZRV
 refine ZaY h1 λw3 h3=>?_
 refine Zh (Zb h3 0 rfl (ZRY hp) ?_)
 refine ZvQ (by kernel_rfl) ?_
 refine ⟨Zb h3 0 rfl (ZRY hp) ⟨rfl,rfl⟩,?_⟩
 refine ZwC (vs:=x.cs) rfl rfl h3 λbb w4 h4=>?_
 refine ⟨Zb h4 1 rfl (ZRY hp) ⟨rfl,rfl⟩,?_⟩
 refine Zeo ZSZ ZSZ.und (f:=Msg.cs) (m:=[x]) (λ_=>rfl) (λ_=>Zg _) (h4.selR [_,_,_] [_,_,_] [2,0,1] (by decide) rfl) (Zfu (Nat.le_refl _)) (by simp;omega) λv' w5 h5=>?_
 have hfl:=h5.own_cells 0 rfl
 refine Zh (Zq h5 2 rfl (vs:=[v']) hfl.1 rfl (by simp[hp]) (λc hc=>by rw[List.mem_singleton.1 hc];exact hfl.2) (ZSK hp) λw6 h6=>?_)
 exact hk _ (ZSy hp (h6.selR [_,_,_] [_,_] [2,0] (by decide) rfl))
theorem ZSV {r:Nat}:(Go.method (prog.types.size+Made.depth) 160 (rW r) "Pop").run prog w=.ok (244,rW r) w:=by kernel_rfl
theorem ZS8 {r:Nat} {pre:List Value} {l:List Msg} {x:Msg} (hl:l.length≤1000000) (hS:Sat e w (IsW r pre (l++[x])::R)) (hk:∀w',Sat e w' (IsW r pre l::R)→K (.iface 40 (.agg x.cs.toArray)) w') :
  clI prog (.iface 160 (rW r)) "Pop" #[] w K:=by
 obtain ⟨v,hp,h1⟩:=ZSg hS
 refine ZSQ ZSV ?_
 refine ZR3 (t0:=rW r) ?_
 unfold ZR0
 have hlen:(l++[x]).length=l.length+1:=by simp
 have hxl:(l++[x])[l.length]?=some x:=by simp
 refine Zh (Zb h1 0 rfl (ZRY hp) ?_)
 refine Zt h1 1 rfl (λ_=>Zp) ?_
 rw[hlen]
 refine ZjR (by omega) (by omega) ?_
 rw[Nat.add_sub_cancel]
 refine Zh (Zb h1 0 rfl (ZRY hp) ?_)
 refine Zw h1 1 rfl (λ_=>Zp) (λ_=>rfl) hxl λp hp'=>?_
 refine Ym h1 1 rfl hp' rfl ?_
 rw[ZNN]
 refine Yp (cs:=Msg.zero.cs) h1 rfl λd w3 h3=>?_
 refine Zq h3 0 rfl (vs:=x.cs) rfl rfl (by decide) (Zg _) (cs':=x.cs) (by rfl) λw4 h4=>?_
 refine Zh (Zb h4 1 rfl (ZRY hp) ?_)
 refine ZuF h4 2 rfl (λ_=>rfl) (hi:=l.length) (by omega) λv' h6=>?_
 rw[List.take_left' rfl] at h6
 have hfl:=h6.own_cells 2 rfl
 refine Zh (Zq h6 1 rfl (vs:=[v']) hfl.1 rfl (by simp[hp]) (λc hc=>by rw[List.mem_singleton.1 hc];exact hfl.2) (ZSK hp) λw7 h7=>?_)
 refine Zo h7 0 (vs:=x.cs) rfl (by rfl) rfl ?_
 exact hk _ (ZSy hp h7.drop)
end Go.Proofs.YtkpdpddmaoablaaGreat
namespace Go.Proofs.YtkpdpddmaoablaaGreat
open Go Go.E
set_option maxRecDepth 100000
variable {e w:World} {R:List HP} {K:KV}
theorem ZTe {k:IntKind} {a b:Int} (hb:b≠0) (h:K (.int k (k.wrap (a.tdiv b))) w):bi .quo k (.int k a) (.int k b) w K:=⟨a,b,rfl,rfl,λ_=>hb,h⟩
def Zr3 (l:List Msg) (n:Nat):Prop:=∀(i:Nat) (x y:Msg),0<i→i<n→l[i]?=some x→l[(i - 1) / 2]?=some y→¬MLt x y
def UpW (l:List Msg) (j:Nat):Prop:=
 (∀(i:Nat) (x y:Msg),0<i→i≠j→l[i]?=some x→l[(i - 1) / 2]?=some y→¬MLt x y)∧
 ∀(i:Nat) (x y:Msg),0<i→0<j→(i - 1) / 2=j→l[i]?=some x→l[(j - 1) / 2]?=some y→¬MLt x y
def Zt4 (l:List Msg) (j n:Nat):Prop:=
 (∀(i:Nat) (x y:Msg),0<i→i<n→(i - 1) / 2≠j→l[i]?=some x→l[(i - 1) / 2]?=some y→¬MLt x y)∧
 ∀(i:Nat) (x y:Msg),0<i→i<n→0<j→(i - 1) / 2=j→l[i]?=some x→l[(j - 1) / 2]?=some y→¬MLt x y
theorem Zr3.min {l:List Msg} {n:Nat} (h:Zr3 l n) (hn:n≤l.length) {z:Msg} (hz:l[0]?=some z):∀(i:Nat) (x:Msg),i<n→l[i]?=some x→¬MLt x z:=by
 intro i
 induction i using Nat.strongRecOn with
 | _ i ih=>
  intro x hi hx
  by_cases h0:i=0
  ·subst h0
   rw[hz] at hx
   injection hx with hx
   subst hx
   exact MLt.irrefl _
  ·obtain ⟨y,hy⟩:=Zk (l:=l) (j:=(i - 1) / 2) (by omega)
   exact Zpc (h i x y (by omega) hi hx hy) (ih _ (by omega) y (by omega) hy)
theorem UpW.done {l:List Msg} {j:Nat} (h:UpW l j) (hj:j=0∨∃x y,l[j]?=some x∧l[(j - 1) / 2]?=some y∧¬MLt x y):Zr3 l l.length:=by
 intro i x y hi _ hx hy
 by_cases hij:i=j
 ·subst hij
  rcases hj with hj | ⟨x',y',hx',hy',hn⟩
  ·omega
  ·rw[hx] at hx'
   rw[hy] at hy'
   injection hx' with hx'
   injection hy' with hy'
   subst hx' hy'
   exact hn
 ·exact h.1 i x y hi hij hx hy
theorem UpW.step {l:List Msg} {j:Nat} {x y:Msg} (h:UpW l j) (hj:0<j) (hx:l[j]?=some x) (hy:l[(j - 1) / 2]?=some y) (hlt:MLt x y):UpW (ZwI l ((j - 1) / 2) j y x) ((j - 1) / 2):=by
 obtain ⟨h1,h2⟩:=h
 have hg:=Zo2 (i:=(j - 1) / 2) (k:=j) hy hx
 constructor
 ·intro i a b hi hij ha hb
  rw[hg] at ha hb
  by_cases e1:i=j
  ·subst e1
   rw[if_pos rfl] at ha
   rw[if_neg (by omega),if_pos rfl] at hb
   injection ha with ha
   injection hb with hb
   subst ha hb
   exact hlt.asymm
  ·rw[if_neg e1,if_neg hij] at ha
   by_cases e2:(i - 1) / 2=j
   ·rw[if_pos e2] at hb
    injection hb with hb
    subst hb
    exact h2 i a y hi hj e2 ha hy
   ·rw[if_neg e2] at hb
    by_cases e3:(i - 1) / 2=(j - 1) / 2
    ·rw[if_pos e3] at hb
     injection hb with hb
     subst hb
     have:=h1 i a y hi e1 ha (by rw[e3];exact hy)
     intro hax
     exact this (hax.trans hlt)
    ·rw[if_neg e3] at hb
     exact h1 i a b hi e1 ha hb
 ·intro i a b hi hp hpar ha hb
  rw[hg] at ha hb
  rw[if_neg (by omega),if_neg (by omega)] at hb
  have hyb:=h1 ((j - 1) / 2) y b hp (by omega) hy hb
  by_cases e1:i=j
  ·rw[if_pos e1] at ha
   injection ha with ha
   subst ha
   exact hyb
  ·rw[if_neg e1,if_neg (by omega)] at ha
   have:=h1 i a y hi e1 ha (by rw[hpar];exact hy)
   exact Zpc this hyb
theorem ZTm {q j0:Nat} {pre:List Value} {l:List Msg} (hj:j0<l.length) (hl:l.length≤1000000) (hS:Sat e w (IsW q pre l::R)) (hk:∀l' w',l'.Perm l→(UpW l j0→Zr3 l' l'.length)→Sat e w' (IsW q pre l'::R)→K (.tuple #[]) w') :
  Cl prog 95 #[.iface 160 (rW q),.int .i64 (j0:Int)] w K:=by
 refine ZiM ?_
 unfold Zrd
 refine Zdk (λz t1 w=>∃(j:Nat) (l':List Msg),t1=.int .i64 (j:Int)∧z=j∧j<l'.length∧l'.Perm l∧(UpW l j0→UpW l' j)∧Sat e w (IsW q pre l'::R)) j0
  ⟨j0,l,rfl,rfl,hj,.refl _,id,hS⟩ ?_
 rintro j _ w g ⟨j',l',rfl,rfl,hjl,hp,hinv,h1⟩ hg
 have hlen:=hp.length_eq
 refine ZoJ (by omega) (by omega) (ZTe (by decide) ?_)
 by_cases h0:j=0
 ·subst h0
  refine Znq rfl (Zd (Zd (Zd (Zd (Zd (Yv (Zi (hk _ _ hp (λhu=>(hinv hu).done (.inl rfl)) h1))))))))
 ·have e1:IntKind.i64.wrap (((j:Int) - 1).tdiv 2)=(((j - 1) / 2:Nat):Int):=by
   rw[Int.tdiv_eq_ediv_of_nonneg (by omega),Zdl (by omega) (by omega)]
   omega
  rw[e1]
  obtain ⟨x,hx⟩:=Zk hjl
  obtain ⟨y,hy⟩:=Zk (l:=l') (j:=(j - 1) / 2) (by omega)
  refine Zd8 (by omega) (Zj (Zj (Zj (Zj ?_))))
  refine ZSr hx hy h1 λw2 h2=>?_
  by_cases hlt:ZHW x y<0
  ·rw[decide_eq_true hlt]
   refine Zj (ZaJ (Yd (Zf ?_)))
   refine ZSn hy hx h2 λw3 h3=>?_
   refine hg _ _ _ (by omega) ⟨(j - 1) / 2,_,rfl,rfl,by rw[ZSc];omega,(ZSf hy hx).trans hp,λhu=>(hinv hu).step (by omega) hx hy (ZLH.1 hlt),h3⟩
  ·rw[decide_eq_false hlt]
   refine Zj (Zch (Yd (Zi (hk _ _ hp (λhu=>(hinv hu).done (.inr ⟨x,y,hx,hy,λh=>hlt (ZLH.2 h)⟩)) h2))))
theorem Zt4.done {l:List Msg} {j n:Nat} (h:Zt4 l j n) (hj:∀(i:Nat) (x y:Msg),0<i→i<n→(i - 1) / 2=j→l[i]?=some x→l[j]?=some y→¬MLt x y):Zr3 l n:=by
 intro i x y hi hn hx hy
 by_cases hij:(i - 1) / 2=j
 ·exact hj i x y hi hn hij hx (by rw[←hij];exact hy)
 ·exact h.1 i x y hi hn hij hx hy
theorem Zt4.step {l:List Msg} {j c n:Nat} {x y:Msg} (h:Zt4 l j n) (hc0:0<c) (hcn:c<n) (hcj:(c - 1) / 2=j) (hx:l[j]?=some x) (hy:l[c]?=some y) (hlt:MLt y x)
  (hmin:∀(i:Nat) (a:Msg),0<i→i<n→(i - 1) / 2=j→l[i]?=some a→¬MLt a y):Zt4 (ZwI l j c x y) c n:=by
 obtain ⟨h1,h2⟩:=h
 have hg:=Zo2 (i:=j) (k:=c) hx hy
 constructor
 ·intro i a b hi hn hij ha hb
  rw[hg] at ha hb
  rw[if_neg hij] at hb
  by_cases e1:i=c
  ·subst e1
   rw[if_pos rfl] at ha
   rw[if_pos hcj] at hb
   injection ha with ha
   injection hb with hb
   subst ha hb
   exact hlt.asymm
  ·rw[if_neg e1] at ha
   by_cases e2:(i - 1) / 2=j
   ·rw[if_pos e2] at hb
    rw[if_neg (by omega)] at ha
    injection hb with hb
    subst hb
    exact hmin i a hi hn e2 ha
   ·rw[if_neg e2] at hb
    by_cases e3:i=j
    ·rw[if_pos e3] at ha
     injection ha with ha
     subst ha
     subst e3
     exact h2 c y b hc0 hcn hi hcj hy hb
    ·rw[if_neg e3] at ha
     exact h1 i a b hi hn e2 ha hb
 ·intro i a b hi hn hc hpar ha hb
  rw[hg] at ha hb
  rw[if_neg (by omega),if_neg (by omega)] at ha
  rw[if_neg (by omega),if_pos hcj] at hb
  injection hb with hb
  subst hb
  exact h1 i a y hi hn (by omega) ha (by rw[hpar];exact hy)
theorem ZS4 {q i0 n:Nat} {pre:List Value} {l:List Msg} (hn:n≤l.length) (hi0:i0≤n) (hl:l.length≤1000000) (hS:Sat e w (IsW q pre l::R))
  (hk:∀l' b w',l'.Perm l→(∀i,n≤i→l'[i]?=l[i]?)→(Zt4 l i0 n→Zr3 l' n)→Sat e w' (IsW q pre l'::R)→K (.bool b) w') :
  Cl prog 96 #[.iface 160 (rW q),.int .i64 (i0:Int),.int .i64 (n:Int)] w K:=by
 refine Zf3 ?_
 unfold Zmo
 refine J1.cut (λt7 w=>∃(i:Nat) (l':List Msg),t7=.int .i64 (i:Int)∧l'.Perm l∧(∀i,n≤i→l'[i]?=l[i]?)∧(Zt4 l i0 n→Zr3 l' n)∧Sat e w (IsW q pre l'::R)) (λk1 hcut=>?_) ?_
 ·refine Zdk (λz t7 w=>∃(j:Nat) (l':List Msg),t7=.int .i64 (j:Int)∧z=n - j∧j≤n∧l'.Perm l∧(∀i,n≤i→l'[i]?=l[i]?)∧(Zt4 l i0 n→Zt4 l' j n)∧Sat e w (IsW q pre l'::R)) (n - i0)
   ⟨i0,l,rfl,rfl,hi0,.refl _,λ_ _=>rfl,id,hS⟩ ?_
  rintro z _ w g ⟨j,l',rfl,rfl,hjn,hp,htail,hinv,h1⟩ hg
  have hlen:=hp.length_eq
  refine Zp5 (a:=2) (by omega) (Zb9 (b:=1) (by omega) ?_)
  refine Zu5 (λc1=>?_) (λc1=>?_)
  ·refine Zd (Zd (Yv (Zi (hcut _ _ ⟨j,l',rfl,hp,htail,λhd=>(hinv hd).done λi x y hi hin hpar _ _=>?_,h1⟩))))
   omega
  ·refine Zj (Zj (Ze7 (by omega) (Yd (Zf ?_))))
   refine Zb9 (b:=1) (by omega) ?_
   obtain ⟨x,hx⟩:=Zk (l:=l') (j:=j) (by omega)
   obtain ⟨y1,hy1⟩:=Zk (l:=l') (j:=2*j+1) (by omega)
   have hrest:∀(c:Nat) (y:Msg) w',(c=2*j+1∨c=2*j+1+1)→c<n→l'[c]?=some y→(∀(i:Nat) (a:Msg),0<i→i<n→(i - 1) / 2=j→l'[i]?=some a→¬MLt a y)→Sat e w' (IsW q pre l'::R)→
     clI prog (.iface 160 (rW q)) "Less" #[.int .i64 (c:Int),.int .i64 (j:Int)] w' λt38 w=>Zb3 t38 w λt39 w=>Zr t39 (k1 (.int .i64 (j:Int)) w)
      (clI prog (.iface 160 (rW q)) "Swap" #[.int .i64 (j:Int),.int .i64 (c:Int)] w λ_ w=>g [.int .i64 (c:Int)] w):=by
    intro c y w' hc hcn hy hmin h2
    refine ZSr hy hx h2 λw3 h3=>?_
    by_cases hlt:ZHW y x<0
    ·rw[decide_eq_true hlt]
     refine ZaJ (Zf ?_)
     refine ZSn hx hy h3 λw4 h4=>?_
     refine hg _ _ _ (by omega) ⟨c,_,rfl,rfl,by omega,(ZSf hx hy).trans hp,λi hi=>?_,λhd=>(hinv hd).step (by omega) hcn (by omega) hx hy (ZLH.1 hlt) hmin,h4⟩
     rw[Zo2 hx hy,if_neg (by omega),if_neg (by omega)]
     exact htail i hi
    ·rw[decide_eq_false hlt]
     refine Zch (Zi (hcut _ _ ⟨j,l',rfl,hp,htail,λhd=>(hinv hd).done λi a b hi hin hpar ha hb=>?_,h3⟩))
     rw[hx] at hb
     injection hb with hb
     subst hb
     exact Zpc (hmin i a hi hin hpar ha) (λh=>hlt (ZLH.2 h))
   refine Za7 (λc2=>?_) (λc2=>?_)
   ·obtain ⟨y2,hy2⟩:=Zk (l:=l') (j:=2*j+1+1) (by omega)
    refine Ze (Ze (Ze (Ze ?_)))
    refine ZSr hy2 hy1 h1 λw2 h2=>?_
    by_cases hlt:ZHW y2 y1<0
    ·rw[decide_eq_true hlt]
     refine Yv (Zi ?_)
     refine hrest (2*j+1+1) y2 _ (.inr rfl) (by omega) hy2 (λi a hi hin hpar ha=>?_) h2
     have:i=2*j+1∨i=2*j+1+1:=by omega
     rcases this with rfl | rfl
     ·rw[hy1] at ha;injection ha with ha;subst ha;exact (ZLH.1 hlt).asymm
     ·rw[hy2] at ha;injection ha with ha;subst ha;exact MLt.irrefl _
    ·rw[decide_eq_false hlt]
     refine Yv (Zf ?_)
     refine hrest (2*j+1) y1 _ (.inl rfl) (by omega) hy1 (λi a hi hin hpar ha=>?_) h2
     have:i=2*j+1∨i=2*j+1+1:=by omega
     rcases this with rfl | rfl
     ·rw[hy1] at ha;injection ha with ha;subst ha;exact MLt.irrefl _
     ·rw[hy2] at ha;injection ha with ha;subst ha;exact λh=>hlt (ZLH.2 h)
   ·refine Zu (Zu (Zu (Zu (Yd (Zf ?_)))))
    refine hrest (2*j+1) y1 _ (.inl rfl) (by omega) hy1 (λi a hi hin hpar ha=>?_) h1
    have:i=2*j+1:=by omega
    subst this
    rw[hy1] at ha;injection ha with ha;subst ha;exact MLt.irrefl _
 ·rintro _ w ⟨i,l',rfl,hp,htail,hd,h2⟩
  exact ZFJ (hk _ _ _ hp htail hd h2)
theorem ZSW {q:Nat} {pre:List Value} {l:List Msg} {x:Msg} (hl:l.length≤999999) (hS:Sat e w (IsW q pre l::R))
  (hk:∀l' w',l'.Perm (l++[x])→(Zr3 l l.length→Zr3 l' l'.length)→Sat e w' (IsW q pre l'::R)→K (.tuple #[]) w') :
  Cl prog 63 #[.iface 160 (rW q),.iface 40 (.agg x.cs.toArray)] w K:=by
 refine Zme ?_
 unfold ZpP
 refine ZST (by omega) hS λw2 h2=>?_
 refine ZSM h2 λw3 h3=>?_
 have hlen:(l++[x]).length=l.length+1:=by simp
 refine ZjR (by omega) (by omega) ?_
 refine ZTm (by omega) (by omega) h3 λl' w4 hp hu h4=>hk _ _ hp (λhh=>hu ⟨λi a b hi hij ha hb=>?_,λi a b hi hj hpar ha hb=>?_⟩) h4
 ·have hil:=(List.getElem?_eq_some_iff.1 ha).1
  rw[List.getElem?_append_left (by omega)] at ha hb
  exact hh i a b hi (by omega) ha hb
 ·have hil:=(List.getElem?_eq_some_iff.1 ha).1
  omega
theorem ZTa {q:Nat} {pre:List Value} {l:List Msg} {x:Msg} (hx:l[0]?=some x) (hl:l.length≤1000000) (hS:Sat e w (IsW q pre l::R))
  (hk:∀l' w',(l'++[x]).Perm l→(Zr3 l l.length→Zr3 l' l'.length)→Sat e w' (IsW q pre l'::R)→K (.iface 40 (.agg x.cs.toArray)) w') :
  Cl prog 64 #[.iface 160 (rW q)] w K:=by
 refine ZmV ?_
 unfold Zr2
 have h0:=(List.getElem?_eq_some_iff.1 hx).1
 obtain ⟨n,hn⟩:∃n,l.length=n+1:=⟨l.length - 1,by omega⟩
 obtain ⟨y,hy⟩:=Zk (l:=l) (j:=n) (by omega)
 refine ZSM hS λw2 h2=>?_
 rw[hn]
 refine ZjR (by omega) (by omega) ?_
 rw[Nat.add_sub_cancel]
 refine ZSn (i:=0) (k:=n) hx hy h2 λw3 h3=>?_
 have hp1:=ZSf hx hy
 refine ZS4 (i0:=0) (n:=n) (by rw[ZSc];omega) (by omega) (by rw[ZSc];omega) h3 λl2 bb w4 hp2 htail hd h4=>?_
 have hl2:l2.length=n+1:=by rw[hp2.length_eq,ZSc,hn]
 have hln:l2[n]?=some x:=by rw[htail n (Nat.le_refl _),Zo2 hx hy,if_pos rfl]
 have hsp:l2=l2.take n++[x]:=by
  have:=Zx hln
  rw[List.take_of_length_le (by omega)] at this
  exact this
 have hpf:(l2.take n++[x]).Perm l:=by rw[←hsp];exact hp2.trans hp1
 rw[hsp] at h4
 refine ZS8 (by rw[List.length_take];omega) h4 λw5 h5=>hk _ _ hpf (λhh=>?_) h5
 have hh2:=hd ⟨λi a b hi hin hpar ha hb=>?_,λi a b hi hin hj=>by omega⟩
 ·intro i a b hi hin ha hb
  rw[List.length_take] at hin
  rw[List.getElem?_take,if_pos (by omega)] at ha hb
  exact hh2 i a b hi (by omega) ha hb
 ·rw[Zo2 hx hy,if_neg (by omega),if_neg (by omega)] at ha hb
  exact hh i a b hi (by omega) ha hb
end Go.Proofs.YtkpdpddmaoablaaGreat
end
section
namespace Go.Proofs.YtkpdpddmaoablaaGreat
open Go Go.E
set_option maxRecDepth 100000
variable {e w:World} {L R:List HP} {K:KV} {S S2:HP}
theorem Zlu {A:HP} {i:Nat} (hi:L[i]?=some S) (h:Sat e w (A::S::L.eraseIdx i)):Sat e w (A::L):=h.perm ((ZfR L i S hi).symm.cons A)
theorem ZbR {v:Value} {l:List Int} (i:Nat) (hi:L[i]?=some S) (hl:l.length≤1000000) (hff:∀x∈l,∀v∈(Ye .i64) x,flat v=true) (hS:Sat e w L) (hr:∀g,S g→rdS 1 (Ye .i64) v l g)
  (hk:∀v' w',Sat e w' (Zz 3 1 (Ye .i64) v' l::L)→K v' w'):Cl prog 59 #[v] w K:=
 Zqf hl hff (hS.pick i hi) hr λv' w' h=>hk v' w' (Zlu hi h)
theorem Zde {v:Value} {l:List Out} (i:Nat) (hi:L[i]?=some S) (hl:l.length≤1000000) (hff:∀x∈l,∀v∈Out.cs x,flat v=true) (hS:Sat e w L) (hr:∀g,S g→rdS 3 Out.cs v l g)
  (hk:∀v' w',Sat e w' (Zz 55 3 Out.cs v' l::L)→K v' w'):Cl prog 61 #[v] w K:=
 ZkK hl hff (hS.pick i hi) hr λv' w' h=>hk v' w' (Zlu hi h)
theorem Zjh {v:Value} {l:List Yg} (i:Nat) (hi:L[i]?=some S) (hl:l.length≤1000000) (hff:∀x∈l,∀v∈Yg.cs x,flat v=true) (hS:Sat e w L) (hr:∀g,S g→rdS 4 Yg.cs v l g)
  (hk:∀v' w',Sat e w' (Zz 57 4 Yg.cs v' l::L)→K v' w'):Cl prog 62 #[v] w K:=
 Zob hl hff (hS.pick i hi) hr λv' w' h=>hk v' w' (Zlu hi h)
theorem ZkD {v:Value} {l:List Zao} (i:Nat) (hi:L[i]?=some S) (hl:l.length≤1000000) (hff:∀x∈l,∀v∈Zao.cs x,flat v=true) (hS:Sat e w L) (hr:∀g,S g→rdS 7 Zao.cs v l g)
  (hk:∀v' w',Sat e w' (Zz 53 7 Zao.cs v' l::L)→K v' w'):Cl prog 60 #[v] w K:=
 ZoY hl hff (hS.pick i hi) hr λv' w' h=>hk v' w' (Zlu hi h)
theorem Zos {v:Value} {l:List Zak} (i:Nat) (hi:L[i]?=some S) (hl:l.length≤1000000) (hff:∀x∈l,∀v∈Zak.cs x,flat v=true) (hS:Sat e w L) (hr:∀g,S g→rdS 7 Zak.cs v l g)
  (hk:∀v' w',Sat e w' (Zz 42 7 Zak.cs v' l::L)→K v' w'):Cl prog 35 #[v] w K:=
 ZiJ hl hff (hS.pick i hi) hr λv' w' h=>hk v' w' (Zlu hi h)
def ZfY (r:Yg):HP:=Zz 55 3 Out.cs r.sv r.Sends
def Zea (f:Zao):HP:=Yh [Zz 3 1 (Ye .i64) f.pv f.Pubs,Zz 3 1 (Ye .i64) f.sv f.Subs,Zz 55 3 Out.cs f.iv f.Init,Zz 57 4 Yg.cs f.rv f.Rules,Yh (f.Rules.map ZfY)]
def Zag (x:WdX):HP:=Yh [Zz 3 1 (Ye .i64) x.pv x.Parents,Zz 53 7 Zao.cs x.fv x.Feds,Yh (x.Feds.map Zea)]
theorem Zbl {α:Type} {size:Nat} {f:α→List Value} {v:Value} {l:List α} {h g:Hp} (s:Sub h g) (k:rdS size f v l h):rdS size f v l g:=by
 obtain ⟨A,c,h1,h2,h3⟩:=k
 exact ⟨A,c,h1,h2,λh0=>by obtain ⟨a,h4,h5⟩:=h3 h0;exact ⟨a,h4,h5.up s⟩⟩
theorem Yy {l:List HP} {g:Hp} {i:Nat} {P:HP} (h:Yh l g) (hi:l[i]?=some P):∃g',P g'∧Sub g' g:=ZcB.get (S:=P) h hi
theorem Zv9 {f:Zao} {g:Hp} (h1:rdS 4 Yg.cs f.rv f.Rules g) (h2:Yh (f.Rules.map ZfY) g):Zew f.rv f.Rules g:=by
 refine ⟨h1,λr hr=>?_⟩
 obtain ⟨i,hi⟩:=List.getElem?_of_mem hr
 obtain ⟨g',h3,h4⟩:=Yy (i:=i) (P:=ZfY r) h2 (by rw[List.getElem?_map,hi];rfl)
 exact Zbl h4 (Zp h3)
theorem Zew.up {v:Value} {l:List Yg} {h g:Hp} (s:Sub h g) (k:Zew v l h):Zew v l g:=⟨Zbl s k.s,λr hr=>Zbl s (k.e r hr)⟩
theorem ZmQ.up {f:Zao} {h g:Hp} (s:Sub h g) (k:ZmQ f h):ZmQ f g:=⟨k.rules.up s,Zbl s k.pubs,Zbl s k.subs,Zbl s k.init⟩
theorem ZuJ {f:Zao} {g:Hp} (h:Zea f g):ZmQ f g:=by
 obtain ⟨g1,k1,s1⟩:=Yy (i:=0) h rfl
 obtain ⟨g2,k2,s2⟩:=Yy (i:=1) h rfl
 obtain ⟨g3,k3,s3⟩:=Yy (i:=2) h rfl
 obtain ⟨g4,k4,s4⟩:=Yy (i:=3) h rfl
 obtain ⟨g5,k5,s5⟩:=Yy (i:=4) h rfl
 have k5':Yh (f.Rules.map ZfY) g:=ZcB.up k5 s5
 exact ⟨Zv9 (Zbl s4 (Zp k4)) k5',Zbl s1 (Zp k1),Zbl s2 (Zp k2),Zbl s3 (Zp k3)⟩
theorem Zct {x:WdX} {g:Hp} (h:Zag x g):ZtG x g:=by
 obtain ⟨g1,k1,s1⟩:=Yy (i:=0) h rfl
 obtain ⟨g2,k2,s2⟩:=Yy (i:=1) h rfl
 obtain ⟨g3,k3,s3⟩:=Yy (i:=2) h rfl
 refine ⟨Zbl s1 (Zp k1),Zbl s2 (Zp k2),λf hf=>?_⟩
 obtain ⟨i,hi⟩:=List.getElem?_of_mem hf
 obtain ⟨g',h3,h4⟩:=Yy (i:=i) (P:=Zea f) k3 (by rw[List.getElem?_map,hi];rfl)
 exact (ZuJ h3).up (h4.trans s3)
theorem ZoX {α:Type} {t:TypeId} {size:Nat} {f:α→List Value} {v:Value} {l l':List α} {g:Hp} (hl:l.map f=l'.map f) (h:Zz t size f v l g):Zz t size f v l' g:=by
 have hlen:l.length=l'.length:=by simpa using congrArg List.length hl
 have hfm:l.flatMap f=l'.flatMap f:=by rw[List.flatMap_def,List.flatMap_def,hl]
 rcases h with ⟨h1,h2⟩ | ⟨b,c,cs,h1,h2,h3,h4,h5⟩
 ·subst h2
  refine .inl ⟨h1,List.length_eq_zero_iff.1 (by rw[←hlen];rfl)⟩
 ·exact .inr ⟨b,c,cs,by rw[←hlen];exact h1,h2,h3,by omega,by rw[←hlen,←hfm];exact h5⟩
theorem Znr {v:Value} {l:List Yg} (i:Nat) (hi:L[i]?=some S) (hS:Sat e w L) (hr:∀g,S g→Zew v l g):∀r∈l,∀c∈r.cs,flat c=true:=by
 intro r hrm c hc
 obtain ⟨g,hg,_⟩:=hS.get i hi
 obtain ⟨A,c',hsv,_⟩:=(hr g hg).e r hrm
 simp only[Yg.cs,List.mem_cons,List.not_mem_nil,or_false] at hc
 rcases hc with rfl | rfl | rfl | rfl
 ·rfl
 ·rfl
 ·rfl
 ·rw[hsv];rfl
theorem ZiX {A:HP} {l:List HP} (h:Sat e w (A::Yh l::R)):Sat e w (Yh (l++[A])::R):=by
 have h1:Sat e w (Yh (A::l)::R):=Sat.join (l':=A::l) (by
  have:=h.swap.split
  exact this.perm (List.perm_middle (a:=A) (l₁:=l) (l₂:=R)))
 exact h1.imp λg hg=>ZcB.perm (List.perm_append_singleton A l).symm hg
theorem ZSY {x:WdX} (i:Nat) (hi:L[i]?=some S) (hS:Sat e w L) (hr:∀g,S g→ZtG x g) (hs:x.short)
  (hk:∀(X:WdX) w',X.w=x.w→Sat e w' (Zag X::L)→K (.agg X.cs.toArray) w'):Cl prog 31 #[.agg x.cs.toArray] w K:=by
 refine ZSe ?_
 unfold ZSk
 have hflat:=ZoI i hi hS hr
 refine Yp (cs:=x.cs) hS rfl λb w1 h1=>?_
 rw[ZOw]
 refine Yp (cs:=[.slice none 0 0,.slice none 0 0,.int .i64 0]) h1 rfl λb2 w2 h2=>?_
 refine Za (Zb h2 1 rfl (v:=x.pv) rfl ?_)
 refine ZbR (i+2) (by simpa using hi) (by have:=hs.par;omega) (λ_ _ v h=>by simp[Ye] at h;subst h;rfl) h2 (λg hg=>(hr g hg).par) λv1 w3 h3=>?_
 have f1:=h3.own_cells 0 rfl
 refine Za (Zq h3 2 rfl (vs:=[v1]) f1.1 rfl (Nat.le_of_ble_eq_true rfl) (λc hc=>by rw[List.mem_singleton.1 hc];exact f1.2) (cs':=[v1,x.fv,.int .i64 x.End]) (by rfl) λw4 h4=>?_)
 refine Za (Zb h4 2 rfl (v:=x.fv) rfl ?_)
 refine ZkD (i+3) (by simpa using hi) (by have:=hs.feds;omega) (λf hf=>Zc1 i hi hS λg hg=>(hr g hg).fed f hf) h4 (λg hg=>(hr g hg).feds) λv2 w5 h5=>?_
 have f2:=h5.own_cells 0 rfl
 refine Za (Zq h5 3 rfl (vs:=[v2]) f2.1 rfl (Nat.le_of_ble_eq_true rfl) (λc hc=>by rw[List.mem_singleton.1 hc];exact f2.2) (cs':=[v1,v2,.int .i64 x.End]) (by rfl) λw6 h6=>?_)
 refine Za (Zb h6 3 rfl (v:=v2) rfl ?_)
 refine Zt h6 0 rfl (λ_=>Zp) ?_
 have hfl:=hs.feds
 refine Zdk (λq t17 w=>∃(j:Nat) (dn:List Zao),j≤x.Feds.length∧t17=.int .i64 j∧q=x.Feds.length - j∧dn.length=j∧dn.map Zao.f=(x.Feds.take j).map Zao.f∧
   Sat e w (Zz 53 7 Zao.cs v2 (dn++x.Feds.drop j)::Yh (dn.map Zea)::Zz 3 1 (Ye .i64) v1 x.Parents::blk b2 27 [.slice none 0 0,.slice none 0 0,.int .i64 0]::blk b 27 [v1,v2,.int .i64 x.End]::L)) x.Feds.length
  ⟨0,[],Nat.zero_le _,rfl,rfl,rfl,rfl,?_⟩ ?_
 ·have h7:Sat e w6 (Yh []::Zz 53 7 Zao.cs v2 x.Feds::Zz 3 1 (Ye .i64) v1 x.Parents::blk b2 27 [.slice none 0 0,.slice none 0 0,.int .i64 0]::blk b 27 [v1,v2,.int .i64 x.End]::L):=Sat.join (l':=[]) (h6.selR [_,_,_,_] [_,_,_,_] [0,1,2,3] (by decide) rfl)
  exact h7.swap
 rintro q _ w g1 ⟨j,dn,hj,rfl,rfl,hdl,hdm,h7⟩ hg1
 refine Za7 (λc0=>Zi ?_) (λc0=>Zf ?_)
 case refine_2=>
  have ej:j=x.Feds.length:=by omega
  rw[ej,List.drop_length,List.append_nil] at h7
  rw[ej,List.take_length] at hdm
  refine Zo h7 4 (vs:=[v1,v2,.int .i64 x.End]) rfl (by rfl) rfl ?_
  refine Zq h7 3 rfl (vs:=[v1,v2,.int .i64 x.End]) rfl rfl (Nat.le_of_ble_eq_true rfl) (λc hc=>by
   simp only[List.mem_cons,List.not_mem_nil,or_false] at hc
   rcases hc with rfl | rfl | rfl
   ·exact f1.2
   ·exact f2.2
   ·rfl) (cs':=[v1,v2,.int .i64 x.End]) (by rfl) λw8 h8=>?_
  refine Zo h8 3 (vs:=[v1,v2,.int .i64 x.End]) rfl (by rfl) rfl ?_
  refine hk ⟨v1,x.Parents,v2,dn,x.End⟩ _ (by simp only[WdX.w,hdm]) (Sat.join (l':=[_,_,_]) ?_)
  exact h8.selR [_,_,_,_,_] [_,_,_] [2,0,1] (by decide) rfl
 obtain ⟨fd,hf⟩:=Zk (l:=x.Feds) (j:=j) (by omega)
 have hfm:=List.mem_of_getElem? hf
 have hsf:=hs.fed fd hfm
 have hdr:x.Feds.drop j=fd::x.Feds.drop (j+1):=Zaq hf
 have hget:(dn++x.Feds.drop j)[j]?=some fd:=by rw[hdr,List.getElem?_append_right (by omega),hdl,Nat.sub_self];rfl
 have hi7:(Zz 53 7 Zao.cs v2 (dn++x.Feds.drop j)::Yh (dn.map Zea)::Zz 3 1 (Ye .i64) v1 x.Parents::blk b2 27 [.slice none 0 0,.slice none 0 0,.int .i64 0]::blk b 27 [v1,v2,.int .i64 x.End]::L)[i+5]?=some S:=by simpa using hi
 refine Za (Zb h7 4 rfl (v:=v2) rfl ?_)
 refine ZjI h7 0 rfl hget λbb cc hv2=>?_
 refine ZaY h7 λw8 h8=>?_
 refine Zh (Za (Zaa h8 0 rfl (λ_=>rfl) hv2 hget (u:=fd.pv) rfl ?_))
 refine Zh (Za (Zaa h8 0 rfl (λ_=>rfl) hv2 hget (u:=fd.sv) rfl ?_))
 refine Zh (Za (Zaa h8 0 rfl (λ_=>rfl) hv2 hget (u:=fd.iv) rfl ?_))
 refine Zh (Za (Zaa h8 0 rfl (λ_=>rfl) hv2 hget (u:=fd.rv) rfl ?_))
 have hintf:∀(l:List Int),∀x∈l,∀v∈Ye .i64 x,flat v=true:=λ_ _ _ v h=>by simp[Ye] at h;subst h;rfl
 refine ZbR (i+5) hi7 (by have:=hsf.pubs;omega) (hintf _) h8 (λg hg=>((hr g hg).fed fd hfm).pubs) λa1 w9 h9=>?_
 refine ⟨Zaa h9 1 rfl (λ_=>rfl) hv2 hget (u:=fd.rv) rfl ⟨rfl,rfl⟩,Zaa h9 1 rfl (λ_=>rfl) hv2 hget (u:=fd.iv) rfl ⟨rfl,rfl⟩,Zaa h9 1 rfl (λ_=>rfl) hv2 hget (u:=fd.sv) rfl ⟨rfl,rfl⟩,?_⟩
 refine ZbR (i+6) (by simpa using hi) (by have:=hsf.subs;omega) (hintf _) h9 (λg hg=>((hr g hg).fed fd hfm).subs) λa2 w10 h10=>?_
 refine ⟨Zaa h10 2 rfl (λ_=>rfl) hv2 hget (u:=fd.rv) rfl ⟨rfl,rfl⟩,Zaa h10 2 rfl (λ_=>rfl) hv2 hget (u:=fd.iv) rfl ⟨rfl,rfl⟩,?_⟩
 refine Zde (i+7) (by simpa using hi) (by have:=hsf.init;omega) (λ_ _=>Zg _) h10 (λg hg=>((hr g hg).fed fd hfm).init) λa3 w11 h11=>?_
 refine ⟨Zaa h11 3 rfl (λ_=>rfl) hv2 hget (u:=fd.rv) rfl ⟨rfl,rfl⟩,?_⟩
 refine Zjh (i+8) (by simpa using hi) (by have:=hsf.rules;omega) (Znr i hi hS λg hg=>((hr g hg).fed fd hfm).rules) h11 (λg hg=>((hr g hg).fed fd hfm).rules.s) λa4 w12 h12=>?_
 have q4:=h12.own_cells 0 rfl
 have q3:=h12.own_cells 1 rfl
 have q2:=h12.own_cells 2 rfl
 have q1:=h12.own_cells 3 rfl
 have hset:∀(a c:Zao),((dn++x.Feds.drop j).set j a).set j c=(dn++x.Feds.drop j).set j c:=λa c=>List.set_set _
 have hjl:j<(dn++x.Feds.drop j).length:=(List.getElem?_eq_some_iff.1 hget).1
 have hg1':∀a:Zao,((dn++x.Feds.drop j).set j a)[j]?=some a:=λa=>List.getElem?_set_self hjl
 have hln:∀a:Zao,((dn++x.Feds.drop j).set j a).length=(dn++x.Feds.drop j).length:=λa=>List.length_set
 refine Zh (Za (Zdz h12 4 rfl (λ_=>rfl) hv2 hget (x':={ fd with pv:=a1 }) q1.1 rfl (by decide) (λc hc=>by rw[List.mem_singleton.1 hc];exact q1.2) rfl λw13 h13=>?_))
 refine Zh (Za (Zdz h13 4 rfl (λ_=>rfl) (by rw[hln];exact hv2) (hg1' _) (x':={ fd with pv:=a1,sv:=a2 }) q2.1 rfl (by decide) (λc hc=>by rw[List.mem_singleton.1 hc];exact q2.2) rfl λw14 h14=>?_))
 rw[hset] at h14
 refine Zh (Za (Zdz h14 4 rfl (λ_=>rfl) (by rw[hln];exact hv2) (hg1' _) (x':={ fd with pv:=a1,sv:=a2,iv:=a3 }) q3.1 rfl (by decide) (λc hc=>by rw[List.mem_singleton.1 hc];exact q3.2) rfl λw15 h15=>?_))
 rw[hset] at h15
 refine Zh (Za (Zdz h15 4 rfl (λ_=>rfl) (by rw[hln];exact hv2) (hg1' _) (x':={ fd with pv:=a1,sv:=a2,iv:=a3,rv:=a4 }) q4.1 rfl (by decide) (λc hc=>by rw[List.mem_singleton.1 hc];exact q4.2) rfl λw16 h16=>?_))
 rw[hset] at h16
 clear h8 h9 h10 h11 h12 h13 h14 h15
 generalize hfd':({ fd with pv:=a1,sv:=a2,iv:=a3,rv:=a4 }:Zao)=fd' at h16
 generalize hls:(dn++x.Feds.drop j).set j fd'=ls at h16
 have hlsj:ls[j]?=some fd':=by rw[←hls];exact hg1' _
 have hlsl:v2=.slice (some ⟨bb,0,none⟩) ls.length cc:=by rw[←hls,hln];exact hv2
 have e4:fd'.rv=a4:=by rw[←hfd']
 refine Zh (Za (Zaa h16 4 rfl (λ_=>rfl) hlsl hlsj (u:=a4) (by rw[←hfd'];rfl) ?_))
 refine Zt h16 0 rfl (λ_=>Zp) ?_
 have hrl:=hsf.rules
 refine Zdk (λq t61 w=>∃(n:Nat) (rd:List Yg),n≤fd.Rules.length∧t61=.int .i64 n∧q=fd.Rules.length - n∧rd.length=n∧rd.map Yg.r=(fd.Rules.take n).map Yg.r∧
   Sat e w (Zz 57 4 Yg.cs a4 (rd++fd.Rules.drop n)::Yh (rd.map ZfY)::Zz 55 3 Out.cs a3 fd.Init::Zz 3 1 (Ye .i64) a2 fd.Subs::Zz 3 1 (Ye .i64) a1 fd.Pubs::Zz 53 7 Zao.cs v2 ls::Yh (dn.map Zea)::Zz 3 1 (Ye .i64) v1 x.Parents::blk b2 27 [.slice none 0 0,.slice none 0 0,.int .i64 0]::blk b 27 [v1,v2,.int .i64 x.End]::L)) fd.Rules.length
  ⟨0,[],Nat.zero_le _,rfl,rfl,rfl,rfl,?_⟩ ?_
 ·exact (Sat.join (l':=[]) h16).swap
 rintro q _ w g2 ⟨n,rd,hn,rfl,rfl,hrdl,hrdm,h17⟩ hg2
 refine Za7 (λc1=>Zi ?_) (λc1=>Zf ?_)
 case refine_2=>
  have en:n=fd.Rules.length:=by omega
  rw[en,List.drop_length,List.append_nil] at h17
  rw[en,List.take_length] at hrdm
  refine Yr (by omega) ?_
  have h18:Sat e w (Zea { fd' with Rules:=rd }::Zz 53 7 Zao.cs v2 ls::Yh (dn.map Zea)::Zz 3 1 (Ye .i64) v1 x.Parents::blk b2 27 [.slice none 0 0,.slice none 0 0,.int .i64 0]::blk b 27 [v1,v2,.int .i64 x.End]::L):=by
   refine Sat.join (l':=[_,_,_,_,_]) ?_
   rw[←hfd']
   exact h17.selR [_,_,_,_,_] [_,_,_,_,_] [4,3,2,0,1] (by decide) rfl
  have h19:=ZiX (h18.selR [_,_,_] [_,_,_] [0,2,1] (by decide) rfl)
  refine hg1 _ _ _ (by omega) ⟨j+1,dn++[{ fd' with Rules:=rd }],by omega,rfl,rfl,by simp[hdl],?_,?_⟩
  ·rw[Zx hf,List.map_append,List.map_append,hdm,List.map_singleton,List.map_singleton]
   congr 2
   rw[←hfd']
   simp only[Zao.f,hrdm]
  ·have h20:=(h19.swap).imp (Q:=Zz 53 7 Zao.cs v2 (dn++[{ fd' with Rules:=rd }]++x.Feds.drop (j+1))) λg hg=>ZoX (by
    rw[←hls,hdr,List.set_append_right _ _ (by omega),hdl,Nat.sub_self,List.set_cons_zero]
    simp only[List.map_append,List.map_cons,List.append_assoc,List.singleton_append]
    rfl) hg
   rw[List.map_append]
   exact h20
 obtain ⟨r,hrn⟩:=Zk (l:=fd.Rules) (j:=n) (by omega)
 have hrm:=List.mem_of_getElem? hrn
 have hdr2:fd.Rules.drop n=r::fd.Rules.drop (n+1):=Zaq hrn
 have hget2:(rd++fd.Rules.drop n)[n]?=some r:=by rw[hdr2,List.getElem?_append_right (by omega),hrdl,Nat.sub_self];rfl
 refine ZaY h17 λw18 h18=>?_
 refine Zh (Za (Zaa h18 5 rfl (λ_=>rfl) hlsl hlsj (u:=a4) (by rw[←hfd'];rfl) ?_))
 refine Zh (Za (Zaa h18 5 rfl (λ_=>rfl) hlsl hlsj (u:=a4) (by rw[←hfd'];rfl) ?_))
 refine ZjI h18 0 rfl hget2 λbr cr ha4=>?_
 refine Za (Zaa h18 0 rfl (λ_=>rfl) ha4 hget2 (u:=r.sv) rfl ?_)
 refine Zde (i+10) (by simpa using hi) (by have:=hsf.sends r hrm;omega) (λ_ _=>Zg _) h18 (λg hg=>((hr g hg).fed fd hfm).rules.e r hrm) λa5 w19 h19=>?_
 have q5:=h19.own_cells 0 rfl
 refine ⟨Zaa h19 6 rfl (λ_=>rfl) hlsl hlsj (u:=a4) (by rw[←hfd'];rfl) ⟨rfl,rfl⟩,?_⟩
 refine ZjI h19 1 rfl hget2 λbr' cr' ha4'=>?_
 refine Za (Zdz h19 1 rfl (λ_=>rfl) ha4' hget2 (x':={ r with sv:=a5 }) q5.1 rfl (by decide) (λc hc=>by rw[List.mem_singleton.1 hc];exact q5.2) rfl λw20 h20=>?_)
 refine Yr (by omega) ?_
 have h21:=ZiX (A:=ZfY { r with sv:=a5 }) (h20.selR [_,_,_] [_,_,_] [0,2,1] (by decide) rfl)
 refine hg2 _ _ _ (by omega) ⟨n+1,rd++[{ r with sv:=a5 }],by omega,rfl,rfl,by simp[hrdl],?_,?_⟩
 ·rw[Zx hrn,List.map_append,List.map_append,hrdm]
  rfl
 ·rw[hdr2,List.set_append_right _ _ (by omega),hrdl,Nat.sub_self,List.set_cons_zero] at h21
  rw[List.map_append,List.append_assoc]
  exact h21.swap
end Go.Proofs.YtkpdpddmaoablaaGreat
namespace Go.Proofs.YtkpdpddmaoablaaGreat
open Go Go.E
set_option maxRecDepth 100000
structure FA where
 st:Int
 sent:Int
 log:List Zak
structure RS where
 feds:List FA
 wait:List Msg
def ZGx (m:Msg):List Msg→List Msg
 | []=>[m]
 | a::l=>if ZHW m a<0 then m::a::l else a::ZGx m l
def putL (l ms:List Msg):List Msg:=ms.foldl (λl m=>ZGx m l) l
def ZF5 (wd:Wd) (f:Fed) (a:FA) (m:Msg) (rest:List Msg) (R:RS):Zak × RS:=
 (⟨m,(ZbY f.Rules a.st m.Class).1⟩,⟨R.feds.set m.To.toNat ⟨(ZbY f.Rules a.st m.Class).1,a.sent+(ZbY f.Rules a.st m.Class).2.length,a.log++[⟨m,(ZbY f.Rules a.st m.Class).1⟩]⟩,
  putL rest (Zau wd.Parents wd.Feds m.To a.sent m.key.T m.Body (ZbY f.Rules a.st m.Class).2)⟩)
def ZFO (wd:Wd) (R:RS):Option (Zak × RS):=match R.wait with
 | []=>none
 | m::rest=>if wd.End≤m.key.T then none else match wd.Feds[m.To.toNat]?,R.feds[m.To.toNat]? with
  | some f,some a=>some (ZF5 wd f a m rest R)
  | _,_=>none
def ZF4 (wd:Wd):RS:=⟨wd.Feds.map λf=>⟨f.Start,f.Init.length,[]⟩,putL [] (Zaz wd.Parents wd.Feds wd.Feds)⟩
structure ZoS (wd:Wd):Prop where
 tree:ZkT wd.Parents
 n:1≤wd.Feds.length∧wd.Feds.length≤8
 en:0≤wd.End∧wd.End≤1099511627776
 sends:∀f∈wd.Feds,∀r∈f.Rules,r.Sends.length≤3∧∀o∈r.Sends,Zpq wd.Parents.length o∧1≤o.Delay
 init:∀f∈wd.Feds,f.Init.length≤4∧∀o∈f.Init,Zpq wd.Parents.length o∧0≤o.Delay
theorem Zl9 {f:Fed}:∀{l:List Out},ZbW f l=0→∀o∈l,o.Class∈f.Pubs∧f.Look≤o.Delay
 | [],_,o,ho=>by cases ho
 | x::l,h,o,ho=>by
  rw[Zco] at h
  split at h
  ·cases h
  ·rename_i h1
   split at h
   ·cases h
   ·rename_i h2
    rcases List.mem_cons.1 ho with rfl | ho
    ·exact ⟨Classical.not_not.1 h1,by omega⟩
    ·exact Zl9 h o ho
theorem ZlL {f:Fed} {most:Int}:∀{l:List Zsp},Zca f most l=0→∀r∈l,ZbW f r.Sends=0
 | [],_,o,ho=>by cases ho
 | x::l,h,r,hr=>by
  rw[Zcp] at h
  split at h
  ·cases h
  ·rename_i h1
   split at h
   ·rename_i h2
    exact absurd h h2
   ·rename_i h2
    rcases List.mem_cons.1 hr with rfl | hr
    ·exact Classical.not_not.1 h2
    ·exact ZlL h r hr
theorem ZlN {most:Int}:∀{l:List Int} {lo:Int},ZaF most lo l→∀c∈l,c<most
 | [],_,_,c,hc=>by cases hc
 | a::l,lo,h,c,hc=>by
  obtain ⟨h1,h2,h3⟩:=h
  rcases List.mem_cons.1 hc with rfl | hc
  ·exact h2
  ·exact ZlN h3 c hc
theorem Zp6 {f:Fed} {most:Int} (h:Zre f most=0):1≤f.Look∧Zc4 f.Rules∧ZaF most (-1) f.Pubs∧Zca f most f.Rules=0∧ZlW f:=by
 rw[ZjK] at h
 split at h
 ·cases h
 ·split at h
  ·cases h
  ·rename_i h1 h2
   split at h
   ·cases h
   ·split at h
    ·cases h
    ·rename_i h3 h4
     split at h
     ·cases h
     ·rename_i h5
      split at h
      ·rename_i h6;exact absurd h h6
      ·rename_i h6
       split at h
       ·cases h
       ·rename_i h7
        exact ⟨(Classical.not_not.1 h2).1,Classical.not_not.1 h4,(Classical.not_not.1 h5).1,Classical.not_not.1 h6,Classical.not_not.1 h7⟩
theorem ZjJ {most:Int}:∀{l:List Fed} {i:Nat},(Zm3 most i l).2=0→∀f∈l,Zre f most=0
 | [],_,_,f,hf=>by cases hf
 | x::l,i,h,f,hf=>by
  rw[ZdR] at h
  split at h
  ·rename_i h1;exact absurd h h1
  ·rename_i h1
   rcases List.mem_cons.1 hf with rfl | hf
   ·exact Classical.not_not.1 h1
   ·exact ZjJ h f hf
theorem ZfI {wd:Wd} (h:(Za4 wd).2=0):ZoS wd:=by
 unfold Za4 at h
 split at h
 ·rename_i h1;exact absurd h h1
 ·rename_i h1
  split at h
  ·cases h
  ·rename_i h2
   have ht:ZkT wd.Parents:=by
    have:=Classical.not_not.1 h1
    unfold ZhY at this
    split at this
    ·assumption
    ·cases this
   have h2:=Classical.not_not.1 h2
   have hf:=ZjJ h
   refine ⟨ht,by omega,h2.1,λf hfm r hr=>?_,λf hfm=>?_⟩
   ·obtain ⟨k1,k2,k3,k4,k5⟩:=Zp6 (hf f hfm)
    have hok:=k2.2.1 r hr
    refine ⟨hok.2.2.2.2.2.2.1,λo ho=>?_⟩
    obtain ⟨p1,p2⟩:=Zl9 (ZlL k4 r hr) o ho
    have p3:=hok.2.2.2.2.2.2.2 o ho
    exact ⟨⟨p3.1,ZlN k3 _ p1,p3.2.2.2.2.1⟩,by omega⟩
   ·obtain ⟨k1,k2,k3,k4,k5⟩:=Zp6 (hf f hfm)
    refine ⟨k5.1,λo ho=>?_⟩
    obtain ⟨p1,p2,p3,p4,p5⟩:=k5.2 o ho
    have:=Zqq k3 _ p1
    exact ⟨⟨by omega,ZlN k3 _ p1,p4⟩,p2⟩
theorem ZKF (m:Msg):∀l,(ZGx m l).Perm (m::l)
 | []=>.refl _
 | a::l=>by
  unfold ZGx
  split
  ·exact .refl _
  ·exact ((ZKF m l).cons a).trans (.swap m a l)
theorem ZKK:∀(ms l:List Msg),(putL l ms).Perm (ms++l)
 | [],_=>.refl _
 | m::ms,l=>(ZKK ms (ZGx m l)).trans (((ZKF m l).append_left ms).trans List.perm_middle)
def Ne2 (a b:Msg):Prop:=¬(a.key=b.key∧a.To=b.To)
theorem ZKQ {m:Msg}:∀{l:List Msg},l.Pairwise MLt→(∀a∈l,Ne2 a m)→(ZGx m l).Pairwise MLt
 | [],_,_=>List.pairwise_singleton _ _
 | a::l,h,hn=>by
  obtain ⟨h1,h2⟩:=List.pairwise_cons.1 h
  unfold ZGx
  split
  ·rename_i hlt
   have hlt:=ZLH.1 hlt
   exact List.pairwise_cons.2 ⟨λx hx=>by
    rcases List.mem_cons.1 hx with rfl | hx
    ·exact hlt
    ·exact hlt.trans (h1 x hx),h⟩
  ·rename_i hlt
   have ham:MLt a m:=by
    rcases MLt.tri a m with k | k | k
    ·exact k
    ·exact absurd k (hn a (by simp))
    ·exact absurd (ZLH.2 k) hlt
   refine List.pairwise_cons.2 ⟨λx hx=>?_,ZKQ h2 λb hb=>hn b (by simp[hb])⟩
   rcases List.mem_cons.1 ((ZKF m l).mem_iff.1 hx) with rfl | hx
   ·exact ham
   ·exact h1 x hx
theorem ZKA:∀{ms l:List Msg},l.Pairwise MLt→ms.Pairwise Ne2→(∀a∈l,∀m∈ms,Ne2 a m)→(putL l ms).Pairwise MLt
 | [],_,h,_,_=>h
 | m::ms,l,h,hm,hn=>by
  obtain ⟨h1,h2⟩:=List.pairwise_cons.1 hm
  refine ZKA (ms:=ms) (l:=ZGx m l) (ZKQ h λa ha=>hn a ha m (by simp)) h2 λa ha x hx=>?_
  rcases List.mem_cons.1 ((ZKF m l).mem_iff.1 ha) with rfl | ha
  ·exact h1 x hx
  ·exact hn a ha x (by simp[hx])
theorem ZhA {ps:List Int} {f c:Int} {l:List Fed} {to:Int} (h:to∈Zba ps f c l):0≤to∧to<l.length∧to≠f:=by
 unfold Zba at h
 obtain ⟨p,hp,rfl⟩:=List.mem_map.1 h
 obtain ⟨h1,h2⟩:=List.mem_filter.1 hp
 rw[Bool.and_eq_true] at h2
 have h3:=of_decide_eq_true h2.1
 have h4:=List.snd_lt_of_mem_zipIdx h1
 exact ⟨by omega,by omega,h3⟩
theorem ZLf (ps:List Int) (f c:Int):∀l:List Fed,(Zba ps f c l).Pairwise (·<·):=by
 have key:∀(l:List Fed) (n:Nat),((l.zipIdx n).map λp=>((p.2:Nat):Int)).Pairwise (·<·):=by
  intro l
  induction l with
  | nil=>intro n;simp
  | cons x l ih=>
   intro n
   rw[List.zipIdx_cons,List.map_cons,List.pairwise_cons]
   refine ⟨λy hy=>?_,ih (n+1)⟩
   obtain ⟨p,hp,rfl⟩:=List.mem_map.1 hy
   have:=List.le_snd_of_mem_zipIdx hp
   show (n:Int)<(p.2:Int)
   omega
 intro l
 have h1:=key l 0
 refine h1.sublist ?_
 unfold Zba
 exact (List.filter_sublist).map _
structure ZCy (feds:List Fed) (f seq now:Int) (k:Nat) (m:Msg):Prop where
 from':m.key.From=f
 seq:seq≤m.key.Seq∧m.key.Seq<seq+k
 to:0≤m.To∧m.To<feds.length∧m.To≠f
 body:0≤m.Body
 time:∃o:Out,m.key.T=ZvS now o.Delay
def D3 (a b:Msg):Prop:=a.key.From<b.key.From∨(a.key.From=b.key.From∧(a.key.Seq<b.key.Seq∨(a.key.Seq=b.key.Seq∧a.To<b.To)))
theorem D3.ne {a b:Msg} (h:D3 a b):Ne2 a b:=by
 rintro ⟨h1,h2⟩
 unfold D3 at h
 rw[h1] at h
 omega
theorem Znf {ps:List Int} {feds:List Fed} {f seq now body:Int} {outs:List Out} {m:Msg} (h:m∈Zau ps feds f seq now body outs) :
  ∃(i:Nat) (o:Out) (to:Int),outs[i]?=some o∧to∈Zba ps f o.Class feds∧m={ Zim f (seq+i) now body o with To:=to }:=by
 unfold Zau at h
 obtain ⟨p,hp,h⟩:=List.mem_flatMap.1 h
 obtain ⟨to,hto,rfl⟩:=List.mem_map.1 h
 have:=List.mem_zipIdx_iff_getElem?.1 hp
 exact ⟨p.2,p.1,to,this,hto,rfl⟩
theorem Zpu {ps:List Int} {feds:List Fed} {f seq now body:Int} {outs:List Out} {m:Msg} (h:m∈Zau ps feds f seq now body outs):ZCy feds f seq now outs.length m:=by
 obtain ⟨i,o,to,h1,h2,rfl⟩:=Znf h
 have hi:=(List.getElem?_eq_some_iff.1 h1).1
 exact ⟨rfl,⟨by simp only[Zim];omega,by simp only[Zim];omega⟩,ZhA h2,by simp only[Zim];omega,o,rfl⟩
theorem ZBf {α:Type} {P:List α→Prop} (h0:P []) (hs:∀l x,P l→P (l++[x])):∀l,P l:=by
 intro l
 have key:∀n (l:List α),l.length=n→P l:=by
  intro n
  induction n with
  | zero=>intro l hl;rw[List.length_eq_zero_iff.1 hl];exact h0
  | succ n ih=>
   intro l hl
   have hne:l≠[]:=λh=>by rw[h] at hl;cases hl
   rw[←List.dropLast_concat_getLast hne]
   exact hs _ _ (ih _ (by rw[List.length_dropLast];omega))
 exact key _ l rfl
theorem ZKX (ps:List Int) (feds:List Fed) (f seq now body:Int):∀outs:List Out,(Zau ps feds f seq now body outs).Pairwise D3:=by
 refine ZBf (by simp[Zau]) λl x ih=>?_
 rw[ZpO,List.pairwise_append]
 refine ⟨ih,?_,λa ha b hb=>?_⟩
 ·rw[List.pairwise_map]
  exact (ZLf ps f x.Class feds).imp λhlt=>.inr ⟨rfl,.inr ⟨rfl,hlt⟩⟩
 ·have h1:=Zpu ha
  obtain ⟨to,_,rfl⟩:=List.mem_map.1 hb
  refine .inr ⟨h1.from',.inl ?_⟩
  have:=h1.seq.2
  simp only[Zim]
  omega
theorem Znu {ps:List Int} {feds:List Fed} {l:List Fed} {m:Msg} (h:m∈Zaz ps feds l):∃(i:Nat) (fd:Fed),l[i]?=some fd∧m∈Zau ps feds (i:Int) 0 0 0 fd.Init:=by
 unfold Zaz at h
 obtain ⟨p,hp,h⟩:=List.mem_flatMap.1 h
 exact ⟨p.2,p.1,List.mem_zipIdx_iff_getElem?.1 hp,h⟩
theorem ZLw (ps:List Int) (feds:List Fed):∀l:List Fed,(Zaz ps feds l).Pairwise D3:=by
 refine ZBf (by simp[Zaz]) λ_ x ih=>?_
 rw[Zkw,List.pairwise_append]
 refine ⟨ih,ZKX _ _ _ _ _ _ _,λa ha b hb=>?_⟩
 obtain ⟨i,fd,h1,h2⟩:=Znu ha
 have h3:=(Zpu h2).from'
 have h4:=(Zpu hb).from'
 have:=(List.getElem?_eq_some_iff.1 h1).1
 left
 omega
theorem ZtB {ps:List Int} {feds:List Fed} (hn:feds.length≤8):∀{l:List Fed},(∀f∈l,f.Init.length≤4)→(Zaz ps feds l).length≤l.length*32:=by
 intro l
 induction l using ZBf with
 | h0=>simp[Zaz]
 | hs l x ih=>
  intro h
  rw[Zkw,List.length_append,List.length_append,List.length_singleton,Nat.add_mul]
  have h1:=ih λf hf=>h f (by simp[hf])
  have h2:=ZcU ps feds (l.length:Int) 0 0 0 x.Init
  have h3:x.Init.length*feds.length≤4*8:=Nat.mul_le_mul (h x (by simp)) hn
  omega
end Go.Proofs.YtkpdpddmaoablaaGreat
namespace Go.Proofs.YtkpdpddmaoablaaGreat
open Go Go.E
set_option maxRecDepth 100000
structure ZLP (wd:Wd) (R:RS) (k:Nat):Prop where
 len:R.feds.length=wd.Feds.length
 sorted:R.wait.Pairwise MLt
 to:∀m∈R.wait,0≤m.To∧m.To<wd.Feds.length∧0≤m.Body∧0≤m.key.T
 src:∀m∈R.wait,0≤m.key.From∧m.key.From<wd.Feds.length∧m.key.From≠m.To∧0≤m.key.Seq∧∀a,R.feds[m.key.From.toNat]?=some a→m.key.Seq<a.sent
 cnt:R.wait.length≤256+24*k
 sent:∀a∈R.feds,0≤a.sent∧a.sent≤4+3*k∧a.log.length≤k
 logs:∀(i:Nat) a,R.feds[i]?=some a→∀d∈a.log,d.m.To=i∧(∀m∈R.wait,MLt d.m m)∧d.m.key.T<wd.End
 inc:∀a∈R.feds,a.log.Pairwise λd e=>MLt d.m e.m
theorem ZLD (t d:Int):0≤ZvS t d:=(Zp1 _).1
theorem ZMl {t d:Int} (h0:0≤t) (h1:t<1099511627776) (hd:1≤d):t<ZvS t d:=by
 unfold ZvS ZaD Inf Zsq
 (repeat' split) <;> omega
theorem ZqX (l:List Zsp) (s c:Int):(∃r∈l,r.State=s∧r.Class=c∧ZbY l s c=(r.Next,r.Sends))∨((∀r∈l,¬(r.State=s∧r.Class=c))∧ZbY l s c=(s,[])):=by
 unfold ZbY
 cases h:l.find? λr=>decide (r.State=s)&&decide (r.Class=c) with
 | some r=>
  have h1:=List.find?_some h
  rw[Bool.and_eq_true] at h1
  exact .inl ⟨r,List.mem_of_find?_eq_some h,of_decide_eq_true h1.1,of_decide_eq_true h1.2,rfl⟩
 | none=>
  rw[List.find?_eq_none] at h
  exact .inr ⟨λr hr hn=>h r hr (by rw[Bool.and_eq_true];exact ⟨decide_eq_true hn.1,decide_eq_true hn.2⟩),rfl⟩
theorem ZlA {wd:Wd} (hw:ZoS wd) {f:Fed} (hf:f∈wd.Feds) (s c:Int):(ZbY f.Rules s c).2.length≤3∧∀o∈(ZbY f.Rules s c).2,Zpq wd.Parents.length o∧1≤o.Delay:=by
 rcases ZqX f.Rules s c with ⟨r,hr,_,_,h⟩ | ⟨_,h⟩
 ·rw[h];exact hw.sends f hf r hr
 ·rw[h];exact ⟨by simp,by simp⟩
theorem ZLt {wd:Wd} (hw:ZoS wd):ZLP wd (ZF4 wd) 0:=by
 have hp:=ZKK (Zaz wd.Parents wd.Feds wd.Feds) []
 rw[List.append_nil] at hp
 have hmem:∀m,m∈(ZF4 wd).wait→∃(i:Nat) (fd:Fed),wd.Feds[i]?=some fd∧m∈Zau wd.Parents wd.Feds (i:Int) 0 0 0 fd.Init:=λm hm=>Znu (hp.mem_iff.1 hm)
 refine ⟨by simp[ZF4],ZKA List.Pairwise.nil ((ZLw _ _ _).imp λh=>h.ne) (by simp),λm hm=>?_,λm hm=>?_,?_,λa ha=>?_,λi a hi d hd=>?_,λa ha=>?_⟩
 ·obtain ⟨i,fd,h1,h2⟩:=hmem m hm
  have h3:=Zpu h2
  obtain ⟨o,ho⟩:=h3.time
  exact ⟨h3.to.1,h3.to.2.1,h3.body,by rw[ho];exact ZLD _ _⟩
 ·obtain ⟨i,fd,h1,h2⟩:=hmem m hm
  have h3:=Zpu h2
  have hi:=(List.getElem?_eq_some_iff.1 h1).1
  have hfr:=h3.from'
  refine ⟨by omega,by omega,λh=>h3.to.2.2 (by rw[←h,hfr]),by have:=h3.seq.1;omega,λa ha=>?_⟩
  rw[hfr,Int.toNat_natCast] at ha
  unfold ZF4 at ha
  simp only[List.getElem?_map,h1,Option.map_some,Option.some.injEq] at ha
  rw[←ha]
  have:=h3.seq.2
  show m.key.Seq<(fd.Init.length:Int)
  omega
 ·have h1:=hp.length_eq
  have h2:=ZtB (ps:=wd.Parents) hw.n.2 (l:=wd.Feds) λf hf=>(hw.init f hf).1
  have h3:=hw.n.2
  show (putL [] (Zaz wd.Parents wd.Feds wd.Feds)).length≤256+24*0
  omega
 ·obtain ⟨f,hf,rfl⟩:=List.mem_map.1 ha
  have:=(hw.init f hf).1
  exact ⟨by simp,by show (f.Init.length:Int)≤4+3*(0:Nat);omega,by simp⟩
 ·have:=List.mem_of_getElem? hi
  obtain ⟨f,hf,rfl⟩:=List.mem_map.1 this
  simp at hd
 ·obtain ⟨f,hf,rfl⟩:=List.mem_map.1 ha
  exact List.Pairwise.nil
theorem ZKV {wd:Wd} {R R':RS} {d:Zak} (h:ZFO wd R=some (d,R')):∃m rest f a,R.wait=m::rest∧m.key.T<wd.End∧wd.Feds[m.To.toNat]?=some f∧R.feds[m.To.toNat]?=some a∧(d,R')=ZF5 wd f a m rest R:=by
 unfold ZFO at h
 split at h
 ·cases h
 ·rename_i m rest hw
  split at h
  ·cases h
  ·rename_i ht
   split at h
   ·rename_i f a hf ha
    injection h with h
    exact ⟨m,rest,f,a,hw,by omega,hf,ha,h.symm⟩
   ·cases h
theorem ZLs {wd:Wd} (hw:ZoS wd) {R R':RS} {k:Nat} {d:Zak} (hR:ZLP wd R k) (h:ZFO wd R=some (d,R')):ZLP wd R' (k+1):=by
 obtain ⟨m,rest,f,a,hwait,hT,hf,ha,heq⟩:=ZKV h
 have hfm:=List.mem_of_getElem? hf
 have ham:=List.mem_of_getElem? ha
 have hm:m∈R.wait:=by rw[hwait];simp
 obtain ⟨t1,t2,t3,t4⟩:=hR.to m hm
 obtain ⟨o1,o2⟩:=ZlA hw hfm a.st m.Class
 have hs:=hR.sorted
 rw[hwait] at hs
 obtain ⟨s1,s2⟩:=List.pairwise_cons.1 hs
 obtain ⟨a1,a2,a3⟩:=hR.sent a ham
 have hE:=hw.en.2
 have e2:R'=(ZF5 wd f a m rest R).2:=congrArg Prod.snd heq
 generalize hst:ZbY f.Rules a.st m.Class=so at o1 o2
 have hfeds:R'.feds=R.feds.set m.To.toNat ⟨so.1,a.sent+so.2.length,a.log++[⟨m,so.1⟩]⟩:=by rw[e2,←hst];rfl
 have hwt:R'.wait=putL rest (Zau wd.Parents wd.Feds m.To a.sent m.key.T m.Body so.2):=by rw[e2,←hst];rfl
 generalize hms:Zau wd.Parents wd.Feds m.To a.sent m.key.T m.Body so.2=ms at hwt
 have hby:∀y∈ms,ZCy wd.Feds m.To a.sent m.key.T so.2.length y:=λy hy=>Zpu (by rw[hms];exact hy)
 have htime:∀y∈ms,m.key.T<y.key.T:=by
  intro y hy
  rw[←hms] at hy
  obtain ⟨i,o,to,h1,_,rfl⟩:=Znf hy
  exact ZMl t4 (by omega) (o2 o (List.mem_of_getElem? h1)).2
 have hlt:∀y∈ms,MLt m y:=λy hy=>.inl (.inl (htime y hy))
 have hperm:=ZKK ms rest
 have hmem:∀y,y∈R'.wait→y∈ms∨y∈rest:=λy hy=>by
  rw[hwt] at hy
  exact List.mem_append.1 (hperm.mem_iff.1 hy)
 have hin:∀y∈rest,y∈R.wait:=λy hy=>by rw[hwait];simp[hy]
 have hTo:m.To.toNat<R.feds.length:=(List.getElem?_eq_some_iff.1 ha).1
 have hgetN:∀(i:Nat) b,R'.feds[i]?=some b→(i=m.To.toNat∧b=⟨so.1,a.sent+so.2.length,a.log++[⟨m,so.1⟩]⟩)∨(i≠m.To.toNat∧R.feds[i]?=some b):=by
  intro i b hb
  rw[hfeds] at hb
  by_cases hi:i=m.To.toNat
  ·subst hi
   rw[List.getElem?_set_self hTo] at hb
   exact .inl ⟨rfl,(Option.some.inj hb).symm⟩
  ·rw[List.getElem?_set_ne (λh=>hi h.symm)] at hb
   exact .inr ⟨hi,hb⟩
 have hmemN:∀b∈R'.feds,b=⟨so.1,a.sent+so.2.length,a.log++[⟨m,so.1⟩]⟩∨b∈R.feds:=by
  intro b hb
  obtain ⟨i,hi⟩:=List.getElem?_of_mem hb
  rcases hgetN i b hi with h | h
  ·exact .inl h.2
  ·exact .inr (List.mem_of_getElem? h.2)
 have hbig:∀x y,(∀z∈R.wait,MLt x z)→y∈R'.wait→MLt x y:=by
  intro x y hx hy
  rcases hmem y hy with hy | hy
  ·exact (hx m hm).trans (hlt y hy)
  ·exact hx y (hin y hy)
 refine ⟨by rw[hfeds,List.length_set];exact hR.len,?_,λy hy=>?_,λy hy=>?_,?_,λb hb=>?_,λi b hb d' hd=>?_,λb hb=>?_⟩
 ·rw[hwt]
  refine ZKA s2 (by rw[←hms];exact (ZKX _ _ _ _ _ _ _).imp λh=>h.ne) λx hx y hy=>?_
  rintro ⟨h1,h2⟩
  have h3:=hby y hy
  obtain ⟨p1,p2,p3,p4,p5⟩:=hR.src x (hin x hx)
  have h4:x.key.From=m.To:=by rw[h1];exact h3.from'
  have h5:=p5 a (by rw[h4];exact ha)
  have h6:=h3.seq.1
  rw[←h1] at h6
  omega
 ·rcases hmem y hy with hy | hy
  ·have h3:=hby y hy
   obtain ⟨o,ho⟩:=h3.time
   exact ⟨h3.to.1,h3.to.2.1,h3.body,by rw[ho];exact ZLD _ _⟩
  ·exact hR.to y (hin y hy)
 ·rcases hmem y hy with hy | hy
  ·have h3:=hby y hy
   have hfr:=h3.from'
   refine ⟨by omega,by omega,λh=>h3.to.2.2 (by rw[←h,hfr]),by have:=h3.seq.1;omega,λb hb=>?_⟩
   rw[hfr] at hb
   rcases hgetN _ b hb with h | h
   ·rw[h.2];exact h3.seq.2
   ·exact absurd rfl h.1
  ·obtain ⟨p1,p2,p3,p4,p5⟩:=hR.src y (hin y hy)
   refine ⟨p1,p2,p3,p4,λb hb=>?_⟩
   rcases hgetN _ b hb with h | h
   ·have h5:=p5 a (by rw[h.1];exact ha)
    rw[h.2]
    show y.key.Seq<a.sent+so.2.length
    omega
   ·exact p5 b h.2
 ·have h1:=hperm.length_eq
  rw[List.length_append] at h1
  have h2:=ZcU wd.Parents wd.Feds m.To a.sent m.key.T m.Body so.2
  rw[hms] at h2
  have h3:so.2.length*wd.Feds.length≤3*8:=Nat.mul_le_mul o1 hw.n.2
  have h4:=hR.cnt
  rw[hwait,List.length_cons] at h4
  rw[hwt]
  omega
 ·rcases hmemN b hb with rfl | hb
  ·exact ⟨by show 0≤a.sent+so.2.length;omega,by show a.sent+so.2.length≤4+3*(k+1:Nat);omega,by simp;omega⟩
  ·obtain ⟨b1,b2,b3⟩:=hR.sent b hb
   exact ⟨b1,by omega,by omega⟩
 ·rcases hgetN i b hb with ⟨rfl,rfl⟩ | ⟨hi,hb⟩
  ·rcases List.mem_append.1 hd with hd | hd
   ·obtain ⟨q1,q2,q3⟩:=hR.logs _ a ha d' hd
    exact ⟨q1,λy hy=>hbig _ y q2 hy,q3⟩
   ·rw[List.mem_singleton.1 hd]
    refine ⟨by show m.To=((m.To.toNat:Nat):Int);omega,λy hy=>?_,hT⟩
    rcases hmem y hy with hy | hy
    ·exact hlt y hy
    ·exact s1 y hy
  ·obtain ⟨q1,q2,q3⟩:=hR.logs i b hb d' hd
   exact ⟨q1,λy hy=>hbig _ y q2 hy,q3⟩
 ·rcases hmemN b hb with rfl | hb
  ·rw[List.pairwise_append]
   refine ⟨hR.inc a ham,List.pairwise_singleton _ _,λx hx y hy=>?_⟩
   rw[List.mem_singleton.1 hy]
   exact (hR.logs _ a ha x hx).2.1 m hm
  ·exact hR.inc b hb
theorem ZKW {wd:Wd} {R:RS} (h:R.wait=[]∨∃m rest,R.wait=m::rest∧wd.End≤m.key.T):ZFO wd R=none:=by
 unfold ZFO
 rcases h with h | ⟨m,rest,h,ht⟩
 ·rw[h]
 ·rw[h]
  simp[ht]
theorem ZLx {wd:Wd} {R:RS} {m:Msg} {rest:List Msg} {f:Fed} {a:FA} (h:R.wait=m::rest) (ht:m.key.T<wd.End) (hf:wd.Feds[m.To.toNat]?=some f) (ha:R.feds[m.To.toNat]?=some a):ZFO wd R=some (ZF5 wd f a m rest R):=by
 unfold ZFO
 rw[h]
 simp only[if_neg (show ¬wd.End≤m.key.T by omega),hf,ha]
def Zul (wd:Wd):Nat→RS→Nat × RS
 | 0,R=>(0,R)
 | n+1,R=>match ZFO wd R with
  | none=>(0,R)
  | some x=>((Zul wd n x.2).1+1,(Zul wd n x.2).2)
end Go.Proofs.YtkpdpddmaoablaaGreat
end
section
namespace Go.Proofs.YtkpdpddmaoablaaGreat
open Go Go.E
set_option maxRecDepth 100000
structure Clk where
 (L:List Int) (self:Int) (told:Int)
def Clk.okJ (c:Clk) (j:Int):Prop:=0≤j∧j<c.L.length∧j≠c.self
instance (c:Clk) (j:Int):Decidable (c.okJ j):=inferInstanceAs (Decidable (_∧_))
def Clk.get (c:Clk) (j:Int):Int:=c.L.getD j.toNat 0
def Clk.at' (c:Clk) (j:Int):Int:=if c.okJ j then c.get j else -1
def Clk.hearE (c:Clk) (j t:Int):Int:=if ¬c.okJ j∨Yu t=false then 1 else if t<c.get j then 110 else 0
def Clk.hear (c:Clk) (j t:Int):Clk:=if c.hearE j t=0 then ⟨c.L.set j.toNat t,c.self,c.told⟩ else c
def Clk.bound (c:Clk):Int:=(List.range c.L.length).foldl (λ(n:Int) (j:Nat)=>if (j:Int)=c.self then n else min n (c.get j)) Inf
def Clk.tellT (c:Clk) (first look:Int):Int:=ZvS (ZaP [first,c.bound]) look
def Clk.tell (c:Clk) (first look:Int):Clk:=if c.tellT first look≤c.told then c else ⟨c.L,c.self,c.tellT first look⟩
def Clk.tellB (c:Clk) (first look:Int):Bool:=decide (c.told<c.tellT first look)
theorem Clk.hearE_bad {c:Clk} {j t:Int} (h:¬c.okJ j∨Yu t=false):c.hearE j t=1:=if_pos h
theorem Clk.hearE_early {c:Clk} {j t:Int} (h:c.okJ j) (hv:Yu t=true) (h1:t<c.get j):c.hearE j t=110:=by
 unfold Clk.hearE
 rw[if_neg (by simp[h,hv]),if_pos h1]
theorem Clk.hearE_ok {c:Clk} {j t:Int} (h:c.okJ j) (hv:Yu t=true) (h1:¬t<c.get j):c.hearE j t=0:=by
 unfold Clk.hearE
 rw[if_neg (by simp[h,hv]),if_neg h1]
theorem Clk.hear_bad {c:Clk} {j t:Int} (h:¬c.okJ j∨Yu t=false):c.hear j t=c:=by
 unfold Clk.hear
 rw[hearE_bad h,if_neg (by decide)]
theorem Clk.hear_early {c:Clk} {j t:Int} (h:c.okJ j) (hv:Yu t=true) (h1:t<c.get j):c.hear j t=c:=by
 unfold Clk.hear
 rw[hearE_early h hv h1,if_neg (by decide)]
theorem Clk.hear_ok {c:Clk} {j t:Int} (h:c.okJ j) (hv:Yu t=true) (h1:¬t<c.get j):c.hear j t=⟨c.L.set j.toNat t,c.self,c.told⟩:=by
 unfold Clk.hear
 rw[hearE_ok h hv h1,if_pos rfl]
def Clk.IsBound (c:Clk) (b:Int):Prop:=b≤Inf∧(∀j,c.okJ j→b≤c.get j)∧(b=Inf∨∃j,c.okJ j∧b=c.get j)
theorem Clk.IsBound.uniq {c:Clk} {a b:Int} (ha:c.IsBound a) (hb:c.IsBound b):a=b:=by
 obtain ⟨a1,a2,a3⟩:=ha
 obtain ⟨b1,b2,b3⟩:=hb
 have h1:a≤b:=by
  rcases b3 with rfl | ⟨j,hj,rfl⟩
  ·exact a1
  ·exact a2 j hj
 have h2:b≤a:=by
  rcases a3 with rfl | ⟨j,hj,rfl⟩
  ·exact b1
  ·exact b2 j hj
 omega
def Clk.upTo (c:Clk) (n:Nat):Int:=(List.range n).foldl (λ(n:Int) (j:Nat)=>if (j:Int)=c.self then n else min n (c.get j)) Inf
theorem Clk.upTo_succ (c:Clk) (n:Nat):c.upTo (n+1)=if (n:Int)=c.self then c.upTo n else min (c.upTo n) (c.get n):=by
 simp only[Clk.upTo,List.range_succ,List.foldl_append,List.foldl_cons,List.foldl_nil]
theorem Clk.upTo_spec (c:Clk):∀n:Nat,n≤c.L.length→c.upTo n≤Inf∧(∀j,c.okJ j→j<n→c.upTo n≤c.get j)∧(c.upTo n=Inf∨∃j,c.okJ j∧c.upTo n=c.get j)
 | 0,_=>⟨Int.le_refl _,λj hj hl=>by have:=hj.1;omega,.inl (by rfl)⟩
 | n+1,hn=>by
  obtain ⟨h1,h2,h3⟩:=c.upTo_spec n (by omega)
  rw[c.upTo_succ]
  split
  ·rename_i hs
   refine ⟨h1,λj hj hl=>h2 j hj ?_,h3⟩
   have:=hj.2.2
   omega
  ·rename_i hs
   refine ⟨by omega,λj hj hl=>?_,?_⟩
   ·by_cases hjn:j=n
    ·subst hjn;omega
    ·have:=h2 j hj (by omega);omega
   ·by_cases hm:c.upTo n≤c.get n
    ·rw[Int.min_eq_left hm];exact h3
    ·rw[Int.min_eq_right (by omega)]
     exact .inr ⟨n,⟨by omega,by omega,hs⟩,rfl⟩
theorem Clk.bound_is (c:Clk):c.IsBound c.bound:=by
 obtain ⟨h1,h2,h3⟩:=c.upTo_spec c.L.length (Nat.le_refl _)
 exact ⟨h1,λj hj=>h2 j hj hj.2.1,h3⟩
def kI:Int→Value:=λn=>.int .i64 n
def Zpv (c:Clk) (m:List (Int × Int)):Prop:=Znz m∧∀j,lkA m j=if c.okJ j then some (c.get j) else none
def Zbv (g:Nat) (c:Clk):HP:=hex λp:Nat × List (Int × Int)=>Yh [blk g 172 [.map (some p.1),.int .i64 c.told],Zaj kI kI p.1 p.2,pur (Zpv c p.2)]
variable {e w:World} {R:List HP} {K:KV}
theorem Zpv.mem {c:Clk} {m:List (Int × Int)} (h:Zpv c m) {p:Int × Int}:p∈m↔c.okJ p.1∧p.2=c.get p.1:=by
 have hk:=h.2 p.1
 constructor
 ·intro hp
  have hf:lkA m p.1=some p.2:=by
   unfold lkA
   rw[ZlB h.1 hp]
   rfl
  rw[hf] at hk
  by_cases ho:c.okJ p.1
  ·rw[if_pos ho] at hk
   exact ⟨ho,Option.some.inj hk⟩
  ·rw[if_neg ho] at hk
   cases hk
 ·rintro ⟨ho,he⟩
  rw[if_pos ho] at hk
  unfold lkA at hk
  obtain ⟨q,hq,hv⟩:=Option.map_eq_some_iff.1 hk
  have h1:=List.mem_of_find?_eq_some hq
  have h2:=List.find?_some hq
  simp only[decide_eq_true_eq] at h2
  have:q=p:=by cases q;cases p;simp_all
  exact this▸h1
theorem Zpv.step {c:Clk} {m:List (Int × Int)} (h:Zpv c m) {j t:Int} (hj:c.okJ j) (told:Int):Zpv ⟨c.L.set j.toNat t,c.self,told⟩ (upA m j t):=by
 refine ⟨h.1.up j t,λi=>?_⟩
 rw[ZiY h.1]
 have hok:∀i,Clk.okJ ⟨c.L.set j.toNat t,c.self,told⟩ i↔c.okJ i:=λi=>by simp[Clk.okJ]
 have hlt:j.toNat<c.L.length:=by have:=hj.2.1;have:=hj.1;omega
 by_cases hij:i=j
 ·subst hij
  rw[if_pos rfl,if_pos ((hok _).2 hj)]
  simp[Clk.get,List.getD_eq_getElem?_getD,hlt]
 ·rw[if_neg hij,h.2 i]
  by_cases ho:c.okJ i
  ·rw[if_pos ho,if_pos ((hok _).2 ho)]
   have hne:j.toNat≠i.toNat:=by have:=ho.1;have:=hj.1;omega
   simp[Clk.get,List.getD_eq_getElem?_getD,hne]
  ·rw[if_neg ho,if_neg (λk=>ho ((hok _).1 k))]
theorem Zbv.open {g:Nat} {c:Clk} (hS:Sat e w (Zbv g c::R)):∃b m,Zpv c m∧Sat e w (blk g 172 [.map (some b),.int .i64 c.told]::Zaj kI kI b m::R):=by
 obtain ⟨⟨b,m⟩,h0⟩:=hS.ex
 have h1:=h0.split
 have h2:=h1.pick 2 rfl
 obtain ⟨h3,h4⟩:=h2.pure
 exact ⟨b,m,h3,h4⟩
theorem Zbv.close {g b:Nat} {c:Clk} {m:List (Int × Int)} (h:Zpv c m) (hS:Sat e w (blk g 172 [.map (some b),.int .i64 c.told]::Zaj kI kI b m::R)):Sat e w (Zbv g c::R):=by
 refine .mk_ex (b,m) (.join (l':=[_,_,_]) ?_)
 exact (Sat.mk_pure h hS).selR [_,_,_] [_,_,_] [1,2,0] (by decide) rfl
theorem ZqU {n:Nat} {self:Int} (h1:1≤n) (h2:n≤8) (h3:0≤self) (h4:self<n) (hS:Sat e w R)
  (hk:∀g w',Sat e w' (Zbv g ⟨List.replicate n 0,self,0⟩::R)→K (.tuple #[.pointer (some ⟨g,0,none⟩),.int .i64 0]) w'):Cl prog 42 #[.int .i64 n,.int .i64 self] w K:=by
 refine Zlo ?_
 unfold ZpA
 refine Ze7 (by omega) (Zj (Ze (Zle (by omega) (Yd (Zj (Ze (Ze7 (by omega) (Yd (Zj (Zj (Ze (ZnR (by omega) (Yd (Zf ?_))))))))))))))
 refine Zfx kI kI hS λb w1 hm=>?_
 rw[ZQg]
 refine Zaf [.map (some b),.int .i64 0] (by rfl) ?_
 refine Yp (cs:=[.map (some b),.int .i64 0]) hm rfl λg w2 hg=>?_
 refine lp1 (λt27 w=>∃j:Nat,j≤n∧t27=.int .i64 j∧∃m:List (Int × Int),(Znz m∧∀i,lkA m i=if 0≤i∧i<(j:Int)∧i≠self then some 0 else none)∧
  Sat e w (blk g 172 [.map (some b),.int .i64 0]::Zaj kI kI b m::R)) (λt27 _=>n - nOf t27) ⟨0,Nat.zero_le _,rfl,[],⟨List.Pairwise.nil,λi=>?_⟩,hg⟩ ?_
 ·rw[if_neg (by omega)];rfl
 rintro _ w g1 ⟨j,hj,rfl,m,⟨hu,hl⟩,h0⟩ hg
 refine Za7 (λc=>?_) (λc=>?_)
 ·refine Zi ?_
  refine J0.cut (λw=>∃m:List (Int × Int),(Znz m∧∀i,lkA m i=if 0≤i∧i<((j+1:Nat):Int)∧i≠self then some 0 else none)∧Sat e w (blk g 172 [.map (some b),.int .i64 0]::Zaj kI kI b m::R)) (λk hcut=>?_) (λw hA=>?_)
  ·refine ZrP (λc2=>?_) (λc2=>?_)
   ·refine Zi (Zh (Za ?_))
    refine Zb h0 0 rfl rfl ?_
    refine ZsG ZNS ZNU hu h0.swap (j:Int) (0:Int) (vf:=kI) rfl λw3 h3=>?_
    refine hcut _ ⟨upA m j 0,⟨hu.up _ _,λi=>?_⟩,h3.swap⟩
    rw[ZiY hu,hl]
    by_cases hij:i=j
    ·subst hij
     rw[if_pos rfl,if_pos (by omega)]
    ·rw[if_neg hij]
     by_cases hq:0≤i∧i<(j:Int)∧i≠self
     ·rw[if_pos hq,if_pos (by omega)]
     ·rw[if_neg hq,if_neg (by omega)]
   ·refine Zf (hcut _ ⟨m,⟨hu,λi=>?_⟩,h0⟩)
    rw[hl]
    by_cases hq:0≤i∧i<(j:Int)∧i≠self
    ·rw[if_pos hq,if_pos (by omega)]
    ·rw[if_neg hq,if_neg (by omega)]
  ·obtain ⟨m',hm',h3⟩:=hA
   refine Yr (by omega) ?_
   exact hg _ _ ⟨j+1,by omega,rfl,m',hm',h3⟩ (by simp[nOf];omega)
 ·refine Zf (hk _ _ (Zbv.close (m:=m) ⟨hu,λi=>?_⟩ h0))
  obtain rfl:j=n:=by omega
  rw[hl]
  have:(Clk.okJ ⟨List.replicate j 0,self,0⟩ i)↔(0≤i∧i<(j:Int)∧i≠self):=by simp[Clk.okJ]
  by_cases hq:0≤i∧i<(j:Int)∧i≠self
  ·rw[if_pos hq,if_pos (this.2 hq)]
   simp only[Clk.get,List.getD_eq_getElem?_getD,List.getElem?_replicate]
   split <;> rfl
  ·rw[if_neg hq,if_neg (λk=>hq (this.1 k))]
theorem ZsP {g:Nat} {c:Clk} {j:Int} (hS:Sat e w (Zbv g c::R)) (hk:K (.int .i64 (c.at' j)) w):Cl prog 197 #[.pointer (some ⟨g,0,none⟩),.int .i64 j] w K:=by
 obtain ⟨b,m,hm,h1⟩:=Zbv.open hS
 refine ZfS ?_
 unfold ZfH
 refine Zh (Za ?_)
 refine Zb h1 0 rfl rfl ?_
 refine ZsE ZNS ZNU h1 1 rfl j ?_
 rw[hm.2 j]
 unfold Clk.at' at hk
 by_cases ho:c.okJ j
 ·rw[if_pos ho] at hk ⊢
  exact Zid rfl (Zid rfl (Zi hk))
 ·rw[if_neg ho] at hk ⊢
  exact Zid rfl (Zid rfl (Zf hk))
theorem ZpD {g:Nat} {c:Clk} {j t:Int} (ht:ZmY t) (hS:Sat e w (Zbv g c::R)) (hk:∀w',Sat e w' (Zbv g (c.hear j t)::R)→K (.int .i64 (c.hearE j t)) w'):Cl prog 196 #[.pointer (some ⟨g,0,none⟩),.int .i64 j,.int .i64 t] w K:=by
 obtain ⟨b,m,hm,h1⟩:=Zbv.open hS
 refine Zeg ?_
 unfold Zd3
 refine Zh (Za ?_)
 refine Zb h1 0 rfl rfl ?_
 refine ZsE ZNS ZNU h1 1 rfl j ?_
 rw[hm.2 j]
 by_cases ho:c.okJ j
 ·rw[if_pos ho]
  refine Zid rfl (Zid rfl (ZaJ (Zj (Zj (ZcO ht (Zj ?_))))))
  cases hv:Yu t with
  | false=>
   rw[Clk.hear_bad (Or.inr hv),Clk.hearE_bad (Or.inr hv)] at hk
   exact Zch (Yd (Zi (hk _ hS)))
  | true=>
   refine ZaJ (Yd (Zf ?_))
   refine Za7 (λc1=>?_) (λc1=>?_)
   ·rw[Clk.hear_early ho hv c1,Clk.hearE_early ho hv c1] at hk
    exact Zi (hk _ hS)
   ·rw[Clk.hear_ok ho hv c1,Clk.hearE_ok ho hv c1] at hk
    refine Zf (Zh (Za ?_))
    refine Zb h1 0 rfl rfl ?_
    refine ZsG ZNS ZNU hm.1 h1.swap j t (vf:=kI) rfl λw3 h3=>?_
    exact hk _ (Zbv.close (c:=⟨c.L.set j.toNat t,c.self,c.told⟩) (hm.step ho c.told) h3.swap)
 ·rw[if_neg ho]
  rw[Clk.hear_bad (Or.inl ho),Clk.hearE_bad (Or.inl ho)] at hk
  refine Zid rfl (Zid rfl (Zch (Zd (Zd (Zd (Yv (Zi ?_)))))))
  exact hk _ hS
theorem ZmM {b:Nat} {a t:Int} (hS:Sat e w (blk b 3 [.int .i64 a]::R)) (hk:∀w',Sat e w' (blk b 3 [.int .i64 (min a t)]::R)→K (.tuple #[]) w'):Cl prog 203 #[.int .i64 t,.pointer (some ⟨b,0,none⟩)] w K:=by
 refine Zda ?_
 unfold ZcJ
 refine Zb hS 0 rfl rfl ?_
 refine Zty ?_
 refine Zq hS 0 rfl (vs:=[.int .i64 (min a t)]) rfl rfl (by simp) (by simp[flat]) (cs':=[.int .i64 (min a t)]) (by rfl) λw' h'=>?_
 exact hk _ h'
theorem Zjs {g:Nat} {c:Clk} (hS:Sat e w (Zbv g c::R)) (hk:∀w',Sat e w' (Zbv g c::R)→K (.int .i64 c.bound) w'):Cl prog 182 #[.pointer (some ⟨g,0,none⟩)] w K:=by
 obtain ⟨b,m,hm,h1⟩:=Zbv.open hS
 refine ZdW ?_
 unfold Zdp
 rw[Zr6]
 refine Yp (cs:=[.int .i64 0]) h1 rfl λx w2 h2=>?_
 refine Zq h2 0 rfl (vs:=[.int .i64 Inf]) rfl rfl (by simp) (by simp[flat]) (cs':=[.int .i64 Inf]) (by rfl) λw3 h3=>?_
 refine Zh (Za ?_)
 refine Zb h3 1 rfl rfl ?_
 refine ZB0 ZOW (h3.pick 2 rfl) λr w4 h4=>?_
 refine ZG9 (λn w=>∃(a:Int) (rem:List (Int × Int)) (cur:Option (Int × Int)),Sat e w (ZwS kI kI b r m rem cur::blk x 3 [.int .i64 a]::blk g 172 [.map (some b),.int .i64 c.told]::R)∧
  a≤Inf∧(∀p∈m,p∈rem∨a≤p.2)∧(∀p∈rem,p∈m)∧(a=Inf∨∃p∈m,a=p.2)∧n=rem.length) m.length ⟨Inf,m,none,h4,Int.le_refl _,λp hp=>.inl hp,λp hp=>hp,.inl rfl,rfl⟩ ?_
 rintro n w g1 ⟨a,rem,cur,h5,i1,i2,i3,i4,rfl⟩ hg
 refine ZBW h5 (λhr w6 h6=>?_) (λi p w6 hp h6=>?_)
 ·refine Zid rfl (Zf ?_)
  refine Zb h6 1 rfl rfl ?_
  have hb:a=c.bound:=by
   refine Clk.IsBound.uniq ⟨i1,λj hj=>?_,?_⟩ c.bound_is
   ·rcases i2 (j,c.get j) (hm.mem.2 ⟨hj,rfl⟩) with h | h
    ·rw[hr] at h;cases h
    ·exact h
   ·rcases i4 with h | ⟨p,hp,h⟩
    ·exact .inl h
    ·have:=hm.mem.1 hp
     exact .inr ⟨p.1,this.1,h.trans this.2⟩
  subst hb
  refine hk _ (Zbv.close (b:=b) hm ?_)
  have h7:=h6.imp Zsr
  exact h7.selR [_,_,_] [_,_] [2,0] (by decide) rfl
 ·refine Zid rfl (Zi ?_)
  refine ZCg 0 h6 rfl ?_
  refine Zid rfl ?_
  refine ⟨_,_,_,rfl,ZmM (h6.swap) λw7 h7=>?_⟩
  have hil:=(List.getElem?_eq_some_iff.1 hp).1
  have hpm:p∈rem:=List.mem_of_getElem? hp
  refine hg _ _ ?_ ⟨min a p.2,rem.eraseIdx i,some p,h7.swap,by omega,λq hq=>?_,λq hq=>i3 q (List.mem_of_mem_eraseIdx hq),?_,rfl⟩
  ·rw[List.length_eraseIdx_of_lt hil];omega
  ·rcases i2 q hq with h | h
   ·rw[List.mem_eraseIdx_iff_getElem?]
    obtain ⟨k,hk',hqk⟩:=List.getElem_of_mem h
    by_cases hki:k=i
    ·subst hki
     rw[List.getElem?_eq_getElem hk',hqk] at hp
     cases hp
     exact .inr (by omega)
    ·exact .inl ⟨k,hki,by rw[List.getElem?_eq_getElem hk',hqk]⟩
   ·exact .inr (by omega)
  ·by_cases hm2:a≤p.2
   ·rw[Int.min_eq_left hm2];exact i4
   ·rw[Int.min_eq_right (by omega)]
    exact .inr ⟨p,i3 p hpm,rfl⟩
theorem Zp8 {g:Nat} {c:Clk} {first look:Int} (hS:Sat e w (Zbv g c::R)) (hk:∀w',Sat e w' (Zbv g (c.tell first look)::R)→K (.tuple #[.int .i64 (c.tell first look).told,.bool (c.tellB first look)]) w') :
  Cl prog 202 #[.pointer (some ⟨g,0,none⟩),.int .i64 first,.int .i64 look] w K:=by
 refine Zem ?_
 unfold ZdP
 refine Zjs hS λw1 h1=>?_
 refine Zfk [.int .i64 first,.int .i64 c.bound] h1 (by rw[Zr6];kernel_rfl) λb w2 h2=>?_
 refine Zeu (l:=[first,c.bound]) h2 (Zbx (size:=1) (f:=Ye .i64) [first,c.bound] rfl (Nat.le_refl _)) (by simp) λw3 h3=>?_
 refine ZhT ?_
 obtain ⟨m,x,hm,h4⟩:=Zbv.open h3.drop
 refine Zh (Za ?_)
 refine Zb h4 0 rfl rfl ?_
 refine ZFH (λc1=>?_) (λc1=>?_)
 ·refine Zi (Zh (Za ?_))
  refine Zb h4 0 rfl rfl ?_
  have h5:c.tell first look=c:=if_pos c1
  have h6:c.tellB first look=false:=decide_eq_false (show ¬c.told<c.tellT first look from by have:c.tellT first look≤c.told:=c1;omega)
  rw[h5,h6] at hk
  exact hk _ h3.drop
 ·have h5:c.tell first look=⟨c.L,c.self,c.tellT first look⟩:=if_neg c1
  have h6:c.tellB first look=true:=decide_eq_true (show c.told<c.tellT first look from by have:¬c.tellT first look≤c.told:=c1;omega)
  rw[h5,h6] at hk
  refine Zf (Zh (Za ?_))
  refine Zq h4 0 rfl (vs:=[.int .i64 (c.tellT first look)]) rfl rfl (by simp) (by simp[flat]) (cs':=[.map (some m),.int .i64 (c.tellT first look)]) (by rfl) λw5 h5=>?_
  exact hk _ (Zbv.close (c:=⟨c.L,c.self,c.tellT first look⟩) (m:=x) ⟨hm.1,hm.2⟩ h5)
end Go.Proofs.YtkpdpddmaoablaaGreat
end
section
namespace Go.Proofs.YtkpdpddmaoablaaGreat
open Go Go.E
set_option maxRecDepth 100000
variable {e w:World} {R:List HP} {K:KV}
theorem ZtS {t:Int} (h0:0≤t) (h1:t≤Zsq):ZaD t=t:=by unfold ZaD;rw[if_neg (by omega),if_neg (by omega)]
structure Zbs where
 (Kind A B:Int)
 deriving DecidableEq
def Zbs.ns (s:Zbs):List Int:=[s.Kind,s.A,s.B]
abbrev Zbs.cs (s:Zbs):List Value:=Yi s.ns
def Zbs.of (l:List Int):Zbs:=⟨l.getD 0 0,l.getD 1 0,l.getD 2 0⟩
end Go.Proofs.YtkpdpddmaoablaaGreat
namespace Go.Proofs.YtkpdpddmaoablaaGreat
open Go Go.E
set_option maxRecDepth 100000
variable {e w:World} {R:List HP} {K:KV}
def Clk.Good (c:Clk):Prop:=∀x∈c.L,0≤x∧x≤Inf
theorem ZlM {t:Int} (h:Yu t=true):0≤t∧t≤Inf:=by
 simp only[Yu,decide_eq_true_eq] at h
 unfold Inf Zsq at*
 omega
theorem Clk.Good.get {c:Clk} (h:c.Good) {j:Int} (hj:c.okJ j):0≤c.get j∧c.get j≤Inf:=by
 refine h _ ?_
 have hl:j.toNat<c.L.length:=by have:=hj.1;have:=hj.2.1;omega
 unfold Clk.get
 rw[List.getD_eq_getElem?_getD,List.getElem?_eq_getElem hl]
 exact List.getElem_mem hl
theorem Clk.hear_cases (c:Clk) (j t:Int):(c.hearE j t≠0∧c.hear j t=c)∨(c.okJ j∧Yu t=true∧¬t<c.get j∧c.hearE j t=0∧c.hear j t=⟨c.L.set j.toNat t,c.self,c.told⟩):=by
 by_cases h:¬c.okJ j∨Yu t=false
 ·exact .inl ⟨by rw[Clk.hearE_bad h];decide,Clk.hear_bad h⟩
 ·have ho:c.okJ j:=by by_cases k:c.okJ j;exact k;exact absurd (Or.inl k) h
  have hv:Yu t=true:=by cases k:Yu t;exact absurd (Or.inr k) h;rfl
  by_cases h1:t<c.get j
  ·exact .inl ⟨by rw[Clk.hearE_early ho hv h1];decide,Clk.hear_early ho hv h1⟩
  ·exact .inr ⟨ho,hv,h1,Clk.hearE_ok ho hv h1,Clk.hear_ok ho hv h1⟩
theorem Clk.Good.hear {c:Clk} (h:c.Good) (j t:Int):(c.hear j t).Good:=by
 rcases c.hear_cases j t with ⟨_,h1⟩ | ⟨_,hv,_,_,h1⟩
 ·rw[h1];exact h
 ·rw[h1]
  intro x hx
  rcases List.mem_or_eq_of_mem_set hx with hx | rfl
  ·exact h x hx
  ·exact ZlM hv
theorem Clk.hear_len (c:Clk) (j t:Int):(c.hear j t).L.length=c.L.length:=by
 rcases c.hear_cases j t with ⟨_,h1⟩ | ⟨_,_,_,_,h1⟩ <;> simp[h1]
theorem Clk.hear_self (c:Clk) (j t:Int):(c.hear j t).self=c.self:=by
 rcases c.hear_cases j t with ⟨_,h1⟩ | ⟨_,_,_,_,h1⟩ <;> simp[h1]
theorem Clk.hear_told (c:Clk) (j t:Int):(c.hear j t).told=c.told:=by
 rcases c.hear_cases j t with ⟨_,h1⟩ | ⟨_,_,_,_,h1⟩ <;> simp[h1]
end Go.Proofs.YtkpdpddmaoablaaGreat
end
section
namespace Go.Proofs.YtkpdpddmaoablaaGreat
open Go Go.E
set_option maxRecDepth 100000
variable {e w:World} {R:List HP} {K:KV}
def kfK (k:Key):Value:=.agg k.cs.toArray
def vfN (n:Nat):Value:=.int .i64 (n:Int)
theorem Zgm:ZvT prog 38 kfK:=
 Zr0 (κ:=Key) (ns:=Key.ns) (n:=6) Tryz.underlying38 ZPy ZPC (by decide) (λ_=>rfl) Key.eq_ns (λb k w=>by cases b <;> kernel_rfl)
structure Znp (m:List (Key × Nat)) (l:List Msg):Prop where
 u:Znz m
 ok:∀(k:Key) (i:Nat),lkA m k=some i↔∃x,l[i]?=some x∧x.key=k
theorem Znp.nil:Znp [] []:=⟨List.nodup_nil,λk i=>by simp[lkA]⟩
theorem Znp.inj {m:List (Key × Nat)} {l:List Msg} (h:Znp m l) {i j:Nat} {x y:Msg} (hx:l[i]?=some x) (hy:l[j]?=some y) (hk:x.key=y.key):i=j:=by
 have h1:=(h.ok x.key i).2 ⟨x,hx,rfl⟩
 have h2:=(h.ok x.key j).2 ⟨y,hy,hk.symm⟩
 rw[h1] at h2
 injection h2
theorem Znp.has {m:List (Key × Nat)} {l:List Msg} (h:Znp m l) (k:Key):(lkA m k).isSome=true↔∃x∈l,x.key=k:=by
 constructor
 ·intro hs
  obtain ⟨i,hi⟩:=Option.isSome_iff_exists.1 hs
  obtain ⟨x,hx,hk⟩:=(h.ok k i).1 hi
  exact ⟨x,List.mem_of_getElem? hx,hk⟩
 ·rintro ⟨x,hx,hk⟩
  obtain ⟨i,hi⟩:=List.mem_iff_getElem?.1 hx
  rw[(h.ok k i).2 ⟨x,hi,hk⟩]
  rfl
theorem Znp.push {m:List (Key × Nat)} {l:List Msg} (h:Znp m l) {x:Msg} (hx:∀y∈l,y.key≠x.key):Znp (upA m x.key l.length) (l++[x]):=by
 refine ⟨h.u.up _ _,λk i=>?_⟩
 rw[ZiY h.u]
 by_cases hk:k=x.key
 ·rw[if_pos hk]
  constructor
  ·intro hi
   injection hi with hi
   subst hi
   exact ⟨x,by simp,hk.symm⟩
  ·rintro ⟨y,hy,hyk⟩
   by_cases hil:i<l.length
   ·rw[List.getElem?_append_left hil] at hy
    exact absurd (hyk.trans hk) (hx y (List.mem_of_getElem? hy))
   ·have hle:=(List.getElem?_eq_some_iff.1 hy).1
    rw[List.length_append] at hle
    simp only[List.length_cons,List.length_nil] at hle
    rw[show i=l.length by omega]
 ·rw[if_neg hk,h.ok k i]
  constructor
  ·rintro ⟨y,hy,hyk⟩
   exact ⟨y,by rw[List.getElem?_append_left (List.getElem?_eq_some_iff.1 hy).1];exact hy,hyk⟩
  ·rintro ⟨y,hy,hyk⟩
   by_cases hil:i<l.length
   ·rw[List.getElem?_append_left hil] at hy
    exact ⟨y,hy,hyk⟩
   ·have hle:=(List.getElem?_eq_some_iff.1 hy).1
    rw[List.length_append] at hle
    simp only[List.length_cons,List.length_nil] at hle
    rw[show i=l.length by omega] at hy
    have:y=x:=by simpa using hy.symm
    rw[this] at hyk
    exact absurd hyk.symm hk
def ZeZ (l:List Msg) (i k:Nat) (x y:Msg):List Msg:=(l.set i y).set k x
theorem Zcx (l:List Msg) (i k:Nat) (x y:Msg):(ZeZ l i k x y).length=l.length:=by simp[ZeZ]
theorem ZaL {l:List Msg} {i k:Nat} {x y:Msg} (hx:l[i]?=some x) (hy:l[k]?=some y) (n:Nat):(ZeZ l i k x y)[n]?=if n=k then some x else if n=i then some y else l[n]?:=by
 have hi:=(List.getElem?_eq_some_iff.1 hx).1
 have hk:=(List.getElem?_eq_some_iff.1 hy).1
 unfold ZeZ
 rw[List.getElem?_set]
 by_cases h:k=n
 ·subst h;simp[hk]
 ·have h':¬n=k:=λe=>h e.symm
  rw[if_neg h,if_neg h',List.getElem?_set]
  by_cases h2:i=n
  ·subst h2;simp[hi]
  ·have h2':¬n=i:=λe=>h2 e.symm
   rw[if_neg h2,if_neg h2']
theorem Znp.swap {m:List (Key × Nat)} {l:List Msg} (h:Znp m l) {i k:Nat} {x y:Msg} (hx:l[i]?=some x) (hy:l[k]?=some y):Znp (upA (upA m y.key i) x.key k) (ZeZ l i k x y):=by
 have u1:=h.u.up y.key i
 refine ⟨u1.up _ _,λq n=>?_⟩
 rw[ZiY u1,ZiY h.u,ZaL hx hy]
 by_cases h1:q=x.key
 ·rw[if_pos h1]
  constructor
  ·intro hn
   injection hn with hn
   subst hn
   exact ⟨x,by rw[if_pos rfl],h1.symm⟩
  ·rintro ⟨z,hz,hzk⟩
   split at hz
   ·rename_i e;rw[e]
   ·split at hz
    ·rename_i e1 e2
     injection hz with hz
     subst hz
     have:=h.inj hx hy (by rw[hzk,h1])
     omega
    ·rename_i e1 e2
     have:=h.inj hz hx (by rw[hzk,h1])
     omega
 ·rw[if_neg h1]
  by_cases h2:q=y.key
  ·rw[if_pos h2]
   constructor
   ·intro hn
    injection hn with hn
    subst hn
    refine ⟨y,?_,h2.symm⟩
    by_cases hik:i=k
    ·subst hik
     rw[hx] at hy
     injection hy with hy
     subst hy
     exact absurd h2 h1
    ·rw[if_neg hik,if_pos rfl]
   ·rintro ⟨z,hz,hzk⟩
    split at hz
    ·injection hz with hz
     subst hz
     exact absurd hzk.symm h1
    ·split at hz
     ·rename_i e1 e2;rw[e2]
     ·rename_i e1 e2
      have:=h.inj hz hy (by rw[hzk,h2])
      omega
  ·rw[if_neg h2,h.ok q n]
   constructor
   ·rintro ⟨z,hz,hzk⟩
    refine ⟨z,?_,hzk⟩
    have n1:n≠k:=λe=>by subst e;rw[hy] at hz;injection hz with hz;subst hz;exact h2 hzk.symm
    have n2:n≠i:=λe=>by subst e;rw[hx] at hz;injection hz with hz;subst hz;exact h1 hzk.symm
    rw[if_neg n1,if_neg n2]
    exact hz
   ·rintro ⟨z,hz,hzk⟩
    split at hz
    ·injection hz with hz;subst hz;exact absurd hzk.symm h1
    ·split at hz
     ·injection hz with hz;subst hz;exact absurd hzk.symm h2
     ·exact ⟨z,hz,hzk⟩
theorem ZcT {l:List Msg} {i k:Nat} {x y:Msg} (hx:l[i]?=some x) (hy:l[k]?=some y):(ZeZ l i k x y).Perm l:=by
 have hi:=(List.getElem?_eq_some_iff.1 hx)
 have hk:=(List.getElem?_eq_some_iff.1 hy)
 by_cases hik:i=k
 ·subst hik
  rw[hx] at hy
  injection hy with hy
  subst hy
  have:ZeZ l i i x x=l:=by
   apply List.ext_getElem?
   intro n
   rw[ZaL hx hx]
   split
   ·rename_i e;subst e;exact hx.symm
   ·rfl
  rw[this]
 ·unfold ZeZ
  have h1:=List.set_set_perm hi.1 hk.1
  rw[hi.2,hk.2] at h1
  exact h1
structure PX where
 (v:Value) (b:Nat) (m:List (Key × Nat))
def Yc (q:Nat) (room:Int) (l:List Msg):HP:=hex λx:PX=>Yh [pur (Znp x.m l),blk q 175 [.int .i64 room,x.v,.map (some x.b)],Zz 40 6 Msg.cs x.v l,Zaj kfK vfN x.b x.m]
theorem Zcq {q:Nat} {room:Int} {l:List Msg} (h:Sat e w (Yc q room l::R)):∃v b m,Znp m l∧Sat e w (blk q 175 [.int .i64 room,v,.map (some b)]::Zz 40 6 Msg.cs v l::Zaj kfK vfN b m::R):=by
 obtain ⟨x,h0⟩:=h.ex
 exact ⟨x.v,x.b,x.m,Sat.pure h0.split⟩
theorem ZbP {q:Nat} {room:Int} {l:List Msg} {v:Value} {b:Nat} {m:List (Key × Nat)} (ha:Znp m l) (h:Sat e w (blk q 175 [.int .i64 room,v,.map (some b)]::Zz 40 6 Msg.cs v l::Zaj kfK vfN b m::R)):Sat e w (Yc q room l::R):=
 .mk_ex ⟨v,b,m⟩ (.join (l':=[_,_,_,_]) (.mk_pure ha h))
theorem Zts {n:Int} (hS:Sat e w R) (hk:∀q w',Sat e w' (Yc q (max 0 (min n 64)) []::R)→K (.pointer (some ⟨q,0,none⟩)) w'):Cl prog 43 #[.int .i64 n] w K:=by
 refine Zm2 ?_
 unfold Zso
 refine Zty (ZwQ ?_)
 refine Zfx kfK vfN hS λb w1 h1=>?_
 rw[ZQq]
 refine Zaf [.int .i64 (max 0 (min n 64)),.slice none 0 0,.map (some b)] (by kernel_rfl) ?_
 refine Yp (cs:=[.int .i64 (max 0 (min n 64)),.slice none 0 0,.map (some b)]) h1 rfl λq w2 h2=>?_
 refine hk _ _ (ZbP (v:=.slice none 0 0) Znp.nil ((h2.own_nil 40 6 Msg.cs).selR [_,_,_] [_,_,_] [1,0,2] (by decide) rfl))
theorem Zs4 {q:Nat} {room:Int} {l:List Msg} (hS:Sat e w (Yc q room l::R)) (hk:K (.int .i64 (l.length:Int)) w):Cl prog 222 #[.pointer (some ⟨q,0,none⟩)] w K:=by
 obtain ⟨v,b,m,ha,h1⟩:=Zcq hS
 refine ZgE ?_
 unfold Zhb
 refine Zh (Za (Zb h1 0 rfl (v:=v) rfl ?_))
 exact Zt h1 1 rfl (λ_=>Zp) hk
abbrev rcv (q:Nat):Value:=.agg #[.pointer (some ⟨q,0,none⟩)]
theorem Zh2 {q:Nat} {room:Int} {l:List Msg} (hS:Sat e w (Yc q room l::R)) (hk:∀w',Sat e w' (Yc q room l::R)→K (.int .i64 (l.length:Int)) w'):clI prog (.iface 300 (rcv q)) "Len" #[] w K:=by
 refine Zrj (f:=247) (rcv:=rcv q) (by kernel_rfl) ?_
 refine ZgG (t0:=rcv q) ?_
 unfold Zg1
 obtain ⟨v,b,m,ha,h1⟩:=Zcq hS
 refine Yp (cs:=[.pointer (some ⟨q,0,none⟩)]) h1 rfl λc w2 h2=>?_
 refine Za (Zb h2 0 rfl (v:=.pointer (some ⟨q,0,none⟩)) rfl ?_)
 refine Zh (Za (Zb h2 1 rfl (v:=v) rfl ?_))
 exact Zt h2 2 rfl (λ_=>Zp) (hk _ (ZbP ha h2.drop))
theorem ZbS {q i k:Nat} {room:Int} {l:List Msg} {x y:Msg} (hx:l[i]?=some x) (hy:l[k]?=some y) (hS:Sat e w (Yc q room l::R)) (hk:∀w',Sat e w' (Yc q room l::R)→K (.bool (decide (ZeU x.key y.key<0))) w') :
  clI prog (.iface 300 (rcv q)) "Less" #[.int .i64 (i:Int),.int .i64 (k:Int)] w K:=by
 refine Zrj (f:=248) (rcv:=rcv q) (by kernel_rfl) ?_
 refine Zf4 (t0:=rcv q) (t1:=.int .i64 (i:Int)) (t2:=.int .i64 (k:Int)) ?_
 unfold Zfg
 obtain ⟨v,b,m,ha,h1⟩:=Zcq hS
 refine Yp (cs:=[.pointer (some ⟨q,0,none⟩)]) h1 rfl λc w2 h2=>?_
 refine ZaY h2 λw3 h3=>?_
 refine Za (Zb h3 0 rfl (v:=.pointer (some ⟨q,0,none⟩)) rfl ?_)
 refine Zh (Za (Zb h3 1 rfl (v:=v) rfl ?_))
 refine Zw h3 2 rfl (λ_=>Zp) (λ_=>rfl) hx λp hp=>?_
 refine Zbd hp λp1 hp1=>?_
 refine Zn0 (us:=x.key.cs) h3 2 rfl hp1 (by rfl) rfl ?_
 refine Za (Zb h3 0 rfl (v:=.pointer (some ⟨q,0,none⟩)) rfl ?_)
 refine Zh (Za (Zb h3 1 rfl (v:=v) rfl ?_))
 refine Zw h3 2 rfl (λ_=>Zp) (λ_=>rfl) hy λp hp=>?_
 refine Zbd hp λp1 hp1=>?_
 refine Zn0 (us:=y.key.cs) h3 2 rfl hp1 (by rfl) rfl ?_
 refine Zcr h3 λw4 h4=>?_
 exact ZwL (hk _ (ZbP ha h4.drop))
theorem ZbT {q i k:Nat} {room:Int} {l:List Msg} {x y:Msg} (hx:l[i]?=some x) (hy:l[k]?=some y) (hS:Sat e w (Yc q room l::R)) (hk:∀w',Sat e w' (Yc q room (ZeZ l i k x y)::R)→K (.tuple #[]) w') :
  clI prog (.iface 300 (rcv q)) "Swap" #[.int .i64 (i:Int),.int .i64 (k:Int)] w K:=by
 refine Zrj (f:=251) (rcv:=rcv q) (by kernel_rfl) ?_
 refine Zfd (t0:=rcv q) (t1:=.int .i64 (i:Int)) (t2:=.int .i64 (k:Int)) ?_
 unfold Zf2
 obtain ⟨v,b,m,ha,h1⟩:=Zcq hS
 have hi:=(List.getElem?_eq_some_iff.1 hx).1
 have hkl:=(List.getElem?_eq_some_iff.1 hy).1
 refine Yp (cs:=[.pointer (some ⟨q,0,none⟩)]) h1 rfl λc w2 h2=>?_
 refine ZaY h2 λw3 h3=>?_
 refine Za (Zb h3 0 rfl (v:=.pointer (some ⟨q,0,none⟩)) rfl ?_)
 refine Zh (Za (Zb h3 1 rfl (v:=v) rfl ?_))
 refine Za (Zb h3 0 rfl (v:=.pointer (some ⟨q,0,none⟩)) rfl ?_)
 refine Zh (Za (Zb h3 1 rfl (v:=v) rfl ?_))
 refine Za (Zb h3 0 rfl (v:=.pointer (some ⟨q,0,none⟩)) rfl ?_)
 refine Zh (Za (Zb h3 1 rfl (v:=v) rfl ?_))
 refine Zw h3 2 rfl (λ_=>Zp) (λ_=>rfl) hy λp hp=>?_
 refine Ym h3 2 rfl hp rfl ?_
 refine Za (Zb h3 0 rfl (v:=.pointer (some ⟨q,0,none⟩)) rfl ?_)
 refine Zh (Za (Zb h3 1 rfl (v:=v) rfl ?_))
 refine Zw h3 2 rfl (λ_=>Zp) (λ_=>rfl) hx λp hp=>?_
 refine Ym h3 2 rfl hp rfl ?_
 refine ZdJ h3 2 rfl (λ_=>rfl) hi (x:=y) rfl (Zg _) λw4 h4=>?_
 refine ZdJ h4 2 rfl (λ_=>rfl) (by rw[List.length_set];exact hkl) (x:=x) rfl (Zg _) λw5 h5=>?_
 replace h5:Sat e w5 (blk c 300 [.pointer (some ⟨q,0,none⟩)]::blk q 175 [.int .i64 room,v,.map (some b)]::Zz 40 6 Msg.cs v (ZeZ l i k x y)::Zaj kfK vfN b m::R):=h5
 have hgi:(ZeZ l i k x y)[i]?=some y:=by
  rw[ZaL hx hy]
  by_cases hik:i=k
  ·subst hik;rw[if_pos rfl];rw[hx] at hy;exact hy
  ·rw[if_neg hik,if_pos rfl]
 have hgk:(ZeZ l i k x y)[k]?=some x:=by rw[ZaL hx hy,if_pos rfl]
 refine ZaY h5 λw6 h6=>?_
 refine Za (Zb h6 0 rfl (v:=.pointer (some ⟨q,0,none⟩)) rfl ?_)
 refine Zh (Za (Zb h6 1 rfl (v:=.map (some b)) rfl ?_))
 refine Za (Zb h6 0 rfl (v:=.pointer (some ⟨q,0,none⟩)) rfl ?_)
 refine Zh (Za (Zb h6 1 rfl (v:=v) rfl ?_))
 refine Zw h6 2 rfl (λ_=>Zp) (λ_=>rfl) hgi λp hp=>?_
 refine Zbd hp λp1 hp1=>?_
 refine Zn0 (us:=y.key.cs) h6 2 rfl hp1 (by rfl) rfl ?_
 refine Za (Zb h6 0 rfl (v:=.pointer (some ⟨q,0,none⟩)) rfl ?_)
 refine Zh (Za (Zb h6 1 rfl (v:=.map (some b)) rfl ?_))
 refine Za (Zb h6 0 rfl (v:=.pointer (some ⟨q,0,none⟩)) rfl ?_)
 refine Zh (Za (Zb h6 1 rfl (v:=v) rfl ?_))
 refine Zw h6 2 rfl (λ_=>Zp) (λ_=>rfl) hgk λp hp=>?_
 refine Zbd hp λp1 hp1=>?_
 refine Zn0 (us:=x.key.cs) h6 2 rfl hp1 (by rfl) rfl ?_
 have hy1:(lkA m y.key).isSome=true:=(ha.has y.key).2 ⟨y,List.mem_of_getElem? hy,rfl⟩
 have hx1:(lkA (upA m y.key i) x.key).isSome=true:=by
  rw[ZiY ha.u]
  split
  ·rfl
  ·exact (ha.has x.key).2 ⟨x,List.mem_of_getElem? hx,rfl⟩
 refine ZE9 Zgm ZN6 ha.u (h6.pick 3 rfl) y.key i rfl hy1 λw7 h7=>?_
 refine ZE9 Zgm ZN6 (ha.u.up _ _) h7 x.key k rfl hx1 λw8 h8=>?_
 exact hk _ (ZbP (ha.swap hx hy) (h8.selR [_,_,_,_] [_,_,_] [2,3,0] (by decide) rfl))
theorem ZpF {q:Nat} {room:Int} {l:List Msg} {x:Msg} (hx:∀y∈l,y.key≠x.key) (hl:l.length≤1000) (hS:Sat e w (Yc q room l::R)) (hk:∀w',Sat e w' (Yc q room (l++[x])::R)→K (.tuple #[]) w') :
  clI prog (.iface 300 (rcv q)) "Push" #[.iface 40 (.agg x.cs.toArray)] w K:=by
 refine Zrj (f:=250) (rcv:=rcv q) (by kernel_rfl) ?_
 refine Zff (t0:=rcv q) (t1:=.iface 40 (.agg x.cs.toArray)) ?_
 unfold Zf0
 obtain ⟨v,b,m,ha,h1⟩:=Zcq hS
 refine Yp (cs:=[.pointer (some ⟨q,0,none⟩)]) h1 rfl λc w2 h2=>?_
 refine ZvQ (by kernel_rfl) ?_
 rw[ZNN]
 refine Yp (cs:=Yi [0,0,0,0,0,0]) h2 rfl λd w3 h3=>?_
 refine Zq h3 0 rfl (vs:=x.cs) rfl rfl (Nat.le_of_ble_eq_true rfl) (Zg _) (cs':=x.cs) (by kernel_rfl) λw4 h4=>?_
 refine ZaY h4 λw5 h5=>?_
 refine Za (Zb h5 1 rfl (v:=.pointer (some ⟨q,0,none⟩)) rfl ?_)
 refine Zh (Za (Zb h5 2 rfl (v:=.map (some b)) rfl ?_))
 refine Za (Zo h5 0 (vs:=x.key.cs) rfl (by rfl) rfl ?_)
 refine Za (Zb h5 1 rfl (v:=.pointer (some ⟨q,0,none⟩)) rfl ?_)
 refine Zh (Za (Zb h5 2 rfl (v:=v) rfl ?_))
 refine Zt h5 3 rfl (λ_=>Zp) ?_
 refine ZsG Zgm ZN6 ha.u (h5.pick 4 rfl) x.key l.length rfl λw6 h6=>?_
 replace h6:Sat e w6 (Zz 40 6 Msg.cs v l::blk d 40 x.cs::blk c 300 [.pointer (some ⟨q,0,none⟩)]::blk q 175 [.int .i64 room,v,.map (some b)]::Zaj kfK vfN b (upA m x.key l.length)::R):=
  h6.selR [_,_,_,_,_] [_,_,_,_,_] [4,1,2,3,0] (by decide) rfl
 refine ZaY h6 λw7 h7=>?_
 refine Za (Zb h7 2 rfl (v:=.pointer (some ⟨q,0,none⟩)) rfl ?_)
 refine Za (Zb h7 2 rfl (v:=.pointer (some ⟨q,0,none⟩)) rfl ?_)
 refine Zh (Za (Zb h7 3 rfl (v:=v) rfl ?_))
 refine Zo h7 1 (vs:=x.cs) rfl (by rfl) rfl ?_
 refine ZwC (vs:=x.cs) rfl rfl h7 λb30 w8 h8=>?_
 refine ⟨Zb h8 4 rfl rfl ⟨rfl,rfl⟩,Zb h8 3 rfl rfl ⟨rfl,rfl⟩,Zb h8 3 rfl rfl ⟨rfl,rfl⟩,?_⟩
 refine Zeo ZPm ZOF (f:=Msg.cs) (λ_=>rfl) (λ_=>Zg _) h8.swap (m:=[x]) (Zfu (f:=Msg.cs) (x:=x) (Nat.le_refl _)) (by simp;omega) λv' w9 h9=>?_
 refine ⟨Zb h9 3 rfl rfl ⟨rfl,rfl⟩,?_⟩
 refine Zh (Za ?_)
 refine Zpm h9 4 rfl (h9.own_cells 0 rfl) (Nat.le_of_ble_eq_true rfl) rfl λw10 h10=>?_
 exact hk _ (ZbP (ha.push hx) (h10.selR [_,_,_,_,_,_] [_,_,_] [4,0,5] (by decide) rfl))
end Go.Proofs.YtkpdpddmaoablaaGreat
end
section
namespace Go.Proofs.YtkpdpddmaoablaaGreat
open Go Go.E
set_option maxRecDepth 100000
variable {e w:World} {R:List HP} {K:KV}
theorem ZCv {k:IntKind} {a b:Int} (hb:b≠0) (h:K (.int k (k.wrap (a.tdiv b))) w):bi .quo k (.int k a) (.int k b) w K:=⟨a,b,rfl,rfl,λ_=>hb,h⟩
theorem ZbN {a b c:Key} (h:¬Zv a b) (k:¬Zv b c):¬Zv a c:=by
 intro hac
 rcases Zv.tri a b with h1 | h1 | h1
 ·exact h h1
 ·subst h1;exact k hac
 ·exact k (h1.trans hac)
def Zb0 (l:List Msg) (n:Nat):Prop:=∀(i:Nat) (x y:Msg),0<i→i<n→l[i]?=some x→l[(i - 1) / 2]?=some y→¬Zv x.key y.key
def Zp9 (l:List Msg) (j:Nat):Prop:=
 (∀(i:Nat) (x y:Msg),0<i→i≠j→l[i]?=some x→l[(i - 1) / 2]?=some y→¬Zv x.key y.key)∧
 ∀(i:Nat) (x y:Msg),0<i→0<j→(i - 1) / 2=j→l[i]?=some x→l[(j - 1) / 2]?=some y→¬Zv x.key y.key
def Zc5 (l:List Msg) (j n:Nat):Prop:=
 (∀(i:Nat) (x y:Msg),0<i→i<n→(i - 1) / 2≠j→l[i]?=some x→l[(i - 1) / 2]?=some y→¬Zv x.key y.key)∧
 ∀(i:Nat) (x y:Msg),0<i→i<n→0<j→(i - 1) / 2=j→l[i]?=some x→l[(j - 1) / 2]?=some y→¬Zv x.key y.key
theorem Zb0.min {l:List Msg} {n:Nat} (h:Zb0 l n) (hn:n≤l.length) {z:Msg} (hz:l[0]?=some z):∀(i:Nat) (x:Msg),i<n→l[i]?=some x→¬Zv x.key z.key:=by
 intro i
 induction i using Nat.strongRecOn with
 | _ i ih=>
  intro x hi hx
  by_cases h0:i=0
  ·subst h0
   rw[hz] at hx
   injection hx with hx
   subst hx
   exact Zv.irrefl _
  ·obtain ⟨y,hy⟩:=Zk (l:=l) (j:=(i - 1) / 2) (by omega)
   exact ZbN (h i x y (by omega) hi hx hy) (ih _ (by omega) y (by omega) hy)
theorem Zp9.done {l:List Msg} {j:Nat} (h:Zp9 l j) (hj:j=0∨∃x y,l[j]?=some x∧l[(j - 1) / 2]?=some y∧¬Zv x.key y.key):Zb0 l l.length:=by
 intro i x y hi _ hx hy
 by_cases hij:i=j
 ·subst hij
  rcases hj with hj | ⟨x',y',hx',hy',hn⟩
  ·omega
  ·rw[hx] at hx'
   rw[hy] at hy'
   injection hx' with hx'
   injection hy' with hy'
   subst hx' hy'
   exact hn
 ·exact h.1 i x y hi hij hx hy
theorem Zp9.step {l:List Msg} {j:Nat} {x y:Msg} (h:Zp9 l j) (hj:0<j) (hx:l[j]?=some x) (hy:l[(j - 1) / 2]?=some y) (hlt:Zv x.key y.key):Zp9 (ZeZ l ((j - 1) / 2) j y x) ((j - 1) / 2):=by
 obtain ⟨h1,h2⟩:=h
 have hg:=ZaL (i:=(j - 1) / 2) (k:=j) hy hx
 constructor
 ·intro i a b hi hij ha hb
  rw[hg] at ha hb
  by_cases e1:i=j
  ·subst e1
   rw[if_pos rfl] at ha
   rw[if_neg (by omega),if_pos rfl] at hb
   injection ha with ha
   injection hb with hb
   subst ha hb
   exact hlt.asymm
  ·rw[if_neg e1,if_neg hij] at ha
   by_cases e2:(i - 1) / 2=j
   ·rw[if_pos e2] at hb
    injection hb with hb
    subst hb
    exact h2 i a y hi hj e2 ha hy
   ·rw[if_neg e2] at hb
    by_cases e3:(i - 1) / 2=(j - 1) / 2
    ·rw[if_pos e3] at hb
     injection hb with hb
     subst hb
     have:=h1 i a y hi e1 ha (by rw[e3];exact hy)
     intro hax
     exact this (hax.trans hlt)
    ·rw[if_neg e3] at hb
     exact h1 i a b hi e1 ha hb
 ·intro i a b hi hp hpar ha hb
  rw[hg] at ha hb
  rw[if_neg (by omega),if_neg (by omega)] at hb
  have hyb:=h1 ((j - 1) / 2) y b hp (by omega) hy hb
  by_cases e1:i=j
  ·rw[if_pos e1] at ha
   injection ha with ha
   subst ha
   exact hyb
  ·rw[if_neg e1,if_neg (by omega)] at ha
   have:=h1 i a y hi e1 ha (by rw[hpar];exact hy)
   exact ZbN this hyb
theorem ZH4 {q j0:Nat} {room:Int} {l:List Msg} (hj:j0<l.length) (hl:l.length≤1001) (hS:Sat e w (Yc q room l::R)) (hk:∀l' w',l'.Perm l→(Zp9 l j0→Zb0 l' l'.length)→Sat e w' (Yc q room l'::R)→K (.tuple #[]) w') :
  Cl prog 95 #[.iface 300 (rcv q),.int .i64 (j0:Int)] w K:=by
 refine ZiM ?_
 unfold Zrd
 refine Zdk (λz t1 w=>∃(j:Nat) (l':List Msg),t1=.int .i64 (j:Int)∧z=j∧j<l'.length∧l'.Perm l∧(Zp9 l j0→Zp9 l' j)∧Sat e w (Yc q room l'::R)) j0
  ⟨j0,l,rfl,rfl,hj,.refl _,id,hS⟩ ?_
 rintro j _ w g ⟨j',l',rfl,rfl,hjl,hp,hinv,h1⟩ hg
 have hlen:=hp.length_eq
 refine ZoJ (by omega) (by omega) (ZCv (by decide) ?_)
 by_cases h0:j=0
 ·subst h0
  refine Znq rfl (Zd (Zd (Zd (Zd (Zd (Yv (Zi (hk _ _ hp (λhu=>(hinv hu).done (.inl rfl)) h1))))))))
 ·have e1:IntKind.i64.wrap (((j:Int) - 1).tdiv 2)=(((j - 1) / 2:Nat):Int):=by
   rw[Int.tdiv_eq_ediv_of_nonneg (by omega),Zdl (by omega) (by omega)]
   omega
  rw[e1]
  obtain ⟨x,hx⟩:=Zk hjl
  obtain ⟨y,hy⟩:=Zk (l:=l') (j:=(j - 1) / 2) (by omega)
  refine Zd8 (by omega) (Zj (Zj (Zj (Zj ?_))))
  refine ZbS hx hy h1 λw2 h2=>?_
  by_cases hlt:ZeU x.key y.key<0
  ·rw[decide_eq_true hlt]
   refine Zj (ZaJ (Yd (Zf ?_)))
   refine ZbT hy hx h2 λw3 h3=>?_
   refine hg _ _ _ (by omega) ⟨(j - 1) / 2,_,rfl,rfl,by rw[Zcx];omega,(ZcT hy hx).trans hp,λhu=>(hinv hu).step (by omega) hx hy (Zav.1 hlt),h3⟩
  ·rw[decide_eq_false hlt]
   refine Zj (Zch (Yd (Zi (hk _ _ hp (λhu=>(hinv hu).done (.inr ⟨x,y,hx,hy,λh=>hlt (Zav.2 h)⟩)) h2))))
theorem Zc5.done {l:List Msg} {j n:Nat} (h:Zc5 l j n) (hj:∀(i:Nat) (x y:Msg),0<i→i<n→(i - 1) / 2=j→l[i]?=some x→l[j]?=some y→¬Zv x.key y.key):Zb0 l n:=by
 intro i x y hi hn hx hy
 by_cases hij:(i - 1) / 2=j
 ·exact hj i x y hi hn hij hx (by rw[←hij];exact hy)
 ·exact h.1 i x y hi hn hij hx hy
theorem Zc5.step {l:List Msg} {j c n:Nat} {x y:Msg} (h:Zc5 l j n) (hc0:0<c) (hcn:c<n) (hcj:(c - 1) / 2=j) (hx:l[j]?=some x) (hy:l[c]?=some y) (hlt:Zv y.key x.key)
  (hmin:∀(i:Nat) (a:Msg),0<i→i<n→(i - 1) / 2=j→l[i]?=some a→¬Zv a.key y.key):Zc5 (ZeZ l j c x y) c n:=by
 obtain ⟨h1,h2⟩:=h
 have hg:=ZaL (i:=j) (k:=c) hx hy
 constructor
 ·intro i a b hi hn hij ha hb
  rw[hg] at ha hb
  rw[if_neg hij] at hb
  by_cases e1:i=c
  ·subst e1
   rw[if_pos rfl] at ha
   rw[if_pos hcj] at hb
   injection ha with ha
   injection hb with hb
   subst ha hb
   exact hlt.asymm
  ·rw[if_neg e1] at ha
   by_cases e2:(i - 1) / 2=j
   ·rw[if_pos e2] at hb
    rw[if_neg (by omega)] at ha
    injection hb with hb
    subst hb
    exact hmin i a hi hn e2 ha
   ·rw[if_neg e2] at hb
    by_cases e3:i=j
    ·rw[if_pos e3] at ha
     injection ha with ha
     subst ha
     subst e3
     exact h2 c y b hc0 hcn hi hcj hy hb
    ·rw[if_neg e3] at ha
     exact h1 i a b hi hn e2 ha hb
 ·intro i a b hi hn hc hpar ha hb
  rw[hg] at ha hb
  rw[if_neg (by omega),if_neg (by omega)] at ha
  rw[if_neg (by omega),if_pos hcj] at hb
  injection hb with hb
  subst hb
  exact h1 i a y hi hn (by omega) ha (by rw[hpar];exact hy)
theorem ZC2 {q i0 n:Nat} {room:Int} {l:List Msg} (hn:n≤l.length) (hi0:i0≤n) (hl:l.length≤1001) (hS:Sat e w (Yc q room l::R))
  (hk:∀l' b w',l'.Perm l→(∀i,n≤i→l'[i]?=l[i]?)→(Zc5 l i0 n→Zb0 l' n)→Sat e w' (Yc q room l'::R)→K (.bool b) w') :
  Cl prog 96 #[.iface 300 (rcv q),.int .i64 (i0:Int),.int .i64 (n:Int)] w K:=by
 refine Zf3 ?_
 unfold Zmo
 refine J1.cut (λt7 w=>∃(i:Nat) (l':List Msg),t7=.int .i64 (i:Int)∧l'.Perm l∧(∀i,n≤i→l'[i]?=l[i]?)∧(Zc5 l i0 n→Zb0 l' n)∧Sat e w (Yc q room l'::R)) (λk1 hcut=>?_) ?_
 ·refine Zdk (λz t7 w=>∃(j:Nat) (l':List Msg),t7=.int .i64 (j:Int)∧z=n - j∧j≤n∧l'.Perm l∧(∀i,n≤i→l'[i]?=l[i]?)∧(Zc5 l i0 n→Zc5 l' j n)∧Sat e w (Yc q room l'::R)) (n - i0)
   ⟨i0,l,rfl,rfl,hi0,.refl _,λ_ _=>rfl,id,hS⟩ ?_
  rintro z _ w g ⟨j,l',rfl,rfl,hjn,hp,htail,hinv,h1⟩ hg
  have hlen:=hp.length_eq
  refine Zp5 (a:=2) (by omega) (Zb9 (b:=1) (by omega) ?_)
  refine Zu5 (λc1=>?_) (λc1=>?_)
  ·refine Zd (Zd (Yv (Zi (hcut _ _ ⟨j,l',rfl,hp,htail,λhd=>(hinv hd).done λi x y hi hin hpar _ _=>?_,h1⟩))))
   omega
  ·refine Zj (Zj (Ze7 (by omega) (Yd (Zf ?_))))
   refine Zb9 (b:=1) (by omega) ?_
   obtain ⟨x,hx⟩:=Zk (l:=l') (j:=j) (by omega)
   obtain ⟨y1,hy1⟩:=Zk (l:=l') (j:=2*j+1) (by omega)
   have hrest:∀(c:Nat) (y:Msg) w',(c=2*j+1∨c=2*j+1+1)→c<n→l'[c]?=some y→(∀(i:Nat) (a:Msg),0<i→i<n→(i - 1) / 2=j→l'[i]?=some a→¬Zv a.key y.key)→Sat e w' (Yc q room l'::R)→
     clI prog (.iface 300 (rcv q)) "Less" #[.int .i64 (c:Int),.int .i64 (j:Int)] w' λt38 w=>Zb3 t38 w λt39 w=>Zr t39 (k1 (.int .i64 (j:Int)) w)
      (clI prog (.iface 300 (rcv q)) "Swap" #[.int .i64 (j:Int),.int .i64 (c:Int)] w λ_ w=>g [.int .i64 (c:Int)] w):=by
    intro c y w' hc hcn hy hmin h2
    refine ZbS hy hx h2 λw3 h3=>?_
    by_cases hlt:ZeU y.key x.key<0
    ·rw[decide_eq_true hlt]
     refine ZaJ (Zf ?_)
     refine ZbT hx hy h3 λw4 h4=>?_
     refine hg _ _ _ (by omega) ⟨c,_,rfl,rfl,by omega,(ZcT hx hy).trans hp,λi hi=>?_,λhd=>(hinv hd).step (by omega) hcn (by omega) hx hy (Zav.1 hlt) hmin,h4⟩
     rw[ZaL hx hy,if_neg (by omega),if_neg (by omega)]
     exact htail i hi
    ·rw[decide_eq_false hlt]
     refine Zch (Zi (hcut _ _ ⟨j,l',rfl,hp,htail,λhd=>(hinv hd).done λi a b hi hin hpar ha hb=>?_,h3⟩))
     rw[hx] at hb
     injection hb with hb
     subst hb
     exact ZbN (hmin i a hi hin hpar ha) (λh=>hlt (Zav.2 h))
   refine Za7 (λc2=>?_) (λc2=>?_)
   ·obtain ⟨y2,hy2⟩:=Zk (l:=l') (j:=2*j+1+1) (by omega)
    refine Ze (Ze (Ze (Ze ?_)))
    refine ZbS hy2 hy1 h1 λw2 h2=>?_
    by_cases hlt:ZeU y2.key y1.key<0
    ·rw[decide_eq_true hlt]
     refine Yv (Zi ?_)
     refine hrest (2*j+1+1) y2 _ (.inr rfl) (by omega) hy2 (λi a hi hin hpar ha=>?_) h2
     have:i=2*j+1∨i=2*j+1+1:=by omega
     rcases this with rfl | rfl
     ·rw[hy1] at ha;injection ha with ha;subst ha;exact (Zav.1 hlt).asymm
     ·rw[hy2] at ha;injection ha with ha;subst ha;exact Zv.irrefl _
    ·rw[decide_eq_false hlt]
     refine Yv (Zf ?_)
     refine hrest (2*j+1) y1 _ (.inl rfl) (by omega) hy1 (λi a hi hin hpar ha=>?_) h2
     have:i=2*j+1∨i=2*j+1+1:=by omega
     rcases this with rfl | rfl
     ·rw[hy1] at ha;injection ha with ha;subst ha;exact Zv.irrefl _
     ·rw[hy2] at ha;injection ha with ha;subst ha;exact λh=>hlt (Zav.2 h)
   ·refine Zu (Zu (Zu (Zu (Yd (Zf ?_)))))
    refine hrest (2*j+1) y1 _ (.inl rfl) (by omega) hy1 (λi a hi hin hpar ha=>?_) h1
    have:i=2*j+1:=by omega
    subst this
    rw[hy1] at ha;injection ha with ha;subst ha;exact Zv.irrefl _
 ·rintro _ w ⟨i,l',rfl,hp,htail,hd,h2⟩
  exact ZFJ (hk _ _ _ hp htail hd h2)
theorem ZsK {q:Nat} {room:Int} {l:List Msg} {x:Msg} (hx:∀y∈l,y.key≠x.key) (hl:l.length≤1000) (hS:Sat e w (Yc q room l::R))
  (hk:∀l' w',l'.Perm (l++[x])→(Zb0 l l.length→Zb0 l' l'.length)→Sat e w' (Yc q room l'::R)→K (.tuple #[]) w') :
  Cl prog 63 #[.iface 300 (rcv q),.iface 40 (.agg x.cs.toArray)] w K:=by
 refine Zme ?_
 unfold ZpP
 refine ZpF hx hl hS λw2 h2=>?_
 refine Zh2 h2 λw3 h3=>?_
 have hlen:(l++[x]).length=l.length+1:=by simp
 refine ZjR (by omega) (by omega) ?_
 refine ZH4 (by omega) (by omega) h3 λl' w4 hp hu h4=>hk _ _ hp (λhh=>hu ⟨λi a b hi hij ha hb=>?_,λi a b hi hj hpar ha hb=>?_⟩) h4
 ·have hil:=(List.getElem?_eq_some_iff.1 ha).1
  rw[List.getElem?_append_left (by omega)] at ha hb
  exact hh i a b hi (by omega) ha hb
 ·have hil:=(List.getElem?_eq_some_iff.1 ha).1
  omega
def ZdT (room:Int) (l:List Msg) (x:Msg):Int:=if (l.any λy=>decide (y.key=x.key))=true then 3 else if room≤l.length then 2 else 0
theorem ZrG {q:Nat} {room:Int} {l:List Msg} {x:Msg} (hl:l.length≤1000) (hS:Sat e w (Yc q room l::R))
  (hbad:ZdT room l x≠0→∀w',Sat e w' (Yc q room l::R)→K (.int .i64 (ZdT room l x)) w')
  (hok:ZdT room l x=0→(∀y∈l,y.key≠x.key)→l.length<room→∀l' w',l'.Perm (l++[x])→(Zb0 l l.length→Zb0 l' l'.length)→Sat e w' (Yc q room l'::R)→K (.int .i64 0) w') :
  Cl prog 198 #[.pointer (some ⟨q,0,none⟩),.agg x.cs.toArray] w K:=by
 refine Zfb ?_
 unfold Zfj
 obtain ⟨v,b,m,ha,h1⟩:=Zcq hS
 refine Yp (cs:=x.cs) h1 rfl λc w2 h2=>?_
 refine ZaY h2 λw3 h3=>?_
 refine Zh (Za (Zb h3 1 rfl (v:=.map (some b)) rfl ?_))
 refine Za (Zo h3 0 (vs:=x.key.cs) rfl (by rfl) rfl ?_)
 refine ZsE Zgm ZN6 h3 3 rfl x.key ?_
 refine Zam (Zal ?_)
 have hany:(lkA m x.key).isSome=l.any λy=>decide (y.key=x.key):=by
  rw[Bool.eq_iff_iff,ha.has,List.any_eq_true]
  constructor
  ·rintro ⟨y,hy,hk⟩;exact ⟨y,hy,by simpa using hk⟩
  ·rintro ⟨y,hy,hk⟩;exact ⟨y,hy,by simpa using hk⟩
 rw[hany]
 cases hh:l.any λy=>decide (y.key=x.key) with
 | true=>
  have e1:ZdT room l x=3:=if_pos hh
  have:=hbad (by rw[e1];decide) w3 (ZbP ha h3.drop)
  rw[e1] at this
  exact Zi this
 | false=>
  refine Zf ?_
  refine ZaY h3 λw4 h4=>?_
  refine Zh (Za (Zb h4 1 rfl (v:=v) rfl ?_))
  refine Zt h4 2 rfl (λ_=>Zp) ?_
  refine Zh (Za (Zb h4 1 rfl (v:=.int .i64 room) rfl ?_))
  have hno:¬(l.any λy=>decide (y.key=x.key))=true:=by rw[hh];decide
  refine Zu5 (λc1=>Zi ?_) (λc1=>Zf ?_)
  ·have e1:ZdT room l x=2:=by unfold ZdT;rw[if_neg hno,if_pos c1]
   have:=hbad (by rw[e1];decide) w4 (ZbP ha h4.drop)
   rw[e1] at this
   exact this
  ·have e1:ZdT room l x=0:=by unfold ZdT;rw[if_neg hno,if_neg c1]
   rw[Zoc]
   refine Zaf [.pointer (some ⟨q,0,none⟩)] (by kernel_rfl) ?_
   refine Zo h4 0 (vs:=x.cs) rfl (by rfl) rfl ?_
   have hne:∀y∈l,y.key≠x.key:=λy hy hk=>by
    rw[List.any_eq_false] at hh
    exact hh y hy (by simpa using hk)
   refine ZsK hne hl (ZbP ha h4.drop) λl' w5 hp hheap h5=>?_
   exact hok e1 hne (by omega) l' w5 hp hheap h5
end Go.Proofs.YtkpdpddmaoablaaGreat
namespace Go.Proofs.YtkpdpddmaoablaaGreat
open Go Go.E
set_option maxRecDepth 100000
variable {e w:World} {R:List HP} {K:KV}
theorem Znp.pop {m:List (Key × Nat)} {l:List Msg} {x:Msg} (h:Znp m (l++[x])):Znp (dlA m x.key) l:=by
 have hxl:(l++[x])[l.length]?=some x:=by simp
 refine ⟨h.u.dl _,λk i=>?_⟩
 rw[ZEP h.u]
 by_cases hk:k=x.key
 ·rw[if_pos hk]
  constructor
  ·intro hn;cases hn
  ·rintro ⟨y,hy,hyk⟩
   have hil:=(List.getElem?_eq_some_iff.1 hy).1
   have:=h.inj (i:=i) (j:=l.length) (by rw[List.getElem?_append_left hil];exact hy) hxl (by rw[hyk,hk])
   omega
 ·rw[if_neg hk,h.ok k i]
  constructor
  ·rintro ⟨y,hy,hyk⟩
   by_cases hil:i<l.length
   ·rw[List.getElem?_append_left hil] at hy
    exact ⟨y,hy,hyk⟩
   ·have hle:=(List.getElem?_eq_some_iff.1 hy).1
    rw[List.length_append] at hle
    simp only[List.length_cons,List.length_nil] at hle
    rw[show i=l.length by omega,hxl] at hy
    injection hy with hy
    subst hy
    exact absurd hyk.symm hk
  ·rintro ⟨y,hy,hyk⟩
   exact ⟨y,by rw[List.getElem?_append_left (List.getElem?_eq_some_iff.1 hy).1];exact hy,hyk⟩
theorem Zlm {q:Nat} {room:Int} {l:List Msg} {x:Msg} (hl:l.length≤1000) (hS:Sat e w (Yc q room (l++[x])::R)) (hk:∀w',Sat e w' (Yc q room l::R)→K (.iface 40 (.agg x.cs.toArray)) w') :
  clI prog (.iface 300 (rcv q)) "Pop" #[] w K:=by
 refine Zrj (f:=249) (rcv:=rcv q) (by kernel_rfl) ?_
 refine Zgo (t0:=rcv q) ?_
 unfold Zhd
 obtain ⟨v,b,m,ha,h1⟩:=Zcq hS
 have hlen:(l++[x]).length=l.length+1:=by simp
 have hxl:(l++[x])[l.length]?=some x:=by simp
 refine Yp (cs:=[.pointer (some ⟨q,0,none⟩)]) h1 rfl λc w2 h2=>?_
 refine Za (Zb h2 0 rfl (v:=.pointer (some ⟨q,0,none⟩)) rfl ?_)
 refine Zh (Za (Zb h2 1 rfl (v:=v) rfl ?_))
 refine Zt h2 2 rfl (λ_=>Zp) ?_
 rw[hlen]
 refine ZjR (by omega) (by omega) ?_
 rw[Nat.add_sub_cancel]
 refine Za (Zb h2 0 rfl (v:=.pointer (some ⟨q,0,none⟩)) rfl ?_)
 refine Zh (Za (Zb h2 1 rfl (v:=v) rfl ?_))
 refine Zw h2 2 rfl (λ_=>Zp) (λ_=>rfl) hxl λp hp=>?_
 refine Ym h2 2 rfl hp rfl ?_
 rw[ZNN]
 refine Yp (cs:=Yi [0,0,0,0,0,0]) h2 rfl λd w3 h3=>?_
 refine Zq h3 0 rfl (vs:=x.cs) rfl rfl (Nat.le_of_ble_eq_true rfl) (Zg _) (cs':=x.cs) (by kernel_rfl) λw4 h4=>?_
 refine ZaY h4 λw5 h5=>?_
 refine Za (Zb h5 1 rfl (v:=.pointer (some ⟨q,0,none⟩)) rfl ?_)
 refine Za (Zb h5 1 rfl (v:=.pointer (some ⟨q,0,none⟩)) rfl ?_)
 refine Zh (Za (Zb h5 2 rfl (v:=v) rfl ?_))
 refine ZuF h5 3 rfl (λ_=>rfl) (hi:=l.length) (by omega) λv' h6=>?_
 rw[List.take_left' rfl] at h6
 refine Zh (Za ?_)
 refine Zpm h6 2 rfl (h6.own_cells 3 rfl) (Nat.le_of_ble_eq_true rfl) (cs':=[.int .i64 room,v',.map (some b)]) rfl λw7 h7=>?_
 replace h7:Sat e w7 (blk d 40 x.cs::blk c 300 [.pointer (some ⟨q,0,none⟩)]::blk q 175 [.int .i64 room,v',.map (some b)]::Zz 40 6 Msg.cs v' l::Zaj kfK vfN b m::R):=h7
 refine ZaY h7 λw8 h8=>?_
 refine Za (Zb h8 1 rfl (v:=.pointer (some ⟨q,0,none⟩)) rfl ?_)
 refine Zh (Za (Zb h8 2 rfl (v:=.map (some b)) rfl ?_))
 refine Za (Zo h8 0 (vs:=x.key.cs) rfl (by rfl) rfl ?_)
 refine ZGa Zgm ZN6 (h8.pick 4 rfl) x.key λw9 h9=>?_
 refine Zo h9 1 (vs:=x.cs) rfl (by rfl) rfl ?_
 exact hk _ (ZbP ha.pop (h9.selR [_,_,_,_,_] [_,_,_] [3,4,0] (by decide) rfl))
theorem ZtI {q:Nat} {room:Int} {l:List Msg} {x:Msg} (hx:l[0]?=some x) (hl:l.length≤1001) (hS:Sat e w (Yc q room l::R))
  (hk:∀l' w',(l'++[x]).Perm l→(Zb0 l l.length→Zb0 l' l'.length)→Sat e w' (Yc q room l'::R)→K (.iface 40 (.agg x.cs.toArray)) w') :
  Cl prog 64 #[.iface 300 (rcv q)] w K:=by
 refine ZmV ?_
 unfold Zr2
 have h0:=(List.getElem?_eq_some_iff.1 hx).1
 obtain ⟨n,hn⟩:∃n,l.length=n+1:=⟨l.length - 1,by omega⟩
 obtain ⟨y,hy⟩:=Zk (l:=l) (j:=n) (by omega)
 refine Zh2 hS λw2 h2=>?_
 rw[hn]
 refine ZjR (by omega) (by omega) ?_
 rw[Nat.add_sub_cancel]
 refine ZbT (i:=0) (k:=n) hx hy h2 λw3 h3=>?_
 have hp1:=ZcT hx hy
 refine ZC2 (i0:=0) (n:=n) (by rw[Zcx];omega) (by omega) (by rw[Zcx];omega) h3 λl2 bb w4 hp2 htail hd h4=>?_
 have hl2:l2.length=n+1:=by rw[hp2.length_eq,Zcx,hn]
 have hln:l2[n]?=some x:=by rw[htail n (Nat.le_refl _),ZaL hx hy,if_pos rfl]
 have hsp:l2=l2.take n++[x]:=by
  have:=Zx hln
  rw[List.take_of_length_le (by omega)] at this
  exact this
 have hpf:(l2.take n++[x]).Perm l:=by rw[←hsp];exact hp2.trans hp1
 rw[hsp] at h4
 refine Zlm (by rw[List.length_take];omega) h4 λw5 h5=>hk _ _ hpf (λhh=>?_) h5
 have hh2:=hd ⟨λi a b hi hin hpar ha hb=>?_,λi a b hi hin hj=>by omega⟩
 ·intro i a b hi hin ha hb
  rw[List.length_take] at hin
  rw[List.getElem?_take,if_pos (by omega)] at ha hb
  exact hh2 i a b hi (by omega) ha hb
 ·rw[ZaL hx hy,if_neg (by omega),if_neg (by omega)] at ha hb
  exact hh i a b hi (by omega) ha hb
theorem Zn8 {q:Nat} {room:Int} (hS:Sat e w (Yc q room []::R)) (hk:∀w',Sat e w' (Yc q room []::R)→K (.tuple #[.agg Msg.zero.cs.toArray,.bool false]) w'):Cl prog 200 #[.pointer (some ⟨q,0,none⟩)] w K:=by
 refine ZcK ?_
 unfold ZdA
 rw[ZNN]
 obtain ⟨v,b,m,ha,h1⟩:=Zcq hS
 refine Yp (cs:=Yi [0,0,0,0,0,0]) h1 rfl λd w3 h3=>?_
 refine Zh (Za (Zb h3 1 rfl (v:=v) rfl ?_))
 refine Zt h3 2 rfl (λ_=>Zp) ?_
 refine Znq rfl (Zi ?_)
 refine Zaf Msg.zero.cs (by kernel_rfl) ?_
 refine Zq h3 0 rfl (vs:=Msg.zero.cs) rfl rfl (Nat.le_of_ble_eq_true rfl) (Zg _) (cs':=Msg.zero.cs) (by kernel_rfl) λw4 h4=>?_
 refine Zo h4 0 (vs:=Msg.zero.cs) rfl (by rfl) rfl ?_
 exact hk _ (ZbP ha h4.drop)
theorem ZsH {q:Nat} {room:Int} {l:List Msg} {x:Msg} (hx:l[0]?=some x) (hl:l.length≤1001) (hS:Sat e w (Yc q room l::R))
  (hk:∀l' w',(l'++[x]).Perm l→(Zb0 l l.length→Zb0 l' l'.length)→Sat e w' (Yc q room l'::R)→K (.tuple #[.agg x.cs.toArray,.bool true]) w'):Cl prog 200 #[.pointer (some ⟨q,0,none⟩)] w K:=by
 refine ZcK ?_
 unfold ZdA
 rw[ZNN,Zoc]
 obtain ⟨v,b,m,ha,h1⟩:=Zcq hS
 have h0:=(List.getElem?_eq_some_iff.1 hx).1
 refine Yp (cs:=Yi [0,0,0,0,0,0]) h1 rfl λd w3 h3=>?_
 refine Zh (Za (Zb h3 1 rfl (v:=v) rfl ?_))
 refine Zt h3 2 rfl (λ_=>Zp) ?_
 refine Zd8 (by omega) (Zf ?_)
 refine Zaf [.pointer (some ⟨q,0,none⟩)] (by kernel_rfl) ?_
 refine ZtI hx hl (ZbP ha (h3.selR [_,_,_,_] [_,_,_,_] [1,2,3,0] (by decide) rfl)) λl' w4 hp hh h4=>?_
 refine ZvQ (by kernel_rfl) ?_
 refine Zq h4 1 rfl (vs:=x.cs) rfl rfl (Nat.le_of_ble_eq_true rfl) (Zg _) (cs':=x.cs) (by kernel_rfl) λw5 h5=>?_
 refine Zo h5 1 (vs:=x.cs) rfl (by rfl) rfl ?_
 exact hk _ _ hp hh (h5.selR [_,_] [_] [0] (by decide) rfl)
end Go.Proofs.YtkpdpddmaoablaaGreat
namespace Go.Proofs.YtkpdpddmaoablaaGreat
open Go Go.E
set_option maxRecDepth 100000
variable {e w:World} {R:List HP} {K:KV}
def UpN (l:List Msg) (j n:Nat):Prop:=
 (∀(i:Nat) (x y:Msg),0<i→i<n→i≠j→l[i]?=some x→l[(i - 1) / 2]?=some y→¬Zv x.key y.key)∧
 ∀(i:Nat) (x y:Msg),0<i→i<n→0<j→(i - 1) / 2=j→l[i]?=some x→l[(j - 1) / 2]?=some y→¬Zv x.key y.key
theorem UpN.done {l:List Msg} {j n:Nat} (h:UpN l j n) (hj:j=0∨∃x y,l[j]?=some x∧l[(j - 1) / 2]?=some y∧¬Zv x.key y.key):Zb0 l n:=by
 intro i x y hi hin hx hy
 by_cases hij:i=j
 ·subst hij
  rcases hj with hj | ⟨x',y',hx',hy',hn⟩
  ·omega
  ·rw[hx] at hx'
   rw[hy] at hy'
   injection hx' with hx'
   injection hy' with hy'
   subst hx' hy'
   exact hn
 ·exact h.1 i x y hi hin hij hx hy
theorem UpN.step {l:List Msg} {j n:Nat} {x y:Msg} (h:UpN l j n) (hj:0<j) (hjn:j<n) (hx:l[j]?=some x) (hy:l[(j - 1) / 2]?=some y) (hlt:Zv x.key y.key):UpN (ZeZ l ((j - 1) / 2) j y x) ((j - 1) / 2) n:=by
 obtain ⟨h1,h2⟩:=h
 have hg:=ZaL (i:=(j - 1) / 2) (k:=j) hy hx
 constructor
 ·intro i a b hi hin hij ha hb
  rw[hg] at ha hb
  by_cases e1:i=j
  ·subst e1
   rw[if_pos rfl] at ha
   rw[if_neg (by omega),if_pos rfl] at hb
   injection ha with ha
   injection hb with hb
   subst ha hb
   exact hlt.asymm
  ·rw[if_neg e1,if_neg hij] at ha
   by_cases e2:(i - 1) / 2=j
   ·rw[if_pos e2] at hb
    injection hb with hb
    subst hb
    exact h2 i a y hi hin hj e2 ha hy
   ·rw[if_neg e2] at hb
    by_cases e3:(i - 1) / 2=(j - 1) / 2
    ·rw[if_pos e3] at hb
     injection hb with hb
     subst hb
     have:=h1 i a y hi hin e1 ha (by rw[e3];exact hy)
     intro hax
     exact this (hax.trans hlt)
    ·rw[if_neg e3] at hb
     exact h1 i a b hi hin e1 ha hb
 ·intro i a b hi hin hp hpar ha hb
  rw[hg] at ha hb
  rw[if_neg (by omega),if_neg (by omega)] at hb
  have hyb:=h1 ((j - 1) / 2) y b hp (by omega) (by omega) hy hb
  by_cases e1:i=j
  ·rw[if_pos e1] at ha
   injection ha with ha
   subst ha
   exact hyb
  ·rw[if_neg e1,if_neg (by omega)] at ha
   have:=h1 i a y hi hin e1 ha (by rw[hpar];exact hy)
   exact ZbN this hyb
theorem ZFZ {q j0 n:Nat} {room:Int} {l:List Msg} (hj:j0<n) (hn:n≤l.length) (hl:l.length≤1001) (hS:Sat e w (Yc q room l::R))
  (hk:∀l' w',l'.Perm l→(∀i,n≤i→l'[i]?=l[i]?)→(UpN l j0 n→Zb0 l' n)→Sat e w' (Yc q room l'::R)→K (.tuple #[]) w') :
  Cl prog 95 #[.iface 300 (rcv q),.int .i64 (j0:Int)] w K:=by
 refine ZiM ?_
 unfold Zrd
 refine Zdk (λz t1 w=>∃(j:Nat) (l':List Msg),t1=.int .i64 (j:Int)∧z=j∧j<n∧l'.Perm l∧(∀i,n≤i→l'[i]?=l[i]?)∧(UpN l j0 n→UpN l' j n)∧Sat e w (Yc q room l'::R)) j0
  ⟨j0,l,rfl,rfl,hj,.refl _,λ_ _=>rfl,id,hS⟩ ?_
 rintro j _ w g ⟨j',l',rfl,rfl,hjn,hp,htail,hinv,h1⟩ hg
 have hlen:=hp.length_eq
 refine ZoJ (by omega) (by omega) (ZCv (by decide) ?_)
 by_cases h0:j=0
 ·subst h0
  refine Znq rfl (Zd (Zd (Zd (Zd (Zd (Yv (Zi (hk _ _ hp htail (λhu=>(hinv hu).done (.inl rfl)) h1))))))))
 ·have e1:IntKind.i64.wrap (((j:Int) - 1).tdiv 2)=(((j - 1) / 2:Nat):Int):=by
   rw[Int.tdiv_eq_ediv_of_nonneg (by omega),Zdl (by omega) (by omega)]
   omega
  rw[e1]
  obtain ⟨x,hx⟩:=Zk (l:=l') (j:=j) (by omega)
  obtain ⟨y,hy⟩:=Zk (l:=l') (j:=(j - 1) / 2) (by omega)
  refine Zd8 (by omega) (Zj (Zj (Zj (Zj ?_))))
  refine ZbS hx hy h1 λw2 h2=>?_
  by_cases hlt:ZeU x.key y.key<0
  ·rw[decide_eq_true hlt]
   refine Zj (ZaJ (Yd (Zf ?_)))
   refine ZbT hy hx h2 λw3 h3=>?_
   refine hg _ _ _ (by omega) ⟨(j - 1) / 2,_,rfl,rfl,by omega,(ZcT hy hx).trans hp,λi hi=>?_,λhu=>(hinv hu).step (by omega) hjn hx hy (Zav.1 hlt),h3⟩
   rw[ZaL hy hx,if_neg (by omega),if_neg (by omega)]
   exact htail i hi
  ·rw[decide_eq_false hlt]
   refine Zj (Zch (Yd (Zi (hk _ _ hp htail (λhu=>(hinv hu).done (.inr ⟨x,y,hx,hy,λh=>hlt (Zav.2 h)⟩)) h2))))
def ZBF (l:List Msg) (j n:Nat):Prop:=
 (∀(i:Nat) (x y:Msg),0<i→i<n→i≠j→(i - 1) / 2≠j→l[i]?=some x→l[(i - 1) / 2]?=some y→¬Zv x.key y.key)∧
 ∀(i:Nat) (x y:Msg),0<i→i<n→0<j→(i - 1) / 2=j→l[i]?=some x→l[(j - 1) / 2]?=some y→¬Zv x.key y.key
theorem ZBF.step {l:List Msg} {j c n:Nat} {x y:Msg} (h:ZBF l j n) (hc0:0<c) (hcn:c<n) (hcj:(c - 1) / 2=j) (hx:l[j]?=some x) (hy:l[c]?=some y) (hlt:Zv y.key x.key)
  (hmin:∀(i:Nat) (a:Msg),0<i→i<n→(i - 1) / 2=j→l[i]?=some a→¬Zv a.key y.key):Zc5 (ZeZ l j c x y) c n:=by
 obtain ⟨h1,h2⟩:=h
 have hg:=ZaL (i:=j) (k:=c) hx hy
 constructor
 ·intro i a b hi hn hij ha hb
  rw[hg] at ha hb
  rw[if_neg hij] at hb
  by_cases e1:i=c
  ·subst e1
   rw[if_pos rfl] at ha
   rw[if_pos hcj] at hb
   injection ha with ha
   injection hb with hb
   subst ha hb
   exact hlt.asymm
  ·rw[if_neg e1] at ha
   by_cases e2:(i - 1) / 2=j
   ·rw[if_pos e2] at hb
    rw[if_neg (by omega)] at ha
    injection hb with hb
    subst hb
    exact hmin i a hi hn e2 ha
   ·rw[if_neg e2] at hb
    by_cases e3:i=j
    ·rw[if_pos e3] at ha
     injection ha with ha
     subst ha
     subst e3
     exact h2 c y b hc0 hcn hi hcj hy hb
    ·rw[if_neg e3] at ha
     exact h1 i a b hi hn e3 e2 ha hb
 ·intro i a b hi hn hc hpar ha hb
  rw[hg] at ha hb
  rw[if_neg (by omega),if_neg (by omega)] at ha
  rw[if_neg (by omega),if_pos hcj] at hb
  injection hb with hb
  subst hb
  exact h1 i a y hi hn (by omega) (by omega) ha (by rw[hpar];exact hy)
theorem ZzM {q i0 n:Nat} {room:Int} {l:List Msg} (hn:n≤l.length) (hi0:i0≤n) (hl:l.length≤1001) (hS:Sat e w (Yc q room l::R))
  (hk0:(∀(i:Nat) (x y:Msg),0<i→i<n→(i - 1) / 2=i0→l[i]?=some x→l[i0]?=some y→¬Zv x.key y.key)→∀w',Sat e w' (Yc q room l::R)→K (.bool false) w')
  (hk:∀l' w',l'.Perm l→(∀i,n≤i→l'[i]?=l[i]?)→(ZBF l i0 n→Zb0 l' n)→Sat e w' (Yc q room l'::R)→K (.bool true) w') :
  Cl prog 96 #[.iface 300 (rcv q),.int .i64 (i0:Int),.int .i64 (n:Int)] w K:=by
 refine Zf3 ?_
 unfold Zmo
 refine J1.cut (λt7 w=>∃(i:Nat) (l':List Msg),t7=.int .i64 (i:Int)∧i0≤i∧l'.Perm l∧(∀i,n≤i→l'[i]?=l[i]?)∧(i=i0→l'=l∧∀(i:Nat) (x y:Msg),0<i→i<n→(i - 1) / 2=i0→l[i]?=some x→l[i0]?=some y→¬Zv x.key y.key)∧
   (i0<i→ZBF l i0 n→Zb0 l' n)∧Sat e w (Yc q room l'::R)) (λk1 hcut=>?_) ?_
 ·refine Zdk (λz t7 w=>∃(j:Nat) (l':List Msg),t7=.int .i64 (j:Int)∧z=n - j∧i0≤j∧j≤n∧l'.Perm l∧(∀i,n≤i→l'[i]?=l[i]?)∧(j=i0→l'=l)∧(i0<j→ZBF l i0 n→Zc5 l' j n)∧Sat e w (Yc q room l'::R)) (n - i0)
   ⟨i0,l,rfl,rfl,Nat.le_refl _,hi0,.refl _,λ_ _=>rfl,λ_=>rfl,(λh=>absurd h (Nat.lt_irrefl _)),hS⟩ ?_
  rintro z _ w g ⟨j,l',rfl,rfl,hij,hjn,hp,htail,hsame,hinv,h1⟩ hg
  have hlen:=hp.length_eq
  refine Zp5 (a:=2) (by omega) (Zb9 (b:=1) (by omega) ?_)
  have hend:∀w',(∀(i:Nat) (x y:Msg),0<i→i<n→(i - 1) / 2=j→l'[i]?=some x→l'[j]?=some y→¬Zv x.key y.key)→Sat e w' (Yc q room l'::R)→k1 (.int .i64 (j:Int)) w':=by
   intro w' hch h
   refine hcut _ _ ⟨j,l',rfl,hij,hp,htail,λe=>⟨hsame e,?_⟩,λhlt hh=>(hinv hlt hh).done hch,h⟩
   subst e
   have:=hsame rfl
   subst this
   exact hch
  refine Zu5 (λc1=>?_) (λc1=>?_)
  ·refine Zd (Zd (Yv (Zi (hend _ (λi x y hi hin hpar _ _=>?_) h1))))
   omega
  ·refine Zj (Zj (Ze7 (by omega) (Yd (Zf ?_))))
   refine Zb9 (b:=1) (by omega) ?_
   obtain ⟨x,hx⟩:=Zk (l:=l') (j:=j) (by omega)
   obtain ⟨y1,hy1⟩:=Zk (l:=l') (j:=2*j+1) (by omega)
   have hrest:∀(c:Nat) (y:Msg) w',(c=2*j+1∨c=2*j+1+1)→c<n→l'[c]?=some y→(∀(i:Nat) (a:Msg),0<i→i<n→(i - 1) / 2=j→l'[i]?=some a→¬Zv a.key y.key)→Sat e w' (Yc q room l'::R)→
     clI prog (.iface 300 (rcv q)) "Less" #[.int .i64 (c:Int),.int .i64 (j:Int)] w' λt38 w=>Zb3 t38 w λt39 w=>Zr t39 (k1 (.int .i64 (j:Int)) w)
      (clI prog (.iface 300 (rcv q)) "Swap" #[.int .i64 (j:Int),.int .i64 (c:Int)] w λ_ w=>g [.int .i64 (c:Int)] w):=by
    intro c y w' hc hcn hy hmin h2
    refine ZbS hy hx h2 λw3 h3=>?_
    by_cases hlt:ZeU y.key x.key<0
    ·rw[decide_eq_true hlt]
     refine ZaJ (Zf ?_)
     refine ZbT hx hy h3 λw4 h4=>?_
     refine hg _ _ _ (by omega) ⟨c,_,rfl,rfl,by omega,by omega,(ZcT hx hy).trans hp,λi hi=>?_,λe=>by omega,λ_ hh=>?_,h4⟩
     ·rw[ZaL hx hy,if_neg (by omega),if_neg (by omega)]
      exact htail i hi
     ·by_cases hj0:j=i0
      ·subst hj0
       have:=hsame rfl
       subst this
       exact hh.step (by omega) hcn (by omega) hx hy (Zav.1 hlt) hmin
      ·exact (hinv (by omega) hh).step (by omega) hcn (by omega) hx hy (Zav.1 hlt) hmin
    ·rw[decide_eq_false hlt]
     refine Zch (Zi (hend _ (λi a b hi hin hpar ha hb=>?_) h3))
     rw[hx] at hb
     injection hb with hb
     subst hb
     exact ZbN (hmin i a hi hin hpar ha) (λh=>hlt (Zav.2 h))
   refine Za7 (λc2=>?_) (λc2=>?_)
   ·obtain ⟨y2,hy2⟩:=Zk (l:=l') (j:=2*j+1+1) (by omega)
    refine Ze (Ze (Ze (Ze ?_)))
    refine ZbS hy2 hy1 h1 λw2 h2=>?_
    by_cases hlt:ZeU y2.key y1.key<0
    ·rw[decide_eq_true hlt]
     refine Yv (Zi ?_)
     refine hrest (2*j+1+1) y2 _ (.inr rfl) (by omega) hy2 (λi a hi hin hpar ha=>?_) h2
     have:i=2*j+1∨i=2*j+1+1:=by omega
     rcases this with rfl | rfl
     ·rw[hy1] at ha;injection ha with ha;subst ha;exact (Zav.1 hlt).asymm
     ·rw[hy2] at ha;injection ha with ha;subst ha;exact Zv.irrefl _
    ·rw[decide_eq_false hlt]
     refine Yv (Zf ?_)
     refine hrest (2*j+1) y1 _ (.inl rfl) (by omega) hy1 (λi a hi hin hpar ha=>?_) h2
     have:i=2*j+1∨i=2*j+1+1:=by omega
     rcases this with rfl | rfl
     ·rw[hy1] at ha;injection ha with ha;subst ha;exact Zv.irrefl _
     ·rw[hy2] at ha;injection ha with ha;subst ha;exact λh=>hlt (Zav.2 h)
   ·refine Zu (Zu (Zu (Zu (Yd (Zf ?_)))))
    refine hrest (2*j+1) y1 _ (.inl rfl) (by omega) hy1 (λi a hi hin hpar ha=>?_) h1
    have:i=2*j+1:=by omega
    subst this
    rw[hy1] at ha;injection ha with ha;subst ha;exact Zv.irrefl _
 ·rintro _ w ⟨i,l',rfl,hii,hp,htail,hsame,hd,h2⟩
  refine Ztu (λc=>?_) (λc=>?_)
  ·exact hk l' _ hp htail (hd (by omega)) h2
  ·have:i=i0:=by omega
   obtain ⟨hs1,hs2⟩:=hsame this
   subst hs1
   exact hk0 hs2 _ h2
theorem Zp7 {q i:Nat} {room:Int} {l:List Msg} {x:Msg} (hx:l[i]?=some x) (hl:l.length≤1001) (hS:Sat e w (Yc q room l::R))
  (hk:∀l' w',(l'++[x]).Perm l→(Zb0 l l.length→Zb0 l' l'.length)→Sat e w' (Yc q room l'::R)→K (.iface 40 (.agg x.cs.toArray)) w') :
  Cl prog 234 #[.iface 300 (rcv q),.int .i64 (i:Int)] w K:=by
 refine ZjV ?_
 unfold Zl7
 have h0:=(List.getElem?_eq_some_iff.1 hx).1
 obtain ⟨n,hn⟩:∃n,l.length=n+1:=⟨l.length - 1,by omega⟩
 obtain ⟨y,hy⟩:=Zk (l:=l) (j:=n) (by omega)
 refine Zh2 hS λw2 h2=>?_
 rw[hn]
 refine ZjR (by omega) (by omega) ?_
 rw[Nat.add_sub_cancel]
 have hlast:∀l2 w',l2.Perm l→l2[n]?=some x→(Zb0 l l.length→Zb0 l2 n)→Sat e w' (Yc q room l2::R)→clI prog (.iface 300 (rcv q)) "Pop" #[] w' K:=by
  intro l2 w' hp hln hh h
  have hl2:l2.length=n+1:=by rw[hp.length_eq,hn]
  have hsp:l2=l2.take n++[x]:=by
   have:=Zx hln
   rw[List.take_of_length_le (by omega)] at this
   exact this
  have hpf:(l2.take n++[x]).Perm l:=by rw[←hsp];exact hp
  rw[hsp] at h
  refine Zlm (by rw[List.length_take];omega) h λw5 h5=>hk _ _ hpf (λhl=>?_) h5
  have hh2:=hh hl
  intro i a b hi hin ha hb
  rw[List.length_take] at hin
  rw[List.getElem?_take,if_pos (by omega)] at ha hb
  exact hh2 i a b hi (by omega) ha hb
 refine ZrP (λc=>?_) (λc=>?_)
 ·have hin:i≠n:=λe=>c (by rw[e])
  refine Zi ?_
  refine ZbT hx hy h2 λw3 h3=>?_
  have hp1:=ZcT hx hy
  have hg1:=ZaL hx hy
  have hln1:(ZeZ l i n x y)[n]?=some x:=by rw[hg1,if_pos rfl]
  have hhole:Zb0 l l.length→ZBF (ZeZ l i n x y) i n:=by
   intro hh
   constructor
   ·intro a u v ha han hai hpi hu hv
    rw[hg1,if_neg (by omega),if_neg hai] at hu
    rw[hg1,if_neg (by omega),if_neg hpi] at hv
    exact hh a u v ha (by omega) hu hv
   ·intro a u v ha han hi0 hpar hu hv
    rw[hg1,if_neg (by omega),if_neg (by omega)] at hu
    rw[hg1,if_neg (by omega),if_neg (by omega)] at hv
    have h3:=hh a u x ha (by omega) hu (by rw[hpar];exact hx)
    have h4:=hh i x v hi0 (by omega) hx hv
    exact ZbN h3 h4
  refine ZzM (by rw[Zcx];omega) (by omega) (by rw[Zcx];omega) h3 (λhch w4 h4=>?_) (λl2 w4 hp2 htail hd h4=>?_)
  ·refine Zch (Zi ?_)
   refine ZFZ (n:=n) (by omega) (by rw[Zcx];omega) (by rw[Zcx];omega) h4 λl2 w5 hp2 htail hu h5=>?_
   refine hlast l2 _ (hp2.trans hp1) (by rw[htail n (Nat.le_refl _)];exact hln1) (λhh=>hu ⟨λa u v ha han hai hu' hv'=>?_,(hhole hh).2⟩) h5
   by_cases hpi:(a - 1) / 2=i
   ·rw[hpi] at hv';exact hch a u v ha han hpi hu' hv'
   ·exact (hhole hh).1 a u v ha han hai hpi hu' hv'
  ·refine ZaJ (Zf ?_)
   exact hlast l2 _ (hp2.trans hp1) (by rw[htail n (Nat.le_refl _)];exact hln1) (λhh=>hd (hhole hh)) h4
 ·have hin:i=n:=by omega
  subst hin
  refine Zf ?_
  exact hlast l _ (.refl _) hx (λhh a u v ha han hu hv=>hh a u v ha (by omega) hu hv) h2
theorem ZoC {q:Nat} {room:Int} {l:List Msg} {x:Msg} (hx:x∈l) (hl:l.length≤1001) (hS:Sat e w (Yc q room l::R))
  (hk:∀l' w',(l'++[x]).Perm l→(Zb0 l l.length→Zb0 l' l'.length)→Sat e w' (Yc q room l'::R)→K (.tuple #[.agg x.cs.toArray,.bool true]) w'):Cl prog 224 #[.pointer (some ⟨q,0,none⟩),.agg x.key.cs.toArray] w K:=by
 refine Zeh ?_
 unfold Zd7
 rw[ZNN,Zoc]
 obtain ⟨v,b,m,ha,h1⟩:=Zcq hS
 refine Yp (cs:=x.key.cs) h1 rfl λc w2 h2=>?_
 refine Yp (cs:=Yi [0,0,0,0,0,0]) h2 rfl λd w3 h3=>?_
 refine ZaY h3 λw4 h4=>?_
 refine Zh (Za (Zb h4 2 rfl (v:=.map (some b)) rfl ?_))
 refine Zo h4 1 (vs:=x.key.cs) rfl (by rfl) rfl ?_
 refine ZsE Zgm ZN6 h4 4 rfl x.key ?_
 obtain ⟨i,hi⟩:=List.mem_iff_getElem?.1 hx
 rw[(ha.ok x.key i).2 ⟨x,hi,rfl⟩]
 refine Zam (Zal (ZaJ (Zf ?_)))
 refine Zaf [.pointer (some ⟨q,0,none⟩)] (by kernel_rfl) ?_
 refine Zp7 hi hl (ZbP ha (h4.selR [_,_,_,_,_] [_,_,_,_] [2,3,4,0] (by decide) rfl)) λl' w5 hp hh h5=>?_
 refine ZvQ (by kernel_rfl) ?_
 refine Zq h5 1 rfl (vs:=x.cs) rfl rfl (Nat.le_of_ble_eq_true rfl) (Zg _) (cs':=x.cs) (by kernel_rfl) λw6 h6=>?_
 refine Zo h6 1 (vs:=x.cs) rfl (by rfl) rfl ?_
 exact hk _ _ hp hh (h6.selR [_,_] [_] [0] (by decide) rfl)
theorem Zmh {q:Nat} {room:Int} (hS:Sat e w (Yc q room []::R)) (hk:∀w',Sat e w' (Yc q room []::R)→K (.tuple #[.agg Msg.zero.cs.toArray,.bool false]) w'):Cl prog 110 #[.pointer (some ⟨q,0,none⟩)] w K:=by
 refine Zcm ?_
 unfold ZcE
 rw[ZNN]
 obtain ⟨v,b,m,ha,h1⟩:=Zcq hS
 refine Yp (cs:=Yi [0,0,0,0,0,0]) h1 rfl λd w3 h3=>?_
 refine Zh (Za (Zb h3 1 rfl (v:=v) rfl ?_))
 refine Zt h3 2 rfl (λ_=>Zp) ?_
 refine Znq rfl (Zi ?_)
 refine Zaf Msg.zero.cs (by kernel_rfl) ?_
 refine Zq h3 0 rfl (vs:=Msg.zero.cs) rfl rfl (Nat.le_of_ble_eq_true rfl) (Zg _) (cs':=Msg.zero.cs) (by kernel_rfl) λw4 h4=>?_
 refine Zo h4 0 (vs:=Msg.zero.cs) rfl (by rfl) rfl ?_
 exact hk _ (ZbP ha h4.drop)
theorem ZpH {q:Nat} {room:Int} {l:List Msg} {x:Msg} (hx:l[0]?=some x) (hS:Sat e w (Yc q room l::R))
  (hk:∀w',Sat e w' (Yc q room l::R)→K (.tuple #[.agg x.cs.toArray,.bool true]) w'):Cl prog 110 #[.pointer (some ⟨q,0,none⟩)] w K:=by
 refine Zcm ?_
 unfold ZcE
 rw[ZNN]
 obtain ⟨v,b,m,ha,h1⟩:=Zcq hS
 have h0:=(List.getElem?_eq_some_iff.1 hx).1
 refine Yp (cs:=Yi [0,0,0,0,0,0]) h1 rfl λd w3 h3=>?_
 refine Zh (Za (Zb h3 1 rfl (v:=v) rfl ?_))
 refine Zt h3 2 rfl (λ_=>Zp) ?_
 refine Zd8 (by omega) (Zf ?_)
 refine Zh (Za (Zb h3 1 rfl (v:=v) rfl ?_))
 refine Zw (j:=0) h3 2 rfl (λ_=>Zp) (λ_=>rfl) hx λp hp=>?_
 refine Ym h3 2 rfl hp rfl ?_
 refine Zq h3 0 rfl (vs:=x.cs) rfl rfl (Nat.le_of_ble_eq_true rfl) (Zg _) (cs':=x.cs) (by kernel_rfl) λw4 h4=>?_
 refine Zo h4 0 (vs:=x.cs) rfl (by rfl) rfl ?_
 exact hk _ (ZbP ha h4.drop)
end Go.Proofs.YtkpdpddmaoablaaGreat
end
section
namespace Go.Proofs.YtkpdpddmaoablaaGreat
open Go Go.E
set_option maxRecDepth 100000
variable {e w:World} {R:List HP} {K:KV}
structure Place (l:List Msg) (m:Msg) (p:Nat):Prop where
 le:p≤l.length
 low:∀z∈l.take p,¬Zv m.key z.key
 high:p=l.length∨∃y,l[p]?=some y∧Zv m.key y.key
def ZCz (l:List Msg) (m:Msg) (p:Nat):List Msg:=l.take p++m::l.drop p
def Up (l:List Msg):Prop:=l.Pairwise λa b=>Zv a.key b.key
theorem Place.up {l:List Msg} {m:Msg} {p:Nat} (h:Place l m p) (hu:Up l) (hne:∀y∈l,y.key≠m.key):Up (ZCz l m p):=by
 unfold Up ZCz at*
 have hs:(l.take p++l.drop p).Pairwise λa b=>Zv a.key b.key:=by rw[List.take_append_drop];exact hu
 obtain ⟨h1,h2,h3⟩:=List.pairwise_append.1 hs
 have hm:∀y∈l.drop p,Zv m.key y.key:=by
  intro y hy
  rcases h.high with hp | ⟨z,hz,hmz⟩
  ·rw[List.drop_of_length_le (by omega)] at hy;cases hy
  ·rw[Zaq hz] at hy h2
   rcases List.mem_cons.1 hy with rfl | hy
   ·exact hmz
   ·exact hmz.trans ((List.pairwise_cons.1 h2).1 y hy)
 refine List.pairwise_append.2 ⟨h1,List.pairwise_cons.2 ⟨hm,h2⟩,λz hz y hy=>?_⟩
 rcases List.mem_cons.1 hy with rfl | hy
 ·rcases Zv.tri z.key y.key with h4 | h4 | h4
  ·exact h4
  ·exact absurd h4 (hne z (List.mem_of_mem_take hz))
  ·exact absurd h4 (h.low z hz)
 ·exact h3 z hz y hy
structure ZHc (l:List Msg) (m:Msg) (i:Nat) (d:Bool) (c:List Msg):Prop where
 no:d=false→c=l.take i∧∀z∈l.take i,¬Zv m.key z.key
 yes:d=true→∃p y,p<i∧l[p]?=some y∧Zv m.key y.key∧(∀z∈l.take p,¬Zv m.key z.key)∧c=l.take p++m::(l.take i).drop p
theorem ZHc.len {l:List Msg} {m:Msg} {i:Nat} {d:Bool} {c:List Msg} (h:ZHc l m i d c) (_hi:i≤l.length):c.length≤i+1:=by
 cases d with
 | false=>rw[(h.no rfl).1,List.length_take];omega
 | true=>
  obtain ⟨p,y,hp,_,_,_,rfl⟩:=h.yes rfl
  simp only[List.length_append,List.length_cons,List.length_take,List.length_drop]
  omega
end Go.Proofs.YtkpdpddmaoablaaGreat
namespace Go.Proofs.YtkpdpddmaoablaaGreat
open Go Go.E
set_option maxRecDepth 100000
variable {e w:World} {R:List HP} {K:KV}
def without (l:List Msg) (k:Key):List Msg:=l.filter λx=>!decide (x.key=k)
end Go.Proofs.YtkpdpddmaoablaaGreat
end
section
namespace Go.Proofs.YtkpdpddmaoablaaGreat
open Go Go.E
set_option maxRecDepth 100000
instance (a b:Key):Decidable (Zv a b):=by unfold Zv;infer_instance
structure En where
 m:Msg
 ahead:Int
 sent:Int
 st:Int
 outs:List Msg
structure EnX where
 m:Msg
 ahead:Int
 sent:Int
 st:Int
 ov:Value
 outs:List Msg
def EnX.e (x:EnX):En:=⟨x.m,x.ahead,x.sent,x.st,x.outs⟩
variable {e w:World} {L Q R:List HP} {K:KV} {S S2:HP}
def EnX.cs (x:EnX):List Value:=[.int .i64 x.m.key.T,.int .i64 x.m.key.From,.int .i64 x.m.key.Seq,.int .i64 x.m.To,.int .i64 x.m.Class,.int .i64 x.m.Body,.int .i64 x.ahead,.int .i64 x.sent,.int .i64 x.st,x.ov]
def EnX.zero:EnX:=⟨Msg.zero,0,0,0,.slice none 0 0,[]⟩
def ZcP (x:EnX):HP:=Zz 40 6 Msg.cs x.ov x.outs
theorem EnX.flat {x:EnX} (h:flat x.ov=true):∀c∈x.cs,Go.E.flat c=true:=by
 intro c hc
 simp only[EnX.cs,List.mem_cons,List.not_mem_nil,or_false] at hc
 rcases hc with rfl | rfl | rfl | rfl | rfl | rfl | rfl | rfl | rfl | rfl <;> first | rfl | exact h
theorem Zne {a b:List HP} (h:Sat e w (Yh (a++b)::R)):Sat e w (Yh a::Yh b::R):=by
 have h1:=h.split
 rw[List.append_assoc] at h1
 have h2:Sat e w (Yh a::(b++R)):=Sat.join h1
 have h3:Sat e w (b++(Yh a::R)):=h2.perm List.perm_middle.symm
 exact (Sat.join h3).swap
theorem ZtR {a b:List HP} (h:Sat e w (Yh a::Yh b::R)):Sat e w (Yh (a++b)::R):=by
 have h1:Sat e w (b++(Yh a::R)):=Sat.split h.swap
 have h2:Sat e w (Yh a::(b++R)):=h1.perm List.perm_middle
 have h3:=h2.split
 rw[←List.append_assoc] at h3
 exact Sat.join h3
theorem Zt0 {a b:List HP} (hp:a.Perm b) (h:Sat e w (Yh a::R)):Sat e w (Yh b::R):=Sat.join (h.split.perm (hp.append_right R))
theorem ZlV {xs:List EnX} (i:Nat) (hS:Sat e w L) (hi:L[i]?=some (Yh (xs.map ZcP))) {x:EnX} (hx:x∈xs):flat x.ov=true:=by
 obtain ⟨j,hj⟩:=List.getElem?_of_mem hx
 have h1:=(hS.pick i hi).split
 have h2:(xs.map ZcP++L.eraseIdx i)[j]?=some (ZcP x):=by
  rw[List.getElem?_append_left (by rw[List.length_map];exact (List.getElem?_eq_some_iff.1 hj).1),List.getElem?_map,hj]
  rfl
 exact (h1.own_cells j h2).2
structure ZkM (l:List En):Prop where
 up:l.Pairwise λa b=>Zv a.m.key b.m.key
 len:l.length≤64
 outs:∀x∈l,x.outs.length≤1000
structure PV where
 lv:Value
 xs:List EnX
def Yf (p:Nat) (fl:Int) (l:List En):HP:=hex λv:PV=>Yh [pur (v.xs.map EnX.e=l∧ZkM l),blk p 178 [.int .i64 fl,v.lv],Zz 227 10 EnX.cs v.lv v.xs,Yh (v.xs.map ZcP)]
theorem Zfr {p:Nat} {fl:Int} {l:List En} (h:Sat e w (Yf p fl l::R)):∃lv xs,(xs.map EnX.e=l∧ZkM l)∧Sat e w (blk p 178 [.int .i64 fl,lv]::Zz 227 10 EnX.cs lv xs::Yh (xs.map ZcP)::R):=by
 obtain ⟨v,h0⟩:=h.ex
 exact ⟨v.lv,v.xs,Sat.pure h0.split⟩
theorem Zh1 {p:Nat} {fl:Int} {l:List En} {lv:Value} {xs:List EnX} (hp:xs.map EnX.e=l∧ZkM l) (h:Sat e w (blk p 178 [.int .i64 fl,lv]::Zz 227 10 EnX.cs lv xs::Yh (xs.map ZcP)::R)):Sat e w (Yf p fl l::R):=
 .mk_ex ⟨lv,xs⟩ (.join (l':=[_,_,_,_]) (.mk_pure hp h))
def Zwo (v:Value) (l:List En):HP:=hex λxs:List EnX=>Yh [pur (xs.map EnX.e=l),Zz 227 10 EnX.cs v xs,Yh (xs.map ZcP)]
theorem ZxO {v:Value} {l:List En} (h:Sat e w (Zwo v l::R)):∃xs,xs.map EnX.e=l∧Sat e w (Zz 227 10 EnX.cs v xs::Yh (xs.map ZcP)::R):=by
 obtain ⟨xs,h0⟩:=h.ex
 exact ⟨xs,Sat.pure h0.split⟩
theorem ZxK {v:Value} {xs:List EnX} (h:Sat e w (Zz 227 10 EnX.cs v xs::Yh (xs.map ZcP)::R)):Sat e w (Zwo v (xs.map EnX.e)::R):=.mk_ex xs (.join (l':=[_,_,_]) (.mk_pure rfl h))
theorem Zgk (hS:Sat e w R) (hk:∀p w',Sat e w' (Yf p 0 []::R)→K (.pointer (some ⟨p,0,none⟩)) w'):Cl prog 46 #[] w K:=by
 refine ZmL ?_
 unfold ZrX
 refine Zaf [.int .i64 0,.slice none 0 0] (by kernel_rfl) ?_
 refine Yp (cs:=[.int .i64 0,.slice none 0 0]) hS rfl λp w1 h1=>?_
 refine hk p _ (Zh1 (lv:=.slice none 0 0) (xs:=[]) ⟨rfl,.nil,by simp,by simp⟩ ?_)
 have h2:Sat e w1 (Yh []::blk p 178 [.int .i64 0,.slice none 0 0]::R):=Sat.join (l':=[]) h1
 have h3:=h2.own_nil 227 10 EnX.cs
 exact h3.selR [_,_,_] [_,_,_] [2,0,1] (by decide) rfl
theorem Zfi {p:Nat} {fl:Int} {l:List En} (hS:Sat e w (Yf p fl l::R)) (hk:K (.int .i64 fl) w):Cl prog 114 #[.pointer (some ⟨p,0,none⟩)] w K:=by
 refine ZfC ?_
 unfold ZfT
 obtain ⟨lv,xs,hp,h1⟩:=Zfr hS
 exact Zh (Za (Zb h1 0 rfl (v:=.int .i64 fl) rfl hk))
theorem Znx {p:Nat} {fl:Int} {l:List En} (hS:Sat e w (Yf p fl l::R)) (hk:K (.int .i64 (l.length:Int)) w):Cl prog 58 #[.pointer (some ⟨p,0,none⟩)] w K:=by
 refine Zib ?_
 unfold ZiH
 obtain ⟨lv,xs,hp,h1⟩:=Zfr hS
 refine Zh (Za (Zb h1 0 rfl (v:=lv) rfl ?_))
 refine Zt h1 1 rfl (λ_=>Zp) ?_
 rw[show (xs.length:Int)=l.length from by rw[←hp.1,List.length_map]]
 exact hk
theorem Zrr {p:Nat} {fl:Int} {l:List En} (hS:Sat e w (Yf p fl l::R)) (hk:∀v w',Sat e w' (Zz 38 3 Key.cs v (l.map λx=>x.m.key)::Yf p fl l::R)→K v w'):Cl prog 229 #[.pointer (some ⟨p,0,none⟩)] w K:=by
 refine Zgt ?_
 unfold Zhm
 obtain ⟨lv,xs,hp,h1⟩:=Zfr hS
 have hxl:xs.length≤64:=by have:=hp.2.len;rw[←hp.1,List.length_map] at this;exact this
 refine Zh (Za (Zb h1 0 rfl (v:=lv) rfl ?_))
 refine Zt h1 1 rfl (λ_=>Zp) ?_
 rw[ZN8]
 refine ZjF (λq t3 t11 w=>∃j:Nat,j≤xs.length∧t11=.int .i64 j∧q=xs.length - j∧Sat e w (Zz 38 3 Key.cs t3 ((xs.take j).map λx=>x.m.key)::blk p 178 [.int .i64 fl,lv]::Zz 227 10 EnX.cs lv xs::Yh (xs.map ZcP)::R)) xs.length
  ⟨0,Nat.zero_le _,rfl,rfl,h1.own_nil 38 3 Key.cs⟩ ?_
 rintro q t3 _ w g ⟨j,hj,rfl,rfl,h2⟩ hg
 refine Za7 (λc=>Zi ?_) (λc=>Zf ?_)
 ·obtain ⟨x,hx⟩:=Zk (l:=xs) (j:=j) (by omega)
  refine Zw h2 2 rfl (λ_=>Zp) (λ_=>rfl) hx λa ha=>Ym h2 2 rfl ha rfl ?_
  refine Yp (cs:=EnX.zero.cs) h2 rfl λb w3 h3=>?_
  refine Zq h3 0 rfl (vs:=x.cs) rfl rfl (by simp[EnX.zero,EnX.cs]) (EnX.flat (ZlV 4 h3 rfl (List.mem_of_getElem? hx))) (cs':=x.cs) (by rfl) λw4 h4=>?_
  refine Za (Za (Zo h4 0 (vs:=x.m.key.cs) rfl (by rfl) rfl ?_))
  refine Zj7 ZRy (f:=Key.cs) (λ_=>rfl) (λ_=>Zg _) h4.swap (x:=x.m.key) rfl (by rw[List.length_map,List.length_take];omega) λv' w5 h5=>?_
  refine Yr (by omega) ?_
  refine hg _ _ _ _ (by omega) ⟨j+1,by omega,rfl,rfl,?_⟩
  rw[Zx hx,List.map_append]
  exact h5.selR [_,_] [_] [0] (by decide) rfl
 ·have ej:j=xs.length:=by omega
  rw[ej,List.take_length] at h2
  have hke:xs.map (λx=>x.m.key)=l.map λx=>x.m.key:=by rw[←hp.1,List.map_map];rfl
  rw[hke] at h2
  refine hk _ _ (Sat.swap (Zh1 (lv:=lv) hp ?_))
  exact h2.selR [_,_,_,_] [_,_,_,_] [1,2,3,0] (by decide) rfl
theorem Zw8 {v:Value} {l:List Msg} (i:Nat) (hi:L[i]?=some S) (hl:l.length≤1000000) (hS:Sat e w L) (hr:∀g,S g→rdS 6 Msg.cs v l g)
  (hk:∀v' w',Sat e w' (Zz 40 6 Msg.cs v' l::L)→K v' w'):Cl prog 187 #[v] w K:=by
 have hback:∀{X:HP} {w'},Sat e w' (X::S::L.eraseIdx i)→Sat e w' (X::L):=λh=>h.perm (List.Perm.cons _ (ZfR L i S hi).symm)
 have h0:=hS.pick i hi
 refine ZaE ?_
 unfold Zaw
 obtain ⟨A,c,rfl,_⟩:=h0.shape 0 rfl hr
 cases A with
 | none=>
  refine Yn (w':=w) (v:=.bool true) (by kernel_rfl) ?_
  have hnil:l=[]:=by
   obtain ⟨g,hg,_⟩:=h0.get 0 rfl
   obtain ⟨A',c',h1,h2,h3⟩:=hr g hg
   injection h1 with e1 e2 e3
   by_cases h0:0<l.length
   ·obtain ⟨a,ha,_⟩:=h3 h0
    rw[←e1] at ha
    cases ha
   ·exact List.length_eq_zero_iff.1 (by omega)
  subst hnil
  exact Zi (hk _ _ (hback (h0.own_nil 40 6 Msg.cs)))
 | some a=>
  refine Yn (w':=w) (v:=.bool false) (by kernel_rfl) ?_
  refine Zf ?_
  refine Zw3 h0 Msg.cs λv1 w2 h2=>?_
  refine Zeo ZPm ZOF (f:=Msg.cs) (λ_=>rfl) (λ_=>Zg _) h2 hr (by simp;omega) λv2 w3 h3=>?_
  rw[List.nil_append] at h3
  exact hk _ _ (hback h3)
theorem Znb {x:EnX} (i:Nat) (hi:L[i]?=some S) (hl:x.outs.length≤1000000) (hS:Sat e w L) (hr:∀g,S g→rdS 6 Msg.cs x.ov x.outs g)
  (hk:∀v' w',Sat e w' (ZcP ⟨x.m,x.ahead,x.sent,x.st,v',x.outs⟩::L)→K (.agg (EnX.cs ⟨x.m,x.ahead,x.sent,x.st,v',x.outs⟩).toArray) w'):Cl prog 228 #[.agg x.cs.toArray] w K:=by
 refine ZmW ?_
 unfold ZrL
 refine Yp (cs:=x.cs) hS rfl λb w1 h1=>?_
 rw[ZN8]
 refine Yp (cs:=EnX.zero.cs) h1 rfl λb2 w2 h2=>?_
 refine Za (Zb h2 1 rfl (v:=x.ov) rfl ?_)
 refine Zw8 (i+2) (by simpa using hi) hl h2 hr λv' w3 h3=>?_
 have q1:=h3.own_cells 0 rfl
 refine Za (Zq h3 2 rfl (vs:=[v']) q1.1 rfl (Nat.le_of_ble_eq_true rfl) (λc hc=>by rw[List.mem_singleton.1 hc];exact q1.2) (cs':=(EnX.cs ⟨x.m,x.ahead,x.sent,x.st,v',x.outs⟩)) (by rfl) λw4 h4=>?_)
 refine Zo h4 2 (vs:=(EnX.cs ⟨x.m,x.ahead,x.sent,x.st,v',x.outs⟩)) rfl (by rfl) rfl ?_
 refine Zq h4 1 rfl (vs:=(EnX.cs ⟨x.m,x.ahead,x.sent,x.st,v',x.outs⟩)) rfl rfl (by simp[EnX.zero,EnX.cs]) (EnX.flat q1.2) (cs':=(EnX.cs ⟨x.m,x.ahead,x.sent,x.st,v',x.outs⟩)) (by rfl) λw5 h5=>?_
 refine Zo h5 1 (vs:=(EnX.cs ⟨x.m,x.ahead,x.sent,x.st,v',x.outs⟩)) rfl (by rfl) rfl ?_
 exact hk _ _ (h5.selR [_,_,_] [_] [0] (by decide) rfl)
theorem ZqS {p:Nat} {fl:Int} {l:List En} (hS:Sat e w (Yf p fl l::R))
  (h0:l=[]→∀w',Sat e w' (Yf p fl l::R)→K (.tuple #[.agg EnX.zero.cs.toArray,.bool false]) w')
  (h1:∀(x:EnX) (l':List En),l=l'++[x.e]→∀w',Sat e w' (ZcP x::Yf p fl l::R)→K (.tuple #[.agg x.cs.toArray,.bool true]) w'):Cl prog 226 #[.pointer (some ⟨p,0,none⟩)] w K:=by
 refine Zgz ?_
 unfold Zhi
 obtain ⟨lv,xs,hp,h2⟩:=Zfr hS
 have hxl:xs.length≤64:=by have:=hp.2.len;rw[←hp.1,List.length_map] at this;exact this
 rw[ZN8]
 refine Yp (cs:=EnX.zero.cs) h2 rfl λt2 w3 h3=>?_
 refine Zh (Za (Zb h3 1 rfl (v:=lv) rfl ?_))
 refine Zt h3 2 rfl (λ_=>Zp) ?_
 refine ZoR (λc=>Zi ?_) (λc=>Zf ?_)
 ·have hx0:xs=[]:=List.length_eq_zero_iff.1 (by omega)
  refine Zaf EnX.zero.cs (by kernel_rfl) ?_
  refine Zq h3 0 rfl (vs:=EnX.zero.cs) rfl rfl (by simp[EnX.zero,EnX.cs]) (EnX.flat rfl) (cs':=EnX.zero.cs) (by kernel_rfl) λw4 h4=>?_
  refine Zo h4 0 (vs:=EnX.zero.cs) rfl (by rfl) rfl ?_
  exact h0 (by rw[←hp.1,hx0];rfl) _ (Zh1 hp h4.drop)
 ·refine ZaY h3 λw4 h4=>?_
  refine Zh (Za (Zb h4 1 rfl (v:=lv) rfl ?_))
  refine Zh (Za (Zb h4 1 rfl (v:=lv) rfl ?_))
  refine Zt h4 2 rfl (λ_=>Zp) ?_
  refine ZoJ (by omega) (by omega) ?_
  rw[show (xs.length:Int) - 1=((xs.length - 1:Nat):Int) from by omega]
  obtain ⟨x,hx⟩:=Zk (l:=xs) (j:=xs.length - 1) (by omega)
  have hxm:=List.mem_of_getElem? hx
  have hout:x.outs.length≤1000:=hp.2.outs x.e (by rw[←hp.1];exact List.mem_map_of_mem hxm)
  refine Zw h4 2 rfl (λ_=>Zp) (λ_=>rfl) hx λa ha=>Ym h4 2 rfl ha rfl ?_
  refine Znb (x:=x) 3 rfl (by omega) h4 (λg hg=>?_) λv' w5 h5=>?_
  ·obtain ⟨j,hj⟩:=List.getElem?_of_mem hxm
   obtain ⟨hs,k1,k2⟩:=ZcB.get (S:=ZcP x) (l:=xs.map ZcP) hg (i:=j) (by rw[List.getElem?_map,hj];rfl)
   obtain ⟨A,c,q1,q2,q3⟩:=Zp k1
   exact ⟨A,c,q1,q2,λh0=>by obtain ⟨a,h4,h5⟩:=q3 h0;exact ⟨a,h4,h5.up k2⟩⟩
  have q1:=h5.own_cells 0 rfl
  refine Zq h5 1 rfl (vs:=(EnX.cs ⟨x.m,x.ahead,x.sent,x.st,v',x.outs⟩)) rfl rfl (by simp[EnX.zero,EnX.cs]) (EnX.flat q1.2) (cs':=(EnX.cs ⟨x.m,x.ahead,x.sent,x.st,v',x.outs⟩)) (by rfl) λw6 h6=>?_
  refine Zo h6 1 (vs:=(EnX.cs ⟨x.m,x.ahead,x.sent,x.st,v',x.outs⟩)) rfl (by rfl) rfl ?_
  have hsp:xs=xs.take (xs.length - 1)++[x]:=by
   conv=>lhs;rw[←List.take_append_drop (xs.length - 1) xs,Zaq hx,List.drop_of_length_le (by omega)]
  refine h1 ⟨x.m,x.ahead,x.sent,x.st,v',x.outs⟩ ((xs.take (xs.length - 1)).map EnX.e) ?_ _ ?_
  ·rw[←hp.1]
   conv=>lhs;rw[hsp,List.map_append]
   rfl
  ·have h7:=Zh1 hp (h6.selR [_,_,_,_,_] [_,_,_,_] [2,3,4,0] (by decide) rfl)
   exact h7.swap
end Go.Proofs.YtkpdpddmaoablaaGreat
end
