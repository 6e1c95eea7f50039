/- Texts of the proof, joined. Conditions: none. -/
import Derived.Test.YtnhaekgogppbiaaGreatP4
section
namespace Go.Proofs.YtnhaekgogppbiaaGreat
open Go Go.E
set_option maxRecDepth 100000
variable {e w:World} {L R:List HP} {K:KV} {S S2:HP}
theorem ZK2 {v:Value} {ps:List Int} {a:Int} (i:Nat) (hi:L[i]?=some S) (hS:Sat e w L) (hr:∀g,S g→rdS 1 (Ye .i64) v ps g) (ht:ZkT ps) (ha:0≤a∧a<ps.length)
  (hk:∀v w',Sat e w' (Zz 3 1 (Ye .i64) v (ZsD ps a)::L)→K v w'):Cl prog 136 #[v,.int .i64 a] w K:=by
 refine ZJW ?_
 unfold ZJL
 refine Zw3 hS (Ye .i64) λv0 w1 h1=>?_
 have hi1:∀X:HP,(X::L)[i+1]?=some S:=λX=>by simpa using hi
 refine ZKD (i+1) (hi1 _) h1 hr ?_
 have htE:ZhY ps=0:=by unfold ZhY;exact if_pos ht
 rw[htE]
 refine ZoP rfl (Zj (Zj (Ze7 (by omega) (Yd (Zj (Zj (Zj (Zt h1 (i+1) (hi1 _) hr ?_))))))))
 refine Zj (ZnR (by omega) (Yd (Zf ?_)))
 have hpl:=ht.2.1
 refine ZjF (λq t1 t5 w=>∃(z:Int) (acc:List Int),t1=.int .i64 z∧q=(z+1).toNat∧-1≤z∧z<ps.length∧acc.length+(z+1).toNat≤17∧(∃n:Nat,z<n∧acc++upL ps n z=ZsD ps a)∧Sat e w (Zz 3 1 (Ye .i64) t5 acc::L)) (a+1).toNat
  ⟨a,[],rfl,rfl,by omega,ha.2,by simp;omega,⟨a.toNat+1,by omega,rfl⟩,h1⟩ ?_
 rintro q _ t5 w g ⟨z,acc,rfl,rfl,hz1,hzl,hacc,⟨n,hzn,heq⟩,h2⟩ hg
 refine Zu5 (λc1=>Zi ?_) (λc1=>Zf ?_)
 ·obtain ⟨m,rfl⟩:∃m,n=m+1:=⟨n - 1,by omega⟩
  rw[Zse,if_neg (by omega)] at heq
  obtain ⟨y,hy⟩:=Zk (l:=ps) (j:=z.toNat) (by omega)
  have hzN:z=((z.toNat:Nat):Int):=by omega
  have hp:=ht.2.2 z.toNat y hy
  have hgd:ps.getD z.toNat (-1)=y:=by rw[List.getD_eq_getElem?_getD,hy];rfl
  rw[hgd] at heq
  refine Zj7 Zvs (f:=Ye .i64) (λ_=>rfl) (λ_ _ h=>by simp[Ye] at h;subst h;rfl) h2 (x:=z) rfl (by omega) λv' w8 h8=>?_
  rw[show Value.int .i64 z=.int .i64 ((z.toNat:Nat):Int) from by rw[←hzN]]
  refine Zw h8 (i+1) (hi1 _) hr (λ_=>rfl) hy λq hq=>?_
  refine Yt h8 (i+1) (hi1 _) hq (v:=.int .i64 y) rfl ?_
  refine hg (y+1).toNat _ _ _ (by omega) ⟨y,acc++[z],rfl,rfl,by omega,by omega,by rw[List.length_append,List.length_singleton];omega,⟨m,by omega,?_⟩,h8⟩
  rw[List.append_assoc]
  exact heq
 ·rw[Zza ps (by omega),List.append_nil] at heq
  refine hk _ _ ?_
  rw[←heq]
  exact h2
theorem ZLg (ps:List Int) (c:Int) (f:Fed):Zl1 ps c f=(ZsD ps c).any λs=>decide (s∈f.Subs):=by
 unfold Zl1
 rw[Bool.eq_iff_iff,List.any_eq_true,List.any_eq_true]
 constructor
 ·rintro ⟨s,h1,h2⟩
  exact ⟨s,of_decide_eq_true h2,decide_eq_true h1⟩
 ·rintro ⟨s,h1,h2⟩
  exact ⟨s,of_decide_eq_true h2,decide_eq_true h1⟩
theorem ZLA (ps:List Int):∀(n:Nat) (a:Int),(upL ps n a).length≤n
 | 0,_=>Nat.le_refl _
 | n+1,a=>by
  rw[Zse]
  split
  ·simp
  ·have:=ZLA ps n (ps.getD a.toNat (-1))
   rw[List.length_cons]
   omega
theorem ZKR {x:WdX} {f c:Int} (i:Nat) (hi:L[i]?=some S) (hS:Sat e w L) (hr:∀g,S g→ZtG x g) (hs:x.short) (ht:ZkT x.Parents) (hc:0≤c∧c<x.Parents.length)
  (hk:∀v w',Sat e w' (Zz 3 1 (Ye .i64) v (Zba x.w.Parents f c x.w.Feds)::L)→K v w'):Cl prog 121 #[.agg x.cs.toArray,.int .i64 f,.int .i64 c] w K:=by
 refine ZJQ ?_
 unfold ZJz
 refine Yp (cs:=x.cs) hS rfl λb w1 h1=>?_
 refine Za (Zb h1 0 rfl (v:=x.pv) rfl ?_)
 refine ZK2 (i+1) (by simpa using hi) h1 (λg hg=>(hr g hg).par) ht hc λav w2 h2=>?_
 have hal:(ZsD x.Parents c).length≤1000:=by
  have h3:=ZLA x.Parents (c.toNat+1) c
  have h4:=ht.2.1
  unfold ZsD
  omega
 have hab:=λf=>ZLg x.Parents c f
 generalize ZsD x.Parents c=ab at h2 hal hab
 refine Zw3 h2 (Ye .i64) λv0 w3 h3=>?_
 have hfl:=hs.feds
 refine ZjF (λq t7 t13 w=>∃j:Nat,j≤x.Feds.length∧t13=.int .i64 j∧q=x.Feds.length - j∧Sat e w (Zz 3 1 (Ye .i64) t7 (Zba x.Parents f c ((x.Feds.take j).map Zao.f))::Zz 3 1 (Ye .i64) av ab::blk b 25 x.cs::L)) x.Feds.length
  ⟨0,Nat.zero_le _,rfl,rfl,h3⟩ ?_
 rintro q t7 _ w g ⟨j,hj,rfl,rfl,h4⟩ hg
 have hi3:(Zz 3 1 (Ye .i64) t7 (Zba x.Parents f c ((x.Feds.take j).map Zao.f))::Zz 3 1 (Ye .i64) av ab::blk b 25 x.cs::L)[i+3]?=some S:=by simpa using hi
 refine Za (Zb h4 2 rfl (v:=x.fv) rfl ?_)
 refine Zt h4 (i+3) hi3 (λg hg=>(hr g hg).feds) ?_
 refine Za7 (λc0=>Zi ?_) (λc0=>Zf ?_)
 ·obtain ⟨fd,hf⟩:=Zk (l:=x.Feds) (j:=j) (by omega)
  have hfm:=List.mem_of_getElem? hf
  have hlen:((x.Feds.take j).map Zao.f).length=j:=by rw[List.length_map,List.length_take];omega
  have hsn:Zba x.Parents f c ((x.Feds.take (j+1)).map Zao.f)=Zba x.Parents f c ((x.Feds.take j).map Zao.f)++if (j:Int)≠f∧Zl1 x.Parents c fd.f=true then [(j:Int)] else []:=by
   rw[Zx hf,List.map_append,List.map_singleton,ZpM,hlen]
  have hrl:=ZhD x.Parents f c ((x.Feds.take j).map Zao.f)
  rw[hlen] at hrl
  refine J1.cut (λt7 w=>Sat e w (Zz 3 1 (Ye .i64) t7 (Zba x.Parents f c ((x.Feds.take (j+1)).map Zao.f))::Zz 3 1 (Ye .i64) av ab::blk b 25 x.cs::L)) (λk2 hcut=>?_) (λt7 w h5=>?_)
  ·rw[hsn,hab] at hcut
   refine ZjF (λq t10 t11 w=>∃n:Nat,n≤ab.length∧t11=.int .i64 n∧q=ab.length - n∧t10=.bool ((ab.take n).any λs=>decide (s∈fd.f.Subs))∧Sat e w (Zz 3 1 (Ye .i64) t7 (Zba x.Parents f c ((x.Feds.take j).map Zao.f))::Zz 3 1 (Ye .i64) av ab::blk b 25 x.cs::L)) ab.length
    ⟨0,Nat.zero_le _,rfl,rfl,by simp,h4⟩ ?_
   rintro q _ _ w g2 ⟨n,hn,rfl,rfl,rfl,h5⟩ hg2
   refine Zt h5 1 rfl (λ_=>Zp) ?_
   refine Za7 (λc1=>Zi ?_) (λc1=>Zf ?_)
   ·obtain ⟨s,hsn2⟩:=Zk (l:=ab) (j:=n) (by omega)
    refine ZaY h5 λw6 h6=>?_
    have hgo:∀w',Sat e w' (Zz 3 1 (Ye .i64) t7 (Zba x.Parents f c ((x.Feds.take j).map Zao.f))::Zz 3 1 (Ye .i64) av ab::blk b 25 x.cs::L)→bi .add .i64 (.int .i64 n) (.int .i64 1) w' λt29 w=>g2 [.bool ((ab.take (n+1)).any λs=>decide (s∈fd.f.Subs)),t29] w:=λw' h'=>by
     refine Yr (by omega) ?_
     exact hg2 _ _ _ _ (by omega) ⟨n+1,by omega,rfl,rfl,rfl,h'⟩
    have hst:((ab.take (n+1)).any λs=>decide (s∈fd.f.Subs))=(((ab.take n).any λs=>decide (s∈fd.f.Subs)) || decide (s∈fd.f.Subs)):=by
     rw[Zx hsn2,List.any_append]
     simp
    rw[hst] at hgo
    cases hb:(ab.take n).any λs=>decide (s∈fd.f.Subs) with
    | true=>
     rw[hb] at hgo
     refine Zd (Zd (Zd (Zd (Zd (Zd (Zd (Zd (Zd (Zd (Zd (Yv ?_)))))))))))
     exact hgo _ h6
    | false=>
     rw[hb] at hgo
     refine Zj (Za (Zj (Zb h6 2 rfl (v:=x.fv) rfl (Zj ?_))))
     refine Zj (Zw h6 (i+3) hi3 (λg hg=>(hr g hg).feds) (λ_=>rfl) hf λa ha=>?_)
     refine Zj (Zbd ha λa1 ha1=>Zj (Yt h6 (i+3) hi3 ha1 (v:=fd.sv) rfl ?_))
     refine Zj (Zj (Zj (Zw h6 1 rfl (λ_=>Zp) (λ_=>rfl) hsn2 λa ha=>?_)))
     refine Zj (Yt h6 1 rfl ha (v:=.int .i64 s) rfl (Zj ?_))
     refine ZKB (i+3) hi3 h6 (λg hg=>((hr g hg).fed fd hfm).subs) (by have:=(hs.fed fd hfm).subs;omega) ?_
     refine Yd ?_
     exact hgo _ h6
   ·have en:n=ab.length:=by omega
    rw[en,List.take_length]
    have hskip:¬((j:Int)≠f∧(ab.any λs=>decide (s∈fd.f.Subs))=true)→k2 t7 w:=λh=>by
     rw[if_neg h,List.append_nil] at hcut
     exact hcut _ _ h5
    refine ZrP (λc2=>?_) (λc2=>?_)
    ·refine Ze ?_
     cases hb:ab.any λs=>decide (s∈fd.f.Subs) with
     | true=>
      refine Yv (Zi ?_)
      refine Zj7 Zvs (f:=Ye .i64) (λ_=>rfl) (λ_ _ h=>by simp[Ye] at h;subst h;rfl) h5 (x:=(j:Int)) rfl (by omega) λv' w8 h8=>?_
      refine hcut _ _ ?_
      rw[if_pos ⟨c2,hb⟩]
      exact h8
     | false=>
      refine Yv (Zf (hskip λh=>?_))
      rw[hb] at h
      cases h.2
    ·refine Zu (Yd (Zf ?_))
     exact hskip λh=>h.1 c2
  ·refine Yr (by omega) ?_
   exact hg _ _ _ _ (by omega) ⟨j+1,by omega,rfl,rfl,h5⟩
 ·have ej:j=x.Feds.length:=by omega
  rw[ej,List.take_length] at h4
  exact hk _ _ (h4.selR [_,_,_] [_] [0] (by decide) rfl)
theorem ZK7 {f seq now body:Int} {o:Out} (hS:Sat e w L) (hk:∀w',Sat e w' L→K (.agg (Zim f seq now body o).cs.toArray) w') :
  Cl prog 120 #[.int .i64 f,.int .i64 seq,.int .i64 now,.int .i64 body,.agg o.cs.toArray] w K:=by
 refine ZJ8 ?_
 unfold ZJS
 refine Yp (cs:=o.cs) hS rfl λt9 w1 h1=>?_
 rw[ZTr]
 refine Yp (cs:=Msg.zero.cs) h1 rfl λt10 w2 h2=>?_
 refine Zwn (by decide) ?_
 obtain ⟨k1,a1,a2,a3⟩:=ZFK body
 generalize hr1:body.tmod 1000=r1 at a1 a2 a3
 refine Za (Zb h2 1 rfl (v:=.int .i64 o.Add) rfl ?_)
 refine Zwn (by decide) ?_
 obtain ⟨k2,b1,b2,b3⟩:=ZFK o.Add
 generalize hr2:o.Add.tmod 1000=r2 at b1 b2 b3
 refine ZcD (by omega) (by omega) ?_
 refine Zwn (by decide) ?_
 obtain ⟨k3,c1,c2,c3⟩:=ZFK (r1+r2)
 generalize hr3:(r1+r2).tmod 1000=r3 at c1 c2 c3
 refine ZcD (by omega) (by omega) ?_
 refine ZaY h2 λw3 h3=>?_
 refine Za (Zb h3 1 rfl (v:=.int .i64 o.Delay) rfl ?_)
 refine Za (Zb h3 1 rfl (v:=.int .i64 o.Class) rfl ?_)
 refine Zwn (by decide) ?_
 rw[Int.tmod_eq_emod_of_nonneg (by omega)]
 refine ZLe ?_
 have oC:ld1 (.pointer (some ⟨t9,0+0,none⟩)) w3 (λv' w''=>v'=.int .i64 o.Class∧w''=w3):=Zb h3 1 rfl (v:=.int .i64 o.Class) rfl ⟨rfl,rfl⟩
 refine ⟨oC,Zaf (Yi [ZvS now o.Delay,f,seq]) (by kernel_rfl) ⟨oC,?_⟩⟩
 rw[show (r3+1000) % 1000=(body+o.Add) % 1000 from by omega]
 refine Zaf (Zim f seq now body o).cs (by kernel_rfl) ?_
 refine Zq h3 0 rfl (vs:=(Zim f seq now body o).cs) rfl rfl (by simp[Yi,Msg.ns,Msg.zero]) (Zg _) (cs':=(Zim f seq now body o).cs) (by rfl) λw4 h4=>?_
 refine Zo h4 0 (vs:=(Zim f seq now body o).cs) rfl (by rfl) rfl ?_
 exact hk _ h4.drop.drop
theorem ZKz {x:WdX} {f seq now body:Int} {v:Value} {outs:List Out} (i k:Nat) (hi:L[i]?=some S) (hk2:L[k]?=some S2) (hS:Sat e w L) (hr:∀g,S g→ZtG x g) (hr2:∀g,S2 g→rdS 3 Out.cs v outs g) (hs:x.short) (ht:ZkT x.Parents)
  (ho:∀o∈outs,Zpq x.Parents.length o) (hl:outs.length≤1000) (hq:0≤seq∧seq≤1125899906842624)
  (hk:∀v w',Sat e w' (Zz 81 6 Msg.cs v (Zau x.w.Parents x.w.Feds f seq now body outs)::L)→K v w'):Cl prog 94 #[.agg x.cs.toArray,.int .i64 f,.int .i64 seq,.int .i64 now,.int .i64 body,v] w K:=by
 refine ZJP ?_
 unfold ZJA
 refine Yp (cs:=x.cs) hS rfl λb w1 h1=>?_
 have hi1:(blk b 25 x.cs::L)[i+1]?=some S:=by simpa using hi
 have hk1:(blk b 25 x.cs::L)[k+1]?=some S2:=by simpa using hk2
 have hfl:=hs.feds
 rw[ZTr]
 refine Zw3 h1 Msg.cs λv0 w1b h1b=>?_
 have hflat:=ZoI i hi hS hr
 refine ZjF (λq t13 t21 w=>∃j:Nat,j≤outs.length∧t21=.int .i64 j∧q=outs.length - j∧Sat e w (Zz 81 6 Msg.cs t13 (Zau x.w.Parents x.w.Feds f seq now body (outs.take j))::blk b 25 x.cs::L)) outs.length
  ⟨0,Nat.zero_le _,rfl,rfl,h1b⟩ ?_
 rintro q t13 _ w g ⟨j,hj,rfl,rfl,h2⟩ hg
 refine Zt h2 (k+2) (by simpa using hk2) hr2 ?_
 refine Za7 (λc0=>Zi ?_) (λc0=>Zf ?_)
 ·obtain ⟨o,hoj⟩:=Zk (l:=outs) (j:=j) (by omega)
  obtain ⟨o1,o2,o3⟩:=ho o (List.mem_of_getElem? hoj)
  have hlen:(outs.take j).length=j:=by rw[List.length_take];omega
  have hsn:Zau x.w.Parents x.w.Feds f seq now body (outs.take (j+1))=Zau x.w.Parents x.w.Feds f seq now body (outs.take j)++(Zba x.w.Parents f o.Class x.w.Feds).map λto=>{ Zim f (seq+j) now body o with To:=to }:=by
   rw[Zx hoj,ZpO,hlen]
  have hsl:=ZcU x.w.Parents x.w.Feds f seq now body (outs.take j)
  have hfl2:x.w.Feds.length≤1000:=by simp only[WdX.w,List.length_map];exact hfl
  rw[hlen] at hsl
  have hsl2:j*x.w.Feds.length≤1000*1000:=Nat.mul_le_mul (by omega) hfl2
  have hi2:(Zz 81 6 Msg.cs t13 (Zau x.w.Parents x.w.Feds f seq now body (outs.take j))::blk b 25 x.cs::L)[i+2]?=some S:=by simpa using hi
  have hk3:(Zz 81 6 Msg.cs t13 (Zau x.w.Parents x.w.Feds f seq now body (outs.take j))::blk b 25 x.cs::L)[k+2]?=some S2:=by simpa using hk2
  refine ZcD (by omega) (by omega) ?_
  refine Zw h2 (k+2) hk3 hr2 (λ_=>rfl) hoj λa ha=>?_
  refine Ym h2 (k+2) hk3 ha rfl ?_
  refine ZK7 h2 λw5 h5=>?_
  refine Yp (cs:=Msg.zero.cs) h5 rfl λtm w6 h6=>?_
  generalize hm:Zim f (seq+j) now body o=m at hsn h6 ⊢
  have hmc:m.Class=o.Class:=by rw[←hm];rfl
  refine Zq h6 0 rfl (vs:=m.cs) rfl rfl (by decide) (Zg _) (cs':=m.cs) (by rfl) λw7 h7=>?_
  refine Zo h7 2 (vs:=x.cs) rfl (by rfl) rfl ?_
  refine Za (Zb h7 0 rfl (v:=.int .i64 m.Class) rfl ?_)
  rw[hmc]
  refine ZKR (x:=x) (i+3) (by simpa using hi) h7 hr hs ht ⟨o1,o2⟩ λtv w8 h8=>?_
  generalize hrt:Zba x.w.Parents f o.Class x.w.Feds=rt at hsn h8 ⊢
  have hrtl:rt.length≤1000:=by rw[←hrt];exact Nat.le_trans (ZhD _ _ _ _) hfl2
  refine ZjF (λq t13 t40 w=>∃(n:Nat) (m':Msg),n≤rt.length∧t40=.int .i64 n∧q=rt.length - n∧(∀to,{ m' with To:=to }={ m with To:=to })∧
    Sat e w (Zz 81 6 Msg.cs t13 (Zau x.w.Parents x.w.Feds f seq now body (outs.take j)++(rt.take n).map λto=>{ m with To:=to })::Zz 3 1 (Ye .i64) tv rt::blk tm 81 m'.cs::blk b 25 x.cs::L)) rt.length
   ⟨0,m,Nat.zero_le _,rfl,rfl,λ_=>rfl,by simpa using h8.selR [_,_,_,_] [_,_,_,_] [2,0,1,3] (by decide) rfl⟩ ?_
  rintro q t13' _ w g2 ⟨n,m',hn,rfl,rfl,hmm,h9⟩ hg2
  refine Zt h9 1 rfl (λ_=>Zp) ?_
  refine Za7 (λc1=>Zi ?_) (λc1=>Zf ?_)
  ·obtain ⟨to,hto⟩:=Zk (l:=rt) (j:=n) (by omega)
   refine Zw h9 1 rfl (λ_=>Zp) (λ_=>rfl) hto λa ha=>?_
   refine Yt h9 1 rfl ha (v:=.int .i64 to) rfl ?_
   refine Za (Zq h9 2 rfl (vs:=Yi [to]) rfl rfl (Nat.le_of_ble_eq_true rfl) (Zg _) (cs':=({ m' with To:=to }:Msg).cs) (by rfl) λw10 h10=>?_)
   refine Zo h10 2 (vs:=({ m' with To:=to }:Msg).cs) rfl (by rfl) rfl ?_
   refine Zj7 ZTO (f:=Msg.cs) (λ_=>rfl) (λ_=>Zg _) h10 (x:={ m' with To:=to }) rfl (by rw[List.length_append,List.length_map,List.length_take];omega) λv' w11 h11=>?_
   refine Yr (by omega) ?_
   refine hg2 _ _ _ _ (by omega) ⟨n+1,{ m' with To:=to },by omega,rfl,rfl,λto'=>hmm to',?_⟩
   rw[Zx hto,List.map_append,←List.append_assoc,List.map_singleton,←hmm to]
   exact h11
  ·have en:n=rt.length:=by omega
   rw[en,List.take_length,←hsn] at h9
   refine Yr (by omega) ?_
   exact hg _ _ _ _ (by omega) ⟨j+1,by omega,rfl,rfl,h9.selR [_,_,_,_] [_,_] [0,3] (by decide) rfl⟩
 ·have ej:j=outs.length:=by omega
  rw[ej,List.take_length] at h2
  exact hk _ _ (h2.selR [_,_] [_] [0] (by decide) rfl)
theorem ZKU {x:WdX} (i:Nat) (hi:L[i]?=some S) (hS:Sat e w L) (hr:∀g,S g→ZtG x g) (hs:x.short) (ht:ZkT x.Parents) (hf8:x.Feds.length≤8)
  (ho:∀f∈x.Feds,f.Init.length≤4∧∀o∈f.Init,Zpq x.Parents.length o)
  (hk:∀v w',Sat e w' (Zz 81 6 Msg.cs v (Zaz x.w.Parents x.w.Feds x.w.Feds)::L)→(Zaz x.w.Parents x.w.Feds x.w.Feds).length≤1000→K v w'):Cl prog 55 #[.agg x.cs.toArray] w K:=by
 refine ZJO ?_
 unfold ZJB
 refine Yp (cs:=x.cs) hS rfl λb w1 h1=>?_
 have hi1:(blk b 25 x.cs::L)[i+1]?=some S:=by simpa using hi
 refine Zw3 h1 Msg.cs λv0 w1b h1b=>?_
 have hflen:x.w.Feds.length=x.Feds.length:=by simp[WdX.w]
 refine ZjF (λq t3 t9 w=>∃j:Nat,j≤x.Feds.length∧t9=.int .i64 j∧q=x.Feds.length - j∧(Zaz x.w.Parents x.w.Feds ((x.Feds.take j).map Zao.f)).length≤j*32∧
   Sat e w (Zz 81 6 Msg.cs t3 (Zaz x.w.Parents x.w.Feds ((x.Feds.take j).map Zao.f))::blk b 25 x.cs::L)) x.Feds.length
  ⟨0,Nat.zero_le _,rfl,rfl,by simp[Zaz],h1b⟩ ?_
 rintro q t3 _ w g ⟨j,hj,rfl,rfl,hb,h2⟩ hg
 have hi2:(Zz 81 6 Msg.cs t3 (Zaz x.w.Parents x.w.Feds ((x.Feds.take j).map Zao.f))::blk b 25 x.cs::L)[i+2]?=some S:=by simpa using hi
 refine Za (Zb h2 1 rfl (v:=x.fv) rfl ?_)
 refine Zt h2 (i+2) hi2 (λg hg=>(hr g hg).feds) ?_
 refine Za7 (λc0=>Zi ?_) (λc0=>Zf ?_)
 ·obtain ⟨fd,hf⟩:=Zk (l:=x.Feds) (j:=j) (by omega)
  have hfm:=List.mem_of_getElem? hf
  obtain ⟨ho1,ho2⟩:=ho fd hfm
  have hlen:((x.Feds.take j).map Zao.f).length=j:=by rw[List.length_map,List.length_take];omega
  have hsn:Zaz x.w.Parents x.w.Feds ((x.Feds.take (j+1)).map Zao.f)=Zaz x.w.Parents x.w.Feds ((x.Feds.take j).map Zao.f)++Zau x.w.Parents x.w.Feds (j:Int) 0 0 0 fd.Init:=by
   rw[Zx hf,List.map_append,List.map_singleton,Zkw,hlen]
   rfl
  have hsl:=ZcU x.w.Parents x.w.Feds (j:Int) 0 0 0 fd.Init
  have hsl2:fd.Init.length*x.w.Feds.length≤4*8:=Nat.mul_le_mul ho1 (by rw[hflen];exact hf8)
  refine ZaY h2 λw6 h6=>?_
  refine Zo h6 1 (vs:=x.cs) rfl (by rfl) rfl ?_
  refine Za (Zb h6 1 rfl (v:=x.fv) rfl ?_)
  refine Zw h6 (i+2) hi2 (λg hg=>(hr g hg).feds) (λ_=>rfl) hf λa ha=>?_
  refine Zbd ha λa1 ha1=>Yt h6 (i+2) hi2 ha1 (v:=fd.iv) rfl ?_
  refine ZKz (x:=x) (outs:=fd.Init) (i+2) (i+2) hi2 hi2 h6 hr (λg hg=>((hr g hg).fed fd hfm).init) hs ht ho2 (by omega) (by decide) λmv w7 h7=>?_
  have h8:=h7.selR [_,_,_] [_,_,_] [1,0,2] (by decide) rfl
  refine Zeo ZTO ZTR (f:=Msg.cs) (λ_=>rfl) (λ_=>Zg _) h8 (λ_=>Zp) (by omega) λv2 w9 h9=>?_
  refine Yr (by omega) ?_
  refine hg _ _ _ _ (by omega) ⟨j+1,by omega,rfl,rfl,?_,?_⟩
  ·rw[hsn,List.length_append];omega
  ·rw[hsn]
   exact h9.selR [_,_,_] [_,_] [0,2] (by decide) rfl
 ·have ej:j=x.Feds.length:=by omega
  rw[ej,List.take_length] at h2 hb
  exact hk _ _ (h2.selR [_,_] [_] [0] (by decide) rfl) (Nat.le_trans hb (by omega))
theorem ZLd {v:Value} {l:List Yg} {s c:Int} (hS:Sat e w (S::R)) (hr:∀g,S g→Zew v l g) (hl:l.length≤1000) (hl2:∀r∈l,r.Sends.length≤1000)
  (hk:∀v' w',Sat e w' (Zz 102 3 Out.cs v' (ZbY (l.map Yg.r) s c).2::S::R)→K (.tuple #[.int .i64 (ZbY (l.map Yg.r) s c).1,v']) w'):Cl prog 95 #[v,.int .i64 s,.int .i64 c] w K:=by
 refine ZKd ?_
 unfold ZJT
 refine ZKI 0 rfl hS (λg hg=>(hr g hg).s) (by omega) (λhno=>?_) (λj r hj hon hlo=>?_)
 ·rw[Ztc hno] at hk
  refine Ztt (by omega) (Zi ?_)
  exact hk _ _ (hS.own_nil 102 3 Out.cs)
 ·rw[Ztq hj hon hlo] at hk
  have hrm:=List.mem_of_getElem? hj
  refine Ze7 (by omega) (Zf ?_)
  refine Zw3 hS Out.cs λv0 w1 h1=>?_
  refine ZaY h1 λw2 h2=>?_
  refine Zw h2 1 rfl (λg hg=>(hr g hg).s) (λ_=>rfl) hj λa ha=>?_
  refine Zbd ha λa1 ha1=>?_
  refine Yt h2 1 rfl ha1 (v:=.int .i64 r.Next) rfl ?_
  refine Zw h2 1 rfl (λg hg=>(hr g hg).s) (λ_=>rfl) hj λa2 ha2=>?_
  refine Zbd ha2 λa3 ha3=>?_
  refine Yt h2 1 rfl ha3 (v:=r.sv) rfl ?_
  refine Zcs ZVs ZUp (f:=Out.cs) (m:=r.Sends) (λ_=>rfl) (λ_ _=>Zg _) h2 (λg hg=>(hr g hg).e r hrm) (by have:=hl2 r hrm;simp;omega) λv' w6 h6=>?_
  rw[List.nil_append] at h6
  exact ⟨Yt h6 1 rfl ha1 (v:=.int .i64 r.Next) rfl ⟨rfl,rfl⟩,hk _ _ h6⟩
end Go.Proofs.YtnhaekgogppbiaaGreat
namespace Go.Proofs.YtnhaekgogppbiaaGreat
open Go Go.E
set_option maxRecDepth 100000
variable {e w:World} {L Q:List HP} {K:KV} {S S2:HP}
theorem ZLW {a b:Msg} (hS:Sat e w L) (hk:∀w',Sat e w' L→K (.bool (decide (ZHW a b<0))) w'):Cl prog 93 #[.agg a.cs.toArray,.agg b.cs.toArray] w K:=by
 refine ZJ2 ?_
 unfold ZJI
 refine Yp (cs:=a.cs) hS rfl λt2 w1 h1=>?_
 refine Yp (cs:=b.cs) h1 rfl λt3 w2 h2=>?_
 refine Za (Zo h2 1 (vs:=a.key.cs) rfl (by rfl) rfl ?_)
 refine Za (Zo h2 0 (vs:=b.key.cs) rfl (by rfl) rfl ?_)
 refine ZLj h2 λw3 h3=>?_
 have key:∀q:Bool,(q=true↔ZHW a b<0)→K (.bool q) w3:=λq hq=>by
  have:=hk w3 h3.drop.drop
  rwa [show decide (ZHW a b<0)=q from by rw[Bool.eq_iff_iff,decide_eq_true_iff];exact hq.symm] at this
 unfold ZHW at key
 refine Za7 (λc1=>?_) (λc1=>?_)
 ·refine Zd (Zd (Zd (Zd (Zd (Zd (Zd (Zd (Zd (Yv ?_)))))))))
  refine key true (by rw[if_pos (by omega)];simpa using c1)
 refine Zj (Zj (ZoR (λc2=>?_) (λc2=>?_)))
 ·refine Zj (Ze (Za (Ze (Zb h3 1 rfl (v:=.int .i64 a.To) rfl (Ze (Za (Ze (Zb h3 0 rfl (v:=.int .i64 b.To) rfl ?_))))))))
  refine Ze (Za7 (λc3=>?_) (λc3=>?_))
  ·refine Ze (Yv (Yd ?_))
   refine key true ?_
   rw[if_neg (by omega)]
   unfold Zlb
   rw[if_pos c3]
   simp
  ·refine Ze (Yv (Yd ?_))
   refine key false ?_
   rw[if_neg (by omega)]
   unfold Zlb
   rw[if_neg c3]
   split <;> simp
 ·refine Zj (Zd (Zd (Zd (Zd (Zd (Ze (Yd (Yd ?_))))))))
  refine key false ?_
  rw[if_pos (by omega)]
  simp
  omega
theorem ZKE (m:Msg):∀l:List Msg,(ZGx m l).length=l.length+1
 | []=>rfl
 | a::l=>by
  unfold ZGx
  split
  ·rfl
  ·rw[List.length_cons,ZKE m l,List.length_cons]
theorem ZLn:∀(ms l:List Msg),(putL l ms).length=l.length+ms.length
 | [],_=>rfl
 | m::ms,l=>by
  show (putL (ZGx m l) ms).length=_
  rw[ZLn ms,ZKE,List.length_cons]
  omega
theorem ZLG (l ms:List Msg) (m:Msg):putL l (ms++[m])=ZGx m (putL l ms):=by
 unfold putL
 rw[List.foldl_append]
 rfl
theorem ZKL {v mv:Value} {l ms:List Msg} (i:Nat) (hi:L[i]?=some S) (hS:Sat e w (Zz 81 6 Msg.cs v l::L)) (hr:∀g,S g→rdS 6 Msg.cs mv ms g) (hl:l.length+ms.length≤900000)
  (hk:∀v' w',Sat e w' (Zz 81 6 Msg.cs v' (putL l ms)::L)→K v' w'):Cl prog 54 #[v,mv] w K:=by
 refine ZKj ?_
 unfold ZJ5
 refine ZjF (λq t0 t5 w=>∃j:Nat,j≤ms.length∧t5=.int .i64 j∧q=ms.length - j∧Sat e w (Zz 81 6 Msg.cs t0 (putL l (ms.take j))::L)) ms.length ⟨0,Nat.zero_le _,rfl,rfl,hS⟩ ?_
 rintro q t0 _ w g ⟨j,hj,rfl,rfl,h1⟩ hg
 refine Zt h1 (i+1) (by simpa using hi) hr ?_
 refine Za7 (λc0=>Zi ?_) (λc0=>Zf ?_)
 ·obtain ⟨m,hm⟩:=Zk (l:=ms) (j:=j) (by omega)
  have hsn:putL l (ms.take (j+1))=ZGx m (putL l (ms.take j)):=by rw[Zx hm,ZLG]
  have hpl:=ZLn (ms.take j) l
  rw[List.length_take] at hpl
  generalize putL l (ms.take j)=p at h1 hsn hpl
  refine Zw3 h1 Msg.cs λv0 w2 h2=>?_
  have hi2:∀X Y:HP,(X::Y::L)[i+2]?=some S:=λX Y=>by simpa using hi
  refine ZIw (λq t6 t7 t8 w=>∃(n:Nat) (d:Bool) (out:List Msg),n≤p.length∧t8=.int .i64 n∧q=p.length - n∧t7=.bool d∧out.length≤n+1∧out++(if d=true then p.drop n else ZGx m (p.drop n))=ZGx m p∧
    Sat e w (Zz 81 6 Msg.cs t6 out::Zz 81 6 Msg.cs t0 p::L)) p.length ⟨0,false,[],Nat.zero_le _,rfl,rfl,rfl,by simp,by simp,h2⟩ ?_
  rintro q t6 _ _ w g2 ⟨n,d,out,hn,rfl,rfl,rfl,ho,heq,h3⟩ hg2
  refine Zt h3 1 rfl (λ_=>Zp) ?_
  refine Za7 (λc1=>Zi ?_) (λc1=>Zf ?_)
  ·obtain ⟨y,hy⟩:=Zk (l:=p) (j:=n) (by omega)
   have hdr:p.drop n=y::p.drop (n+1):=Zaq hy
   refine ZaY h3 λw4 h4=>?_
   have hcont:∀t6 (d2:Bool) out2 w',out2.length≤n+1→(out2++[y])++(if d2=true then p.drop (n+1) else ZGx m (p.drop (n+1)))=ZGx m p→
     Sat e w' (Zz 81 6 Msg.cs t6 out2::Zz 81 6 Msg.cs t0 p::L)→
     ixS 6 t0 (.int .i64 n) w' λt45 w=>ldN 6 t45 w λt46 w=>bsl 81 6 1 (Zl prog 81) [(0,t46)] w λt47 w=>apS prog #[76,76] 76 t6 t47 w λt48 w=>bi .add .i64 (.int .i64 n) (.int .i64 1) w λt21 w=>g2 [t48,.bool d2,t21] w:=by
    intro t6 d2 out2 w' ho2 he2 h'
    refine Zw h' 1 rfl (λ_=>Zp) (λ_=>rfl) hy λa ha=>?_
    refine Ym h' 1 rfl ha rfl ?_
    refine Zj7 ZTO (f:=Msg.cs) (λ_=>rfl) (λ_=>Zg _) h' (x:=y) rfl (by omega) λv2 w5 h5=>?_
    refine Yr (by omega) ?_
    exact hg2 _ _ _ _ _ (by omega) ⟨n+1,d2,out2++[y],by omega,rfl,rfl,rfl,by rw[List.length_append,List.length_singleton];omega,he2,h5⟩
   rw[hdr] at heq
   cases d with
   | true=>
    refine ZaJ ?_
    refine Zu (Zu (Zu (Zu (Zu (Zu (Zu (Zu (Zu (Yd ?_)))))))))
    refine J2.cut (λt6 t7 w=>t7=.bool true∧Sat e w (Zz 81 6 Msg.cs t6 out::Zz 81 6 Msg.cs t0 p::L)) (λk3 hcut=>Zf (hcut _ _ _ ⟨rfl,h4⟩)) ?_
    rintro t6 _ w5 ⟨rfl,h5⟩
    refine hcont _ true out _ (by
     have:=congrArg List.length heq
     rw[ZKE,List.length_append] at this
     simp at this
     omega) ?_ h5
    rw[if_pos rfl,List.append_assoc]
    rw[if_pos rfl] at heq
    exact heq
   | false=>
    rw[if_neg (by simp)] at heq
    refine Zch (Ze (Ze (Ze ?_)))
    refine Zw h4 (i+2) (hi2 _ _) hr (λ_=>rfl) hm λa ha=>?_
    refine Ze (Ym h4 (i+2) (hi2 _ _) ha rfl (Ze (Ze (Ze ?_))))
    refine Zw h4 1 rfl (λ_=>Zp) (λ_=>rfl) hy λa ha=>?_
    refine Ze (Ym h4 1 rfl ha rfl (Ze ?_))
    refine ZLW (a:=m) (b:=y) h4 λw5 h5=>?_
    refine Yv ?_
    have hol:out.length≤n:=by
     have:=congrArg List.length heq
     rw[ZKE,List.length_append,ZKE,List.length_cons,List.length_drop] at this
     omega
    refine J2.cut (λt6 t7 w=>∃(d2:Bool) (out2:List Msg),t7=.bool d2∧out2.length≤n+1∧(out2++[y])++(if d2=true then p.drop (n+1) else ZGx m (p.drop (n+1)))=ZGx m p∧Sat e w (Zz 81 6 Msg.cs t6 out2::Zz 81 6 Msg.cs t0 p::L)) (λk3 hcut=>?_) ?_
    ·have hins:ZGx m (y::p.drop (n+1))=if ZHW m y<0 then m::y::p.drop (n+1) else y::ZGx m (p.drop (n+1)):=rfl
     rw[hins] at heq
     by_cases hc:ZHW m y<0
     ·rw[if_pos hc] at heq
      rw[decide_eq_true hc]
      refine Zi ?_
      refine Zw h5 (i+2) (hi2 _ _) hr (λ_=>rfl) hm λa ha=>?_
      refine Ym h5 (i+2) (hi2 _ _) ha rfl ?_
      refine Zj7 ZTO (f:=Msg.cs) (λ_=>rfl) (λ_=>Zg _) h5 (x:=m) rfl (by omega) λv2 w6 h6=>?_
      refine hcut _ _ _ ⟨true,out++[m],rfl,by rw[List.length_append,List.length_singleton];omega,?_,h6⟩
      rw[if_pos rfl,←heq]
      simp
     ·rw[if_neg hc] at heq
      rw[decide_eq_false hc]
      refine Zf (hcut _ _ _ ⟨false,out,rfl,ho,?_,h5⟩)
      rw[if_neg (by simp),←heq]
      simp
    ·rintro t6 _ w6 ⟨d2,out2,rfl,ho2,he2,h6⟩
     exact hcont _ d2 out2 _ ho2 he2 h6
  ·have en:n=p.length:=by omega
   rw[en,List.drop_length] at heq
   have htail:∀t6 w6,Sat e w6 (Zz 81 6 Msg.cs t6 (ZGx m p)::Zz 81 6 Msg.cs t0 p::L)→bi .add .i64 (.int .i64 j) (.int .i64 1) w6 λt14 w=>g [t6,t14] w:=by
    intro t6 w6 h6
    refine Yr (by omega) ?_
    refine hg _ _ _ _ (by omega) ⟨j+1,by omega,rfl,rfl,?_⟩
    rw[hsn]
    exact h6.selR [_,_] [_] [0] (by decide) rfl
   cases d with
   | true=>
    refine ZaJ (J1.cut (λt6 w=>Sat e w (Zz 81 6 Msg.cs t6 (ZGx m p)::Zz 81 6 Msg.cs t0 p::L)) (λk4 hcut=>Zf (hcut _ _ ?_)) λt6 w6 h6=>htail _ _ h6)
    rw[if_pos rfl,List.append_nil] at heq
    rw[←heq]
    exact h3
   | false=>
    refine Zch (J1.cut (λt6 w=>Sat e w (Zz 81 6 Msg.cs t6 (ZGx m p)::Zz 81 6 Msg.cs t0 p::L)) (λk4 hcut=>Zi ?_) λt6 w6 h6=>htail _ _ h6)
    refine Zw h3 (i+2) (hi2 _ _) hr (λ_=>rfl) hm λa ha=>?_
    refine Ym h3 (i+2) (hi2 _ _) ha rfl ?_
    refine Zj7 ZTO (f:=Msg.cs) (λ_=>rfl) (λ_=>Zg _) h3 (x:=m) rfl (by omega) λv2 w6 h6=>?_
    refine hcut _ _ ?_
    rw[if_neg (by simp)] at heq
    have h7:out++[m]=ZGx m p:=heq
    rw[←h7]
    exact h6
 ·have ej:j=ms.length:=by omega
  rw[ej,List.take_length] at h1
  exact hk _ _ h1
end Go.Proofs.YtnhaekgogppbiaaGreat
namespace Go.Proofs.YtnhaekgogppbiaaGreat
open Go Go.E
set_option maxRecDepth 100000
variable {e w:World} {L Q:List HP} {K:KV} {S S2:HP}
structure ZMa (wd:Wd) (R:RS) (k:Nat) (ds:List Zak):Prop where
 may:ZoS wd
 run:ZLP wd R k
 logs:∀g:Int,ZK0 R g=ds.filter λd=>decide (d.m.To=g)
 len:ds.length≤k
structure ZMJ where
 sv:Value
 qv:Value
 wv:Value
 dv:Value
 ds:List Zak
def ZKC (r:Nat) (x:WdX) (R:RS) (k:Nat):HP:=hex λp:ZMJ=>Yh [pur (ZMa x.w R k p.ds),blk r 98 (x.cs++[p.sv,p.qv,p.wv,p.dv]),Zz 3 1 (Ye .i64) p.sv (R.feds.map FA.st),Zz 3 1 (Ye .i64) p.qv (R.feds.map FA.sent),Zz 81 6 Msg.cs p.wv R.wait,Zz 100 7 Zak.cs p.dv p.ds]
theorem ZLQ {r k:Nat} {x:WdX} {R:RS} (h:Sat e w (ZKC r x R k::Q)):∃sv qv wv dv ds,ZMa x.w R k ds∧Sat e w (blk r 98 (x.cs++[sv,qv,wv,dv])::Zz 3 1 (Ye .i64) sv (R.feds.map FA.st)::Zz 3 1 (Ye .i64) qv (R.feds.map FA.sent)::Zz 81 6 Msg.cs wv R.wait::Zz 100 7 Zak.cs dv ds::Q):=by
 obtain ⟨p,h0⟩:=h.ex
 exact ⟨p.sv,p.qv,p.wv,p.dv,p.ds,Sat.pure h0.split⟩
theorem ZLm {r k:Nat} {x:WdX} {R:RS} {sv qv wv dv:Value} {ds:List Zak} (hp:ZMa x.w R k ds) (h:Sat e w (blk r 98 (x.cs++[sv,qv,wv,dv])::Zz 3 1 (Ye .i64) sv (R.feds.map FA.st)::Zz 3 1 (Ye .i64) qv (R.feds.map FA.sent)::Zz 81 6 Msg.cs wv R.wait::Zz 100 7 Zak.cs dv ds::Q)):Sat e w (ZKC r x R k::Q):=
 .mk_ex ⟨sv,qv,wv,dv,ds⟩ (.join (l':=[_,_,_,_,_,_]) (.mk_pure hp h))
theorem Sat.unpick {X:HP} {l:List HP} (i:Nat) (hi:l[i]?=some S) (h:Sat e w (X::S::l.eraseIdx i)):Sat e w (X::l):=h.perm (List.Perm.cons X (ZfR l i S hi).symm)
theorem ZKJ:∀x:Int,∀v∈Ye .i64 x,flat v=true:=λ_ _ h=>by simp[Ye] at h;subst h;rfl
theorem ZLL (wd:Wd) (g:Int):ZK0 (ZF4 wd) g=[]:=by
 unfold ZK0 ZF4
 split
 ·rw[List.getElem?_map]
  cases wd.Feds[g.toNat]? <;> rfl
 ·rfl
theorem ZLi {x:WdX} (i:Nat) (hi:L[i]?=some S) (hS:Sat e w L) (hr:∀g,S g→ZtG x g) (hs:x.short)
  (hbad:(Za4 x.w).2≠0→∀w',Sat e w' L→K (.tuple #[.pointer none,.int .i64 (Za4 x.w).2]) w')
  (hok:(Za4 x.w).2=0→∀r w',Sat e w' (ZKC r x (ZF4 x.w) 0::L)→K (.tuple #[.pointer (some ⟨r,0,none⟩),.int .i64 0]) w'):Cl prog 23 #[.agg x.cs.toArray] w K:=by
 refine ZKm ?_
 unfold ZKb
 refine Yp (cs:=x.cs) hS rfl λb w1 h1=>?_
 refine Zo h1 0 (vs:=x.cs) rfl (by rfl) rfl ?_
 refine ZKG (x:=x) (i+1) (by simpa using hi) h1 hr hs λw2 h2=>?_
 refine Zam (Zal ?_)
 refine ZrP (λc1=>Zi (hbad c1 _ h2.drop)) (λc1=>Zf ?_)
 have hwd:=ZfI c1
 have hfl:=hs.feds
 have hflat:=ZoI i hi hS hr
 refine Zo h2 0 (vs:=x.cs) rfl (by rfl) rfl ?_
 refine Zaf (x.cs++[.slice none 0 0,.slice none 0 0,.slice none 0 0,.slice none 0 0]) (by kernel_rfl) ?_
 refine Yp (cs:=x.cs++[.slice none 0 0,.slice none 0 0,.slice none 0 0,.slice none 0 0]) h2 rfl λr w3 h3=>?_
 refine Zdk (λq t7 w=>∃(j:Nat) (sv qv:Value),j≤x.Feds.length∧t7=.int .i64 j∧q=x.Feds.length - j∧
   Sat e w (Zz 3 1 (Ye .i64) sv ((x.Feds.take j).map λf=>f.Start)::Zz 3 1 (Ye .i64) qv ((x.Feds.take j).map λf=>(f.Init.length:Int))::blk r 98 (x.cs++[sv,qv,.slice none 0 0,.slice none 0 0])::blk b 25 x.cs::L)) x.Feds.length
  ⟨0,.slice none 0 0,.slice none 0 0,Nat.zero_le _,rfl,rfl,(h3.own_nil 3 1 (Ye .i64)).own_nil 3 1 (Ye .i64)⟩ ?_
 rintro q _ w g ⟨j,sv,qv,hj,rfl,rfl,h4⟩ hg
 refine Za (Zb h4 3 rfl (v:=x.fv) rfl ?_)
 refine Zt h4 (i+4) (by simpa using hi) (λg hg=>(hr g hg).feds) ?_
 refine Za7 (λc0=>Zi ?_) (λc0=>Zf ?_)
 ·obtain ⟨fd,hf⟩:=Zk (l:=x.Feds) (j:=j) (by omega)
  have hfm:=List.mem_of_getElem? hf
  refine ZaY h4 λw5 h5=>?_
  refine Zh (Za (Zb h5 2 rfl (v:=sv) rfl ?_))
  refine Za (Zb h5 3 rfl (v:=x.fv) rfl ?_)
  refine Zw h5 (i+4) (by simpa using hi) (λg hg=>(hr g hg).feds) (λ_=>rfl) hf λa ha=>?_
  refine Zbd ha λa1 ha1=>Yt h5 (i+4) (by simpa using hi) ha1 (v:=.int .i64 fd.Start) rfl ?_
  refine ZwC (vs:=Ye .i64 fd.Start) rfl rfl h5 λbb w6 h6=>?_
  refine ⟨Zb h6 3 rfl (v:=sv) rfl ⟨rfl,rfl⟩,?_⟩
  refine Zeo Zvs Zvs.und (f:=Ye .i64) (m:=[fd.Start]) (λ_=>rfl) ZKJ h6.swap (Zfu (f:=Ye .i64) (x:=fd.Start) (Nat.le_refl _)) (by simp;omega) λsv' w7 h7=>?_
  have q1:=h7.own_cells 0 rfl
  refine Zh (Za (Zq h7 3 rfl (vs:=[sv']) q1.1 rfl (Nat.le_of_ble_eq_true rfl) (λc hc=>by rw[List.mem_singleton.1 hc];exact q1.2) (cs':=x.cs++[sv',qv,.slice none 0 0,.slice none 0 0]) (by rfl) λw8 h8=>?_))
  refine ZaY h8 λw9 h9=>?_
  refine Zh (Za (Zb h9 3 rfl (v:=qv) rfl ?_))
  refine Za (Zb h9 4 rfl (v:=x.fv) rfl ?_)
  refine Zw h9 (i+5) (by simpa using hi) (λg hg=>(hr g hg).feds) (λ_=>rfl) hf λa ha=>?_
  refine Zbd ha λa1 ha1=>Yt h9 (i+5) (by simpa using hi) ha1 (v:=fd.iv) rfl ?_
  refine Zt h9 (i+5) (by simpa using hi) (λg hg=>((hr g hg).fed fd hfm).init) ?_
  refine ZwC (vs:=Ye .i64 (fd.Init.length:Int)) rfl rfl h9 λbb2 w10 h10=>?_
  refine ⟨Zb h10 4 rfl (v:=qv) rfl ⟨rfl,rfl⟩,?_⟩
  refine Zeo Zvs Zvs.und (f:=Ye .i64) (m:=[(fd.Init.length:Int)]) (λ_=>rfl) ZKJ (h10.selR [_,_,_,_] [_,_,_,_] [3,0,1,2] (by decide) rfl) (Zfu (f:=Ye .i64) (x:=(fd.Init.length:Int)) (Nat.le_refl _)) (by simp;omega) λqv' w11 h11=>?_
  have q2:=h11.own_cells 0 rfl
  refine Zh (Za (Zq h11 4 rfl (vs:=[qv']) q2.1 rfl (Nat.le_of_ble_eq_true rfl) (λc hc=>by rw[List.mem_singleton.1 hc];exact q2.2) (cs':=x.cs++[sv',qv',.slice none 0 0,.slice none 0 0]) (by rfl) λw12 h12=>?_))
  refine Yr (by omega) ?_
  refine hg _ _ _ (by omega) ⟨j+1,sv',qv',by omega,rfl,rfl,?_⟩
  rw[Zx hf,List.map_append,List.map_append]
  exact h12.selR [_,_,_,_,_] [_,_,_] [2,0,4] (by decide) rfl
 ·have ej:j=x.Feds.length:=by omega
  rw[ej,List.take_length] at h4
  refine Zo h4 3 (vs:=x.cs) rfl (by rfl) rfl ?_
  have hfl2:x.w.Feds.length=x.Feds.length:=by simp[WdX.w]
  refine ZKU (x:=x) (i+4) (by simpa using hi) h4 hr hs hwd.tree (by rw[←hfl2];exact hwd.n.2) (λf hf=>?_) λmv w6 h6 hml=>?_
  ·have:=hwd.init f.f (List.mem_map_of_mem hf)
   exact ⟨this.1,λo ho=>(this.2 o ho).1⟩
  refine ZKL (l:=[]) 0 rfl (h6.own_nil 81 6 Msg.cs) (λ_=>Zp) (by simp;omega) λwv w7 h7=>?_
  have q1:=h7.own_cells 0 rfl
  refine Zh (Za (Zq h7 4 rfl (vs:=[wv]) q1.1 rfl (Nat.le_of_ble_eq_true rfl) (λc hc=>by rw[List.mem_singleton.1 hc];exact q1.2) (cs':=x.cs++[sv,qv,wv,.slice none 0 0]) (by rfl) λw8 h8=>?_))
  refine hok c1 r _ (ZLm (sv:=sv) (qv:=qv) (wv:=wv) (dv:=.slice none 0 0) (ds:=[]) ⟨hwd,ZLt hwd,λg=>by rw[ZLL];rfl,Nat.le_refl _⟩ ?_)
  have e1:(ZF4 x.w).feds.map FA.st=x.Feds.map λf=>f.Start:=by simp only[ZF4,WdX.w,List.map_map];rfl
  have e2:(ZF4 x.w).feds.map FA.sent=x.Feds.map λf=>(f.Init.length:Int):=by simp only[ZF4,WdX.w,List.map_map];rfl
  have e3:(ZF4 x.w).wait=putL [] (Zaz x.w.Parents x.w.Feds x.w.Feds):=rfl
  rw[e1,e2,e3]
  have h9:=h8.own_nil 100 7 Zak.cs
  exact h9.selR [_,_,_,_,_,_,_] [_,_,_,_,_] [5,3,4,1,0] (by decide) rfl
theorem ZLz {wd:Wd} {R R':RS} {d:Zak} (h:ZFO wd R=some (d,R')) (g:Int) (h0:0≤d.m.To):ZK0 R' g=ZK0 R g++if d.m.To=g then [d] else []:=by
 by_cases hg:0≤g
 ·obtain ⟨n,rfl⟩:∃n:Nat,g=n:=⟨g.toNat,by omega⟩
  exact ZLN h n h0
 ·unfold ZK0
  rw[if_neg hg,if_neg hg,if_neg (by omega)]
  rfl
theorem ZK4 {r k:Nat} {x:WdX} {R:RS} (hk0:k≤1000) (i:Nat) (hi:Q[i]?=some S) (hS:Sat e w (ZKC r x R k::Q)) (hr:∀g,S g→ZtG x g) (hs:x.short)
  (hno:ZFO x.w R=none→∀w',Sat e w' (ZKC r x R k::Q)→K (.tuple #[.agg Zak.zero.cs.toArray,.bool false]) w')
  (hyes:∀d R',ZFO x.w R=some (d,R')→∀w',Sat e w' (ZKC r x R' (k+1)::Q)→K (.tuple #[.agg d.cs.toArray,.bool true]) w') :
  Cl prog 56 #[.pointer (some ⟨r,0,none⟩)] w K:=by
 refine ZJD ?_
 unfold ZJs
 obtain ⟨sv,qv,wv,dv,ds,hR,hS1⟩:=ZLQ hS
 rw[ZTC,ZTr]
 refine Yp (cs:=Zak.zero.cs) hS1 rfl λt2 w1 h1=>?_
 refine ZaY h1 λw2 h2=>?_
 have hnone:ZFO x.w R=none→∀w',Sat e w' (blk t2 100 Zak.zero.cs::blk r 98 (x.cs++[sv,qv,wv,dv])::Zz 3 1 (Ye .i64) sv (R.feds.map FA.st)::Zz 3 1 (Ye .i64) qv (R.feds.map FA.sent)::Zz 81 6 Msg.cs wv R.wait::Zz 100 7 Zak.cs dv ds::Q)→
   bld (Zl prog 100) #[(0,6),(6,1)] [] w' λt31 w=>stN 7 (.pointer (some ⟨t2,0,none⟩)) t31 w λ_ w=>ldN 7 (.pointer (some ⟨t2,0,none⟩)) w λr0 _=>K (.tuple #[r0,.bool false]) w:=by
  intro hn w' h'
  refine Zaf Zak.zero.cs (by kernel_rfl) ?_
  refine Zq h' 0 rfl (vs:=Zak.zero.cs) rfl rfl (by decide) (Zg _) (cs':=Zak.zero.cs) (by kernel_rfl) λw3 h3=>?_
  refine Zo h3 0 (vs:=Zak.zero.cs) rfl (by rfl) rfl ?_
  exact hno hn _ (ZLm hR h3.drop)
 rw[ZTC] at hnone
 refine Zh (Za (Zb h2 1 rfl (v:=wv) rfl ?_))
 refine Zt h2 4 rfl (λ_=>Zp) ?_
 cases hwait:R.wait with
 | nil=>
  refine Znq (by rfl) ?_
  refine Zd (Zd (Zd (Zd (Zd (Zd (Zd (Zd (Zd (Zd (Zd (Zd (Zd (Zd (Yv (Zi ?_)))))))))))))))
  exact hnone (ZKW (.inl hwait)) _ h2
 | cons m rest=>
  refine Zd8 (by simp;omega) (Zj (Zj (Zwz ?_)))
  have hm0:R.wait[0]?=some m:=by rw[hwait];rfl
  refine Zj (Za (Zj (Zb h2 1 rfl (v:=wv) rfl ?_)))
  refine Zj (Zw (j:=0) h2 4 rfl (λ_=>Zp) (λ_=>rfl) hm0 λp hp=>?_)
  refine Zj (Zbd hp λp1 hp1=>Zj (Zbd hp1 λp2 hp2=>Zj ?_))
  refine Yt h2 4 rfl hp2 (v:=.int .i64 m.key.T) rfl ?_
  refine Zj (Zj (Zwz ?_))
  refine Zj (Za (Zj (Za (Zj (Zb h2 1 rfl (v:=.int .i64 x.End) rfl ?_)))))
  have hEnd:x.w.End=x.End:=rfl
  refine Zj (Zu5 (λc1=>?_) (λc1=>?_))
  ·refine Yd (Zi ?_)
   exact hnone (ZKW (.inr ⟨m,rest,hwait,c1⟩)) _ h2
  refine Yd (Zf ?_)
  refine Zh (Za (Zb h2 1 rfl (v:=wv) rfl ?_))
  refine Zw (j:=0) h2 4 rfl (λ_=>Zp) (λ_=>rfl) hm0 λp hp=>?_
  refine Ym h2 4 rfl hp rfl ?_
  refine Yp (cs:=Msg.zero.cs) h2 rfl λt4 w5 h5=>?_
  refine Zq h5 0 rfl (vs:=m.cs) rfl rfl (by decide) (Zg _) (cs':=m.cs) (by rfl) λw6 h6=>?_
  refine Zw3 h6 Msg.cs λrv w7 h7=>?_
  refine Zh (Za (Zb h7 3 rfl (v:=wv) rfl ?_))
  refine Zox (lo:=1) h7 6 rfl (λ_=>Zp) (λ_=>rfl) (by rw[hwait];simp) λwv1 hwv1=>?_
  have hdrop:R.wait.drop 1=rest:=by rw[hwait];rfl
  rw[hdrop] at hwv1
  have hcnt:=hR.run.cnt
  have hwl:R.wait.length=rest.length+1:=by rw[hwait];rfl
  have h8:=h7.selR [_,_,_,_,_,_,_] [_,_,_,_,_,_,_] [0,6,1,2,3,4,5] (by decide) rfl
  refine Zeo ZTO ZTR (f:=Msg.cs) (m:=rest) (λ_=>rfl) (λ_=>Zg _) h8 hwv1 (by simp;omega) λrv1 w9 h9=>?_
  rw[List.nil_append] at h9
  replace h9:Sat e w9 (Zz 81 6 Msg.cs rv1 rest::Zz 81 6 Msg.cs wv R.wait::blk t4 81 m.cs::blk t2 100 Zak.zero.cs::blk r 98 (x.cs++[sv,qv,wv,dv])::Zz 3 1 (Ye .i64) sv (R.feds.map FA.st)::Zz 3 1 (Ye .i64) qv (R.feds.map FA.sent)::Zz 100 7 Zak.cs dv ds::Q):=h9
  clear h1 h2 h5 h6 h7 h8 hnone
  obtain ⟨t1,t2',t3,t4'⟩:=hR.run.to m (by rw[hwait];simp)
  obtain ⟨n,hn⟩:∃n:Nat,m.To=n:=⟨m.To.toNat,by omega⟩
  have hfl:R.feds.length=x.w.Feds.length:=hR.run.len
  have hn8:=hR.may.n.2
  obtain ⟨a,ha⟩:=Zk (l:=R.feds) (j:=n) (by omega)
  have hxl:x.w.Feds.length=x.Feds.length:=by simp[WdX.w]
  obtain ⟨fd,hfd⟩:=Zk (l:=x.Feds) (j:=n) (by omega)
  have hfdm:=List.mem_of_getElem? hfd
  have hwf:x.w.Feds[m.To.toNat]?=some fd.f:=by rw[hn,Int.toNat_natCast];simp only[WdX.w];rw[List.getElem?_map,hfd];rfl
  have hRa:R.feds[m.To.toNat]?=some a:=by rw[hn,Int.toNat_natCast,ha]
  have hnext:=ZLx (wd:=x.w) hwait (by omega) hwf hRa
  have hsent:=hR.run.sent a (List.mem_of_getElem? hRa)
  have hsf:=hs.fed fd hfdm
  have hst:(R.feds.map FA.st)[n]?=some a.st:=by rw[List.getElem?_map,ha];rfl
  have hsq:(R.feds.map FA.sent)[n]?=some a.sent:=by rw[List.getElem?_map,ha];rfl
  refine Za (Zb h9 2 rfl (v:=.int .i64 m.To) rfl ?_)
  refine ZaY h9 λw10 h10=>?_
  refine Zh (Za (Za (Zb h10 4 rfl (v:=x.fv) rfl ?_)))
  rw[hn]
  refine Zw h10 (i+8) (by simpa using hi) (λg hg=>(hr g hg).feds) (λ_=>rfl) hfd λp hp=>?_
  refine Zbd hp λp1 hp1=>Yt h10 (i+8) (by simpa using hi) hp1 (v:=fd.rv) rfl ?_
  refine Zh (Za (Zb h10 4 rfl (v:=sv) rfl ?_))
  refine Zw h10 5 rfl (λ_=>Zp) (λ_=>rfl) hst λp hp=>?_
  refine Yt h10 5 rfl hp (v:=.int .i64 a.st) rfl ?_
  refine Za (Zb h10 2 rfl (v:=.int .i64 m.Class) rfl ?_)
  refine ZLd (l:=fd.Rules) (s:=a.st) (c:=m.Class) (h10.pick (i+8) (by simpa using hi)) (λg hg=>((hr g hg).fed fd hfdm).rules) hsf.rules hsf.sends λov w11 h11=>?_
  replace h11:Sat e w11 (Zz 102 3 Out.cs ov (ZbY (fd.Rules.map Yg.r) a.st m.Class).2::Zz 81 6 Msg.cs rv1 rest::Zz 81 6 Msg.cs wv R.wait::blk t4 81 m.cs::blk t2 100 Zak.zero.cs::blk r 98 (x.cs++[sv,qv,wv,dv])::Zz 3 1 (Ye .i64) sv (R.feds.map FA.st)::Zz 3 1 (Ye .i64) qv (R.feds.map FA.sent)::Zz 100 7 Zak.cs dv ds::Q):=
   Sat.unpick (i+8) (by simpa using hi) h11
  generalize hso:ZbY (fd.Rules.map Yg.r) a.st m.Class=so at h11 ⊢
  have hso':ZbY fd.f.Rules a.st m.Class=so:=hso
  have houts:=ZlA hR.may (List.mem_of_getElem? hwf) a.st m.Class
  rw[hso'] at houts
  have hx3:x.w.Parents=x.Parents:=rfl
  refine Zam (Zal ?_)
  refine Zh (Za (Zb h11 5 rfl (v:=sv) rfl ?_))
  refine ZFt (x:=so.1) h11 6 rfl (λ_=>rfl) (by rw[List.length_map];omega) rfl (ZKJ _) λw12 h12=>?_
  replace h12:Sat e w12 (Zz 102 3 Out.cs ov so.2::Zz 81 6 Msg.cs rv1 rest::Zz 81 6 Msg.cs wv R.wait::blk t4 81 m.cs::blk t2 100 Zak.zero.cs::blk r 98 (x.cs++[sv,qv,wv,dv])::Zz 3 1 (Ye .i64) sv ((R.feds.map FA.st).set n so.1)::Zz 3 1 (Ye .i64) qv (R.feds.map FA.sent)::Zz 100 7 Zak.cs dv ds::Q):=h12
  refine ZaY h12 λw13 h13=>?_
  refine Zh (Za (Zo h13 5 (vs:=x.cs) rfl (by rfl) rfl ?_))
  refine Zh (Za (Zb h13 5 rfl (v:=qv) rfl ?_))
  refine Zw h13 7 rfl (λ_=>Zp) (λ_=>rfl) hsq λp hp=>?_
  refine Yt h13 7 rfl hp (v:=.int .i64 a.sent) rfl ?_
  refine Za (Za (Zb h13 3 rfl (v:=.int .i64 m.key.T) rfl ?_))
  refine Za (Zb h13 3 rfl (v:=.int .i64 m.Body) rfl ?_)
  rw[←hn]
  refine ZKz (x:=x) (outs:=so.2) (i+9) 0 (by simpa using hi) rfl h13 hr (λ_=>Zp) hs hR.may.tree (λo ho=>(houts.2 o ho).1) (by omega) ⟨hsent.1,by have:=hsent.2.1;omega⟩ λmv w14 h14=>?_
  generalize hms:Zau x.w.Parents x.w.Feds m.To a.sent m.key.T m.Body so.2=ms at h14
  have hmsl:ms.length≤24:=by
   have h12:=ZcU x.w.Parents x.w.Feds m.To a.sent m.key.T m.Body so.2
   have h13:so.2.length*x.w.Feds.length≤3*8:=Nat.mul_le_mul houts.1 hR.may.n.2
   rw[hms] at h12
   omega
  refine ZKL (ms:=ms) 0 rfl (h14.selR [_,_,_] [_,_,_] [2,0,1] (by decide) rfl) (λ_=>Zp) (by omega) λwv' w15 h15=>?_
  have q1:=h15.own_cells 0 rfl
  refine Zh (Za (Zq h15 6 rfl (vs:=[wv']) q1.1 rfl (Nat.le_of_ble_eq_true rfl) (λc hc=>by rw[List.mem_singleton.1 hc];exact q1.2) (cs':=x.cs++[sv,qv,wv',dv]) (by rfl) λw16 h16=>?_))
  replace h16:Sat e w16 (Zz 81 6 Msg.cs wv' (putL rest ms)::Zz 81 6 Msg.cs mv ms::Zz 102 3 Out.cs ov so.2::Zz 81 6 Msg.cs wv R.wait::blk t4 81 m.cs::blk t2 100 Zak.zero.cs::blk r 98 (x.cs++[sv,qv,wv',dv])::Zz 3 1 (Ye .i64) sv ((R.feds.map FA.st).set n so.1)::Zz 3 1 (Ye .i64) qv (R.feds.map FA.sent)::Zz 100 7 Zak.cs dv ds::Q):=h16
  refine ZaY h16 λw17 h17=>?_
  refine Zh (Za (Zb h17 6 rfl (v:=qv) rfl ?_))
  refine Zh (Za (Zb h17 6 rfl (v:=qv) rfl ?_))
  rw[hn]
  refine Zw h17 8 rfl (λ_=>Zp) (λ_=>rfl) hsq λp hp=>?_
  refine Yt h17 8 rfl hp (v:=.int .i64 a.sent) rfl ?_
  refine Zt h17 2 rfl (λ_=>Zp) ?_
  have hsu:=hsent.2.1
  have hsl:=hsent.1
  refine ZcD (by omega) (by omega) ?_
  refine ZdJ (x:=a.sent+so.2.length) h17 8 rfl (λ_=>rfl) (by rw[List.length_map];omega) rfl (ZKJ _) λw18 h18=>?_
  replace h18:Sat e w18 (Zz 81 6 Msg.cs wv' (putL rest ms)::Zz 81 6 Msg.cs mv ms::Zz 102 3 Out.cs ov so.2::Zz 81 6 Msg.cs wv R.wait::blk t4 81 m.cs::blk t2 100 Zak.zero.cs::blk r 98 (x.cs++[sv,qv,wv',dv])::Zz 3 1 (Ye .i64) sv ((R.feds.map FA.st).set n so.1)::Zz 3 1 (Ye .i64) qv ((R.feds.map FA.sent).set n (a.sent+so.2.length))::Zz 100 7 Zak.cs dv ds::Q):=h18
  refine Zo h18 4 (vs:=m.cs) rfl (by rfl) rfl ?_
  refine Zaf (⟨m,so.1⟩:Zak).cs (by kernel_rfl) ?_
  refine Yp (cs:=Zak.zero.cs) h18 rfl λt9 w19 h19=>?_
  refine Zq h19 0 rfl (vs:=(⟨m,so.1⟩:Zak).cs) rfl rfl (Nat.le_of_ble_eq_true rfl) (Zg _) (cs':=(⟨m,so.1⟩:Zak).cs) (by rfl) λw20 h20=>?_
  refine ZaY h20 λw21 h21=>?_
  refine Zh (Za (Zb h21 7 rfl (v:=dv) rfl ?_))
  refine Zo h21 0 (vs:=(⟨m,so.1⟩:Zak).cs) rfl (by rfl) rfl ?_
  refine ZwC (vs:=(⟨m,so.1⟩:Zak).cs) rfl rfl h21 λbb w22 h22=>?_
  refine ⟨Zb h22 8 rfl (v:=dv) rfl ⟨rfl,rfl⟩,?_⟩
  have hlen:=hR.len
  refine Zeo ZT4 ZT4.und (f:=Zak.cs) (l:=ds) (m:=[⟨m,so.1⟩]) (λ_=>rfl) (λ_=>Zg _) (h22.selR [_,_,_,_,_,_,_,_,_,_,_,_] [_,_,_,_,_,_,_,_,_,_,_,_] [11,0,1,2,3,4,5,6,7,8,9,10] (by decide) rfl) (Zfu (f:=Zak.cs) (x:=⟨m,so.1⟩) (Nat.le_refl _)) (by simp;omega) λdv' w23 h23=>?_
  have q2:=h23.own_cells 0 rfl
  refine Zh (Za (Zq h23 9 rfl (vs:=[dv']) q2.1 rfl (Nat.le_of_ble_eq_true rfl) (λc hc=>by rw[List.mem_singleton.1 hc];exact q2.2) (cs':=x.cs++[sv,qv,wv',dv']) (by rfl) λw24 h24=>?_))
  refine Zo h24 2 (vs:=(⟨m,so.1⟩:Zak).cs) rfl (by rfl) rfl ?_
  refine Zq h24 8 rfl (vs:=(⟨m,so.1⟩:Zak).cs) rfl rfl (Nat.le_of_ble_eq_true rfl) (Zg _) (cs':=(⟨m,so.1⟩:Zak).cs) (by rfl) λw25 h25=>?_
  refine Zo h25 8 (vs:=(⟨m,so.1⟩:Zak).cs) rfl (by rfl) rfl ?_
  have hT:ZF5 x.w fd.f a m rest R=(⟨m,so.1⟩,⟨R.feds.set n ⟨so.1,a.sent+so.2.length,a.log++[⟨m,so.1⟩]⟩,putL rest ms⟩):=by
   unfold ZF5
   rw[hso',hms,hn,Int.toNat_natCast]
  rw[hT] at hnext
  refine hyes _ _ hnext _ (ZLm (sv:=sv) (qv:=qv) (wv:=wv') (dv:=dv') (ds:=ds++[⟨m,so.1⟩]) ⟨hR.may,ZLs hR.may hR.run hnext,λg=>?_,by rw[List.length_append,List.length_singleton];omega⟩ ?_)
  ·rw[ZLz hnext g t1,hR.logs g,List.filter_append]
   congr 1
   by_cases hg:m.To=g
   ·rw[if_pos hg]
    simp[hg]
   ·rw[if_neg hg]
    simp[hg]
  ·show Sat e w25 (blk r 98 (x.cs++[sv,qv,wv',dv'])::Zz 3 1 (Ye .i64) sv ((R.feds.set n ⟨so.1,a.sent+so.2.length,a.log++[⟨m,so.1⟩]⟩).map FA.st)::Zz 3 1 (Ye .i64) qv ((R.feds.set n ⟨so.1,a.sent+so.2.length,a.log++[⟨m,so.1⟩]⟩).map FA.sent)::Zz 81 6 Msg.cs wv' (putL rest ms)::Zz 100 7 Zak.cs dv' (ds++[⟨m,so.1⟩])::Q)
   rw[ZLE,ZLE]
   exact h25.selR [_,_,_,_,_,_,_,_,_,_,_,_] [_,_,_,_,_] [9,10,11,3,0] (by decide) rfl
theorem ZKY {r k n:Nat} {x:WdX} {R:RS} (hk0:k+n≤1000) (i:Nat) (hi:Q[i]?=some S) (hS:Sat e w (ZKC r x R k::Q)) (hr:∀g,S g→ZtG x g) (hs:x.short)
  (hk:∀w',Sat e w' (ZKC r x (Zul x.w n R).2 (k+(Zul x.w n R).1)::Q)→K (.int .i64 (Zul x.w n R).1) w') :
  Cl prog 24 #[.pointer (some ⟨r,0,none⟩),.int .i64 n] w K:=by
 refine ZJx ?_
 unfold ZJp
 refine Zdk (λq t5 w=>∃(j:Nat) (R':RS),j≤n∧t5=.int .i64 j∧q=n - j∧Zul x.w n R=(j+(Zul x.w (n - j) R').1,(Zul x.w (n - j) R').2)∧Sat e w (ZKC r x R' (k+j)::Q)) n
  ⟨0,R,Nat.zero_le _,rfl,rfl,by simp,hS⟩ ?_
 rintro q _ w g ⟨j,R',hj,rfl,rfl,heq,h1⟩ hg
 rw[ZTC]
 refine Za7 (λc=>Zi ?_) (λc=>Zf ?_)
 ·obtain ⟨m,hm⟩:∃m,n - j=m+1:=⟨n - j - 1,by omega⟩
  rw[hm,ZLk] at heq
  refine ZK4 (x:=x) (by omega) i hi h1 hr hs (λhno w2 h2=>?_) (λd R2 hyes w2 h2=>?_)
  ·rw[hno] at heq
   refine Zam (Zal ?_)
   refine Yp (cs:=Zak.zero.cs) h2 rfl λt w3 h3=>?_
   refine Zq h3 0 rfl (vs:=Zak.zero.cs) rfl rfl (by decide) (Zg _) (cs':=Zak.zero.cs) (by rfl) λw4 h4=>?_
   refine Zch (Zi ?_)
   have heq':Zul x.w n R=(j,R'):=heq
   rw[heq'] at hk
   exact hk _ h4.drop
  ·rw[hyes] at heq
   refine Zam (Zal ?_)
   refine Yp (cs:=Zak.zero.cs) h2 rfl λt w3 h3=>?_
   refine Zq h3 0 rfl (vs:=d.cs) rfl rfl (by decide) (Zg _) (cs':=d.cs) (by rfl) λw4 h4=>?_
   refine ZaJ (Zf (Yr (by omega) ?_))
   refine hg _ _ _ (by omega) ⟨j+1,R2,by omega,rfl,rfl,?_,h4.drop⟩
   rw[heq,show n - (j+1)=m from by omega]
   simp only[Prod.mk.injEq,and_true]
   omega
 ·have ej:n - j=0:=by omega
  rw[ej] at heq
  have heq':Zul x.w n R=(j,R'):=heq
  rw[heq'] at hk
  exact hk _ h1
end Go.Proofs.YtnhaekgogppbiaaGreat
end
