/- Texts of the proof, joined. Conditions: none. -/
import Derived.Test.YtkpdpddmaoablaaGreatK7
section
namespace Go.Proofs.YtkpdpddmaoablaaGreat
open Go Go.E
set_option maxRecDepth 100000
variable {e w:World} {L Q:List HP} {K:KV} {S S2:HP}
theorem Zjv {x:WdX} (i:Nat) (hi:L[i]?=some S) (hS:Sat e w L) (hr:∀g,S g→ZtG x g) (hs:x.short)
  (hk:∀(X:WdX) w',X.w=x.w→Sat e w' (Zag X::L)→K (.agg X.cs.toArray) w'):Cl prog 45 #[.agg x.cs.toArray] w K:=by
 refine Zj5 ?_
 unfold ZlG
 have hflat:=ZoI i hi hS hr
 refine Yp (cs:=x.cs) hS rfl λb w1 h1=>?_
 rw[ZOw]
 refine Yp (cs:=[.slice none 0 0,.slice none 0 0,.int .i64 0]) h1 rfl λb2 w2 h2=>?_
 refine Za (Zb h2 1 rfl (v:=x.pv) rfl ?_)
 refine ZbR (i+2) (by simpa using hi) (by have:=hs.par;omega) (λ_ _ v h=>by simp[Ye] at h;subst h;rfl) h2 (λg hg=>(hr g hg).par) λv1 w3 h3=>?_
 have f1:=h3.own_cells 0 rfl
 refine Za (Zq h3 2 rfl (vs:=[v1]) f1.1 rfl (Nat.le_of_ble_eq_true rfl) (λc hc=>by rw[List.mem_singleton.1 hc];exact f1.2) (cs':=[v1,x.fv,.int .i64 x.End]) (by rfl) λw4 h4=>?_)
 refine Za (Zb h4 2 rfl (v:=x.fv) rfl ?_)
 refine ZkD (i+3) (by simpa using hi) (by have:=hs.feds;omega) (λf hf=>Zc1 i hi hS λg hg=>(hr g hg).fed f hf) h4 (λg hg=>(hr g hg).feds) λv2 w5 h5=>?_
 have f2:=h5.own_cells 0 rfl
 refine Za (Zq h5 3 rfl (vs:=[v2]) f2.1 rfl (Nat.le_of_ble_eq_true rfl) (λc hc=>by rw[List.mem_singleton.1 hc];exact f2.2) (cs':=[v1,v2,.int .i64 x.End]) (by rfl) λw6 h6=>?_)
 refine Za (Zb h6 3 rfl (v:=v2) rfl ?_)
 refine Zt h6 0 rfl (λ_=>Zp) ?_
 have hfl:=hs.feds
 refine Zdk (λq t17 w=>∃(j:Nat) (dn:List Zao),j≤x.Feds.length∧t17=.int .i64 j∧q=x.Feds.length - j∧dn.length=j∧dn.map Zao.f=(x.Feds.take j).map Zao.f∧
   Sat e w (Zz 53 7 Zao.cs v2 (dn++x.Feds.drop j)::Yh (dn.map Zea)::Zz 3 1 (Ye .i64) v1 x.Parents::blk b2 27 [.slice none 0 0,.slice none 0 0,.int .i64 0]::blk b 27 [v1,v2,.int .i64 x.End]::L)) x.Feds.length
  ⟨0,[],Nat.zero_le _,rfl,rfl,rfl,rfl,?_⟩ ?_
 ·have h7:Sat e w6 (Yh []::Zz 53 7 Zao.cs v2 x.Feds::Zz 3 1 (Ye .i64) v1 x.Parents::blk b2 27 [.slice none 0 0,.slice none 0 0,.int .i64 0]::blk b 27 [v1,v2,.int .i64 x.End]::L):=Sat.join (l':=[]) (h6.selR [_,_,_,_] [_,_,_,_] [0,1,2,3] (by decide) rfl)
  exact h7.swap
 rintro q _ w g1 ⟨j,dn,hj,rfl,rfl,hdl,hdm,h7⟩ hg1
 refine Za7 (λc0=>Zi ?_) (λc0=>Zf ?_)
 case refine_2=>
  have ej:j=x.Feds.length:=by omega
  rw[ej,List.drop_length,List.append_nil] at h7
  rw[ej,List.take_length] at hdm
  refine Zo h7 4 (vs:=[v1,v2,.int .i64 x.End]) rfl (by rfl) rfl ?_
  refine Zq h7 3 rfl (vs:=[v1,v2,.int .i64 x.End]) rfl rfl (Nat.le_of_ble_eq_true rfl) (λc hc=>by
   simp only[List.mem_cons,List.not_mem_nil,or_false] at hc
   rcases hc with rfl | rfl | rfl
   ·exact f1.2
   ·exact f2.2
   ·rfl) (cs':=[v1,v2,.int .i64 x.End]) (by rfl) λw8 h8=>?_
  refine Zo h8 3 (vs:=[v1,v2,.int .i64 x.End]) rfl (by rfl) rfl ?_
  refine hk ⟨v1,x.Parents,v2,dn,x.End⟩ _ (by simp only[WdX.w,hdm]) (Sat.join (l':=[_,_,_]) ?_)
  exact h8.selR [_,_,_,_,_] [_,_,_] [2,0,1] (by decide) rfl
 obtain ⟨fd,hf⟩:=Zk (l:=x.Feds) (j:=j) (by omega)
 have hfm:=List.mem_of_getElem? hf
 have hsf:=hs.fed fd hfm
 have hdr:x.Feds.drop j=fd::x.Feds.drop (j+1):=Zaq hf
 have hget:(dn++x.Feds.drop j)[j]?=some fd:=by rw[hdr,List.getElem?_append_right (by omega),hdl,Nat.sub_self];rfl
 have hi7:(Zz 53 7 Zao.cs v2 (dn++x.Feds.drop j)::Yh (dn.map Zea)::Zz 3 1 (Ye .i64) v1 x.Parents::blk b2 27 [.slice none 0 0,.slice none 0 0,.int .i64 0]::blk b 27 [v1,v2,.int .i64 x.End]::L)[i+5]?=some S:=by simpa using hi
 refine Za (Zb h7 4 rfl (v:=v2) rfl ?_)
 refine ZjI h7 0 rfl hget λbb cc hv2=>?_
 refine ZaY h7 λw8 h8=>?_
 refine Zh (Za (Zaa h8 0 rfl (λ_=>rfl) hv2 hget (u:=fd.pv) rfl ?_))
 refine Zh (Za (Zaa h8 0 rfl (λ_=>rfl) hv2 hget (u:=fd.sv) rfl ?_))
 refine Zh (Za (Zaa h8 0 rfl (λ_=>rfl) hv2 hget (u:=fd.iv) rfl ?_))
 refine Zh (Za (Zaa h8 0 rfl (λ_=>rfl) hv2 hget (u:=fd.rv) rfl ?_))
 have hintf:∀(l:List Int),∀x∈l,∀v∈Ye .i64 x,flat v=true:=λ_ _ _ v h=>by simp[Ye] at h;subst h;rfl
 refine ZbR (i+5) hi7 (by have:=hsf.pubs;omega) (hintf _) h8 (λg hg=>((hr g hg).fed fd hfm).pubs) λa1 w9 h9=>?_
 refine ⟨Zaa h9 1 rfl (λ_=>rfl) hv2 hget (u:=fd.rv) rfl ⟨rfl,rfl⟩,Zaa h9 1 rfl (λ_=>rfl) hv2 hget (u:=fd.iv) rfl ⟨rfl,rfl⟩,Zaa h9 1 rfl (λ_=>rfl) hv2 hget (u:=fd.sv) rfl ⟨rfl,rfl⟩,?_⟩
 refine ZbR (i+6) (by simpa using hi) (by have:=hsf.subs;omega) (hintf _) h9 (λg hg=>((hr g hg).fed fd hfm).subs) λa2 w10 h10=>?_
 refine ⟨Zaa h10 2 rfl (λ_=>rfl) hv2 hget (u:=fd.rv) rfl ⟨rfl,rfl⟩,Zaa h10 2 rfl (λ_=>rfl) hv2 hget (u:=fd.iv) rfl ⟨rfl,rfl⟩,?_⟩
 refine Zde (i+7) (by simpa using hi) (by have:=hsf.init;omega) (λ_ _=>Zg _) h10 (λg hg=>((hr g hg).fed fd hfm).init) λa3 w11 h11=>?_
 refine ⟨Zaa h11 3 rfl (λ_=>rfl) hv2 hget (u:=fd.rv) rfl ⟨rfl,rfl⟩,?_⟩
 refine Zjh (i+8) (by simpa using hi) (by have:=hsf.rules;omega) (Znr i hi hS λg hg=>((hr g hg).fed fd hfm).rules) h11 (λg hg=>((hr g hg).fed fd hfm).rules.s) λa4 w12 h12=>?_
 have q4:=h12.own_cells 0 rfl
 have q3:=h12.own_cells 1 rfl
 have q2:=h12.own_cells 2 rfl
 have q1:=h12.own_cells 3 rfl
 have hset:∀(a c:Zao),((dn++x.Feds.drop j).set j a).set j c=(dn++x.Feds.drop j).set j c:=λa c=>List.set_set _
 have hjl:j<(dn++x.Feds.drop j).length:=(List.getElem?_eq_some_iff.1 hget).1
 have hg1':∀a:Zao,((dn++x.Feds.drop j).set j a)[j]?=some a:=λa=>List.getElem?_set_self hjl
 have hln:∀a:Zao,((dn++x.Feds.drop j).set j a).length=(dn++x.Feds.drop j).length:=λa=>List.length_set
 refine Zh (Za (Zdz h12 4 rfl (λ_=>rfl) hv2 hget (x':={ fd with pv:=a1 }) q1.1 rfl (by decide) (λc hc=>by rw[List.mem_singleton.1 hc];exact q1.2) rfl λw13 h13=>?_))
 refine Zh (Za (Zdz h13 4 rfl (λ_=>rfl) (by rw[hln];exact hv2) (hg1' _) (x':={ fd with pv:=a1,sv:=a2 }) q2.1 rfl (by decide) (λc hc=>by rw[List.mem_singleton.1 hc];exact q2.2) rfl λw14 h14=>?_))
 rw[hset] at h14
 refine Zh (Za (Zdz h14 4 rfl (λ_=>rfl) (by rw[hln];exact hv2) (hg1' _) (x':={ fd with pv:=a1,sv:=a2,iv:=a3 }) q3.1 rfl (by decide) (λc hc=>by rw[List.mem_singleton.1 hc];exact q3.2) rfl λw15 h15=>?_))
 rw[hset] at h15
 refine Zh (Za (Zdz h15 4 rfl (λ_=>rfl) (by rw[hln];exact hv2) (hg1' _) (x':={ fd with pv:=a1,sv:=a2,iv:=a3,rv:=a4 }) q4.1 rfl (by decide) (λc hc=>by rw[List.mem_singleton.1 hc];exact q4.2) rfl λw16 h16=>?_))
 rw[hset] at h16
 clear h8 h9 h10 h11 h12 h13 h14 h15
 generalize hfd':({ fd with pv:=a1,sv:=a2,iv:=a3,rv:=a4 }:Zao)=fd' at h16
 generalize hls:(dn++x.Feds.drop j).set j fd'=ls at h16
 have hlsj:ls[j]?=some fd':=by rw[←hls];exact hg1' _
 have hlsl:v2=.slice (some ⟨bb,0,none⟩) ls.length cc:=by rw[←hls,hln];exact hv2
 have e4:fd'.rv=a4:=by rw[←hfd']
 refine Zh (Za (Zaa h16 4 rfl (λ_=>rfl) hlsl hlsj (u:=a4) (by rw[←hfd'];rfl) ?_))
 refine Zt h16 0 rfl (λ_=>Zp) ?_
 have hrl:=hsf.rules
 refine Zdk (λq t61 w=>∃(n:Nat) (rd:List Yg),n≤fd.Rules.length∧t61=.int .i64 n∧q=fd.Rules.length - n∧rd.length=n∧rd.map Yg.r=(fd.Rules.take n).map Yg.r∧
   Sat e w (Zz 57 4 Yg.cs a4 (rd++fd.Rules.drop n)::Yh (rd.map ZfY)::Zz 55 3 Out.cs a3 fd.Init::Zz 3 1 (Ye .i64) a2 fd.Subs::Zz 3 1 (Ye .i64) a1 fd.Pubs::Zz 53 7 Zao.cs v2 ls::Yh (dn.map Zea)::Zz 3 1 (Ye .i64) v1 x.Parents::blk b2 27 [.slice none 0 0,.slice none 0 0,.int .i64 0]::blk b 27 [v1,v2,.int .i64 x.End]::L)) fd.Rules.length
  ⟨0,[],Nat.zero_le _,rfl,rfl,rfl,rfl,?_⟩ ?_
 ·exact (Sat.join (l':=[]) h16).swap
 rintro q _ w g2 ⟨n,rd,hn,rfl,rfl,hrdl,hrdm,h17⟩ hg2
 refine Za7 (λc1=>Zi ?_) (λc1=>Zf ?_)
 case refine_2=>
  have en:n=fd.Rules.length:=by omega
  rw[en,List.drop_length,List.append_nil] at h17
  rw[en,List.take_length] at hrdm
  refine Yr (by omega) ?_
  have h18:Sat e w (Zea { fd' with Rules:=rd }::Zz 53 7 Zao.cs v2 ls::Yh (dn.map Zea)::Zz 3 1 (Ye .i64) v1 x.Parents::blk b2 27 [.slice none 0 0,.slice none 0 0,.int .i64 0]::blk b 27 [v1,v2,.int .i64 x.End]::L):=by
   refine Sat.join (l':=[_,_,_,_,_]) ?_
   rw[←hfd']
   exact h17.selR [_,_,_,_,_] [_,_,_,_,_] [4,3,2,0,1] (by decide) rfl
  have h19:=ZiX (h18.selR [_,_,_] [_,_,_] [0,2,1] (by decide) rfl)
  refine hg1 _ _ _ (by omega) ⟨j+1,dn++[{ fd' with Rules:=rd }],by omega,rfl,rfl,by simp[hdl],?_,?_⟩
  ·rw[Zx hf,List.map_append,List.map_append,hdm,List.map_singleton,List.map_singleton]
   congr 2
   rw[←hfd']
   simp only[Zao.f,hrdm]
  ·have h20:=(h19.swap).imp (Q:=Zz 53 7 Zao.cs v2 (dn++[{ fd' with Rules:=rd }]++x.Feds.drop (j+1))) λg hg=>ZoX (by
    rw[←hls,hdr,List.set_append_right _ _ (by omega),hdl,Nat.sub_self,List.set_cons_zero]
    simp only[List.map_append,List.map_cons,List.append_assoc,List.singleton_append]
    rfl) hg
   rw[List.map_append]
   exact h20
 obtain ⟨r,hrn⟩:=Zk (l:=fd.Rules) (j:=n) (by omega)
 have hrm:=List.mem_of_getElem? hrn
 have hdr2:fd.Rules.drop n=r::fd.Rules.drop (n+1):=Zaq hrn
 have hget2:(rd++fd.Rules.drop n)[n]?=some r:=by rw[hdr2,List.getElem?_append_right (by omega),hrdl,Nat.sub_self];rfl
 refine ZaY h17 λw18 h18=>?_
 refine Zh (Za (Zaa h18 5 rfl (λ_=>rfl) hlsl hlsj (u:=a4) (by rw[←hfd'];rfl) ?_))
 refine Zh (Za (Zaa h18 5 rfl (λ_=>rfl) hlsl hlsj (u:=a4) (by rw[←hfd'];rfl) ?_))
 refine ZjI h18 0 rfl hget2 λbr cr ha4=>?_
 refine Za (Zaa h18 0 rfl (λ_=>rfl) ha4 hget2 (u:=r.sv) rfl ?_)
 refine Zde (i+10) (by simpa using hi) (by have:=hsf.sends r hrm;omega) (λ_ _=>Zg _) h18 (λg hg=>((hr g hg).fed fd hfm).rules.e r hrm) λa5 w19 h19=>?_
 have q5:=h19.own_cells 0 rfl
 refine ⟨Zaa h19 6 rfl (λ_=>rfl) hlsl hlsj (u:=a4) (by rw[←hfd'];rfl) ⟨rfl,rfl⟩,?_⟩
 refine ZjI h19 1 rfl hget2 λbr' cr' ha4'=>?_
 refine Za (Zdz h19 1 rfl (λ_=>rfl) ha4' hget2 (x':={ r with sv:=a5 }) q5.1 rfl (by decide) (λc hc=>by rw[List.mem_singleton.1 hc];exact q5.2) rfl λw20 h20=>?_)
 refine Yr (by omega) ?_
 have h21:=ZiX (A:=ZfY { r with sv:=a5 }) (h20.selR [_,_,_] [_,_,_] [0,2,1] (by decide) rfl)
 refine hg2 _ _ _ (by omega) ⟨n+1,rd++[{ r with sv:=a5 }],by omega,rfl,rfl,by simp[hrdl],?_,?_⟩
 ·rw[Zx hrn,List.map_append,List.map_append,hrdm]
  rfl
 ·rw[hdr2,List.set_append_right _ _ (by omega),hrdl,Nat.sub_self,List.set_cons_zero] at h21
  rw[List.map_append,List.append_assoc]
  exact h21.swap
def Zhq (wd:Wd) (f:Int):Option Fed:=if 0≤f then (wd.Feds[f.toNat]?).bind λfd=>if fd.Kind=1 then some fd else none else none
def ZdE (l:List Fed):List Int:=l.map λg=>if g.Kind=0 then 0 else -1
theorem Zt8:Zr8 (ZdE []) []:=⟨List.nodup_nil,λj=>by unfold Zc9 ZdE;simp[lkA],by simp⟩
theorem ZnN {l:List Int} {x:Int} (j:Int):Zc9 (l++[x]) j=if j=l.length then x else Zc9 l j:=by
 unfold Zc9
 by_cases h0:0≤j
 ·rw[if_pos h0,if_pos h0,List.getD_eq_getElem?_getD,List.getD_eq_getElem?_getD]
  by_cases h1:j=l.length
  ·rw[if_pos h1,h1,Int.toNat_natCast,List.getElem?_append_right (Nat.le_refl _),Nat.sub_self]
   rfl
  ·rw[if_neg h1]
   rcases Nat.lt_or_ge j.toNat l.length with h2 | h2
   ·rw[List.getElem?_append_left h2]
   ·rw[List.getElem?_append_right h2,List.getElem?_eq_none (l:=l) h2,List.getElem?_eq_none (by simp;omega)]
 ·rw[if_neg h0,if_neg h0,if_neg (by omega)]
theorem ZvR {l:List Fed} {m:List (Int × Int)} {g:Fed} (h:Zr8 (ZdE l) m) (hg:g.Kind=0) (hl:m.length≤900):Zr8 (ZdE (l++[g])) (upA m (l.length:Int) 0):=by
 have e1:ZdE (l++[g])=ZdE l++[0]:=by unfold ZdE;rw[List.map_append,List.map_singleton,if_pos hg]
 have e2:(ZdE l).length=l.length:=by unfold ZdE;rw[List.length_map]
 have hn:lkA m (l.length:Int)=none:=by
  rw[h.lk,←e2]
  have:Zc9 (ZdE l) ((ZdE l).length:Int)=-1:=by
   unfold Zc9
   rw[if_pos (by omega),Int.toNat_natCast,List.getD_eq_getElem?_getD,List.getElem?_eq_none (Nat.le_refl _)]
   rfl
  rw[this]
  rfl
 refine ⟨h.u.up _ _,λj=>?_,?_⟩
 ·rw[ZiY h.u,e1,ZnN,e2]
  by_cases hj:j=l.length
  ·rw[if_pos hj,if_pos hj];rfl
  ·rw[if_neg hj,if_neg hj,h.lk j]
 ·unfold upA
  rw[hn]
  simp
  omega
theorem Zxj {l:List Fed} {m:List (Int × Int)} {g:Fed} (h:Zr8 (ZdE l) m) (hg:g.Kind≠0):Zr8 (ZdE (l++[g])) m:=by
 have e1:ZdE (l++[g])=ZdE l++[-1]:=by unfold ZdE;rw[List.map_append,List.map_singleton,if_neg hg]
 refine ⟨h.u,λj=>?_,h.len⟩
 rw[e1,ZnN,h.lk j]
 by_cases hj:j=(ZdE l).length
 ·rw[if_pos hj,hj]
  have:Zc9 (ZdE l) ((ZdE l).length:Int)=-1:=by
   unfold Zc9
   rw[if_pos (by omega),Int.toNat_natCast,List.getD_eq_getElem?_getD,List.getElem?_eq_none (Nat.le_refl _)]
   rfl
  rw[this]
 ·rw[if_neg hj]
theorem Zz4 {m:List (Int × Int)} {k x:Int}:(upA m k x).length≤m.length+1:=by
 unfold upA
 split
 ·rw[List.length_map];omega
 ·simp
theorem Ztr {x:WdX} {f:Int} (i:Nat) (hi:L[i]?=some S) (hS:Sat e w L) (hr:∀g,S g→ZtG x g) (hwf:x.wf) (hs:x.short)
  (hbad:(Za4 x.w).2≠0→∀w',Sat e w' L→K (.tuple #[.pointer none,.int .i64 (Za4 x.w).2]) w')
  (harg:(Za4 x.w).2=0→Zhq x.w f=none→∀w',Sat e w' L→K (.tuple #[.pointer none,.int .i64 1]) w')
  (hok:(Za4 x.w).2=0→∀(n:Nat) fd,f=n→x.w.Feds[n]?=some fd→Zhq x.w f=some fd→∀r w',Sat e w' (Ya r x.w n fd (ZiQ x.w) 0::L)→K (.tuple #[.pointer (some ⟨r,0,none⟩),.int .i64 0]) w') :
  Cl prog 20 #[.agg x.cs.toArray,.int .i64 f] w K:=by
 refine Zm5 ?_
 unfold ZrQ
 refine Yp (cs:=x.cs) hS rfl λb w1 h1=>?_
 refine Zo h1 0 (vs:=x.cs) rfl (by rfl) rfl ?_
 refine ZdI (x:=x) (i+1) (by simpa using hi) h1 hr hwf hs λw2 h2=>?_
 refine Zam (Zal ?_)
 refine ZrP (λc1=>Zi (hbad c1 _ h2.drop)) (λc1=>Zf ?_)
 have hwd:=ZfI c1
 have hi2:(blk b 27 x.cs::L)[i+1]?=some S:=by simpa using hi
 have hwl:x.w.Feds.length=x.Feds.length:=by simp[WdX.w]
 by_cases d1:f<0
 ·refine Ztt d1 ?_
  refine Zd (Zd (Zd (Zd (Zd (Yv (Zd (Zd (Zd (Zd (Zd (Zd (Zd (Yv (Zi ?_))))))))))))))
  exact harg c1 (if_neg (by omega)) _ h2.drop
 refine Ze7 d1 (Zj (Zj (Za (Zj (Zb h2 0 rfl (v:=x.fv) rfl (Zj ?_))))))
 refine Zt h2 (i+1) hi2 (λg hg=>(hr g hg).feds) ?_
 by_cases d2:(x.Feds.length:Int)≤f
 ·refine Ze (Zqv (by omega) (Yd (Zd (Zd (Zd (Zd (Zd (Zd (Zd (Yv (Zi ?_)))))))))))
  refine harg c1 ?_ _ h2.drop
  unfold Zhq
  rw[if_pos (by omega),List.getElem?_eq_none (by omega)]
  rfl
 refine Zj (ZnR (by omega) (Yd ?_))
 obtain ⟨n,rfl⟩:∃n:Nat,f=n:=⟨f.toNat,by omega⟩
 obtain ⟨fd,hfd⟩:=Zk (l:=x.Feds) (j:=n) (by omega)
 have hfdm:=List.mem_of_getElem? hfd
 have hwf':x.w.Feds[n]?=some fd.f:=by simp only[WdX.w];rw[List.getElem?_map,hfd];rfl
 have hmay:Zhq x.w n=if fd.Kind=1 then some fd.f else none:=by
  unfold Zhq
  rw[if_pos (by omega),Int.toNat_natCast,hwf']
  rfl
 refine Zj (Za (Zj (Zb h2 0 rfl (v:=x.fv) rfl (Zj (Zj ?_)))))
 refine Zw h2 (i+1) hi2 (λg hg=>(hr g hg).feds) (λ_=>rfl) hfd λp hp=>?_
 refine Zj (Zbd hp λp1 hp1=>Zj (Yt h2 (i+1) hi2 hp1 (v:=.int .i64 fd.Kind) rfl ?_))
 refine Zj (ZrP (λd3=>Yd (Zi (harg c1 (by rw[hmay,if_neg d3]) _ h2.drop))) (λd3=>Yd (Zf ?_)))
 rw[if_pos d3] at hmay
 refine ZaY h2 λw4 h4=>?_
 refine Zo h4 0 (vs:=x.cs) rfl (by rfl) rfl ?_
 refine Za (Zb h4 0 rfl (v:=x.fv) rfl ?_)
 refine Zw h4 (i+1) hi2 (λg hg=>(hr g hg).feds) (λ_=>rfl) hfd λp2 hp2=>?_
 refine Zbd hp2 λp3 hp3=>Yt h4 (i+1) hi2 hp3 (v:=.int .i64 fd.Start) rfl ?_
 refine Za (Zb h4 0 rfl (v:=x.fv) rfl ?_)
 refine Zw h4 (i+1) hi2 (λg hg=>(hr g hg).feds) (λ_=>rfl) hfd λp4 hp4=>?_
 refine Zbd hp4 λp5 hp5=>Yt h4 (i+1) hi2 hp5 (v:=fd.iv) rfl ?_
 refine Zt h4 (i+1) hi2 (λg hg=>((hr g hg).fed fd hfdm).init) ?_
 have hn:=hwd.n
 have fin:∀(X:WdX) (q p g mb:Nat) w',X.w=x.w→Sat e w' (Zag X::IsQ q []::Yf p 0 []::Yo g 0 []::Zaj kI kI mb []::blk b 27 x.cs::L)→
   bld (Zl prog 139) #[(0,3),(3,1),(4,1),(5,1),(6,1),(7,1),(8,1),(9,1),(10,1)] [(0,.agg X.cs.toArray),(1,.int .i64 n),(2,.int .i64 fd.Start),(3,.int .i64 (fd.Init.length:Int)),(4,.pointer (some ⟨q,0,none⟩)),(5,.pointer (some ⟨p,0,none⟩)),(6,.pointer (some ⟨g,0,none⟩)),(7,.map (some mb))] w' λt57 w=>
    al (Value.cells t57) 139 w λt58 w=>fld 1 (.pointer (some ⟨b,0,none⟩)) w λt59 w=>ld1 t59 w λt60 w=>lnS t60 w λt61 w=>lp [(Value.int IntKind.i64 0)] w (b1 λt62 w g1=>bi .lss .i64 t62 t61 w λt63 w=>Zr t63
    (J0 (λw=>bi .add .i64 t62 (Value.int IntKind.i64 1) w λt75 w=>g1 [t75] w) λk2=>ixS 7 t60 t62 w λt65 w=>ldN 7 t65 w λt66 w=>al (Zl prog 53) 53 w λt10 w=>stN 7 t10 t66 w λ_ w=>fld 0 t10 w λt67 w=>ld1 t67 w λt68 w=>bi .eql .i64 t68 (Value.int IntKind.i64 0) w λt69 w=>Zr t69
     (ncP t58<|fld 9 t58 w λt72 w=>ld1 t72 w λt73 w=>upM prog 137 t73 t62 (Value.int IntKind.i64 0) w λ_ w=>k2 w) (k2 w))
    (K (Value.tuple #[t58,(Value.int IntKind.i64 0)]) w)):=by
  intro X q p g mb w' hX h'
  refine Zaf (wcs X n fd.Start fd.Init.length q p g mb (.slice none 0 0)) (by kernel_rfl) ?_
  refine Yp (cs:=wcs X n fd.Start fd.Init.length q p g mb (.slice none 0 0)) h' rfl λr w6 h6=>?_
  refine Za (Zb h6 6 rfl (v:=x.fv) rfl ?_)
  have hi6:(blk r 139 (wcs X n fd.Start fd.Init.length q p g mb (.slice none 0 0))::Zag X::IsQ q []::Yf p 0 []::Yo g 0 []::Zaj kI kI mb []::blk b 27 x.cs::L)[i+7]?=some S:=by simpa using hi
  refine Zt h6 (i+7) hi6 (λg hg=>(hr g hg).feds) ?_
  have hxl:x.Feds.length≤8:=by have:=hn.2;omega
  refine Zdk (λmm t62 w=>∃(j:Nat) (m:List (Int × Int)),j≤x.Feds.length∧t62=.int .i64 j∧mm=x.Feds.length - j∧Zr8 (ZdE ((x.Feds.take j).map Zao.f)) m∧m.length≤j∧Sat e w (Zaj kI kI mb m::BW r X n fd.Start fd.Init.length q p g mb (.slice none 0 0)::Zag X::IsQ q []::Yf p 0 []::Yo g 0 []::blk b 27 x.cs::L)) x.Feds.length
   ⟨0,[],Nat.zero_le _,rfl,rfl,Zt8,Nat.le_refl _,h6.selR [_,_,_,_,_,_,_] [_,_,_,_,_,_,_] [5,0,1,2,3,4,6] (by decide) rfl⟩ ?_
  rintro mm _ w7 g1 ⟨j,m,hj,rfl,rfl,hm,hml,h7⟩ hg1
  have hi7:(Zaj kI kI mb m::BW r X n fd.Start fd.Init.length q p g mb (.slice none 0 0)::Zag X::IsQ q []::Yf p 0 []::Yo g 0 []::blk b 27 x.cs::L)[i+7]?=some S:=by simpa using hi
  refine Za7 (λc=>Zi ?_) (λc=>Zf ?_)
  ·obtain ⟨fj,hfj⟩:=Zk (l:=x.Feds) (j:=j) (by omega)
   have hfjm:=List.mem_of_getElem? hfj
   have htl:((x.Feds.take j).map Zao.f).length=j:=by rw[List.length_map,List.length_take];omega
   have htk:(x.Feds.take (j+1)).map Zao.f=(x.Feds.take j).map Zao.f++[fj.f]:=by rw[Zx hfj,List.map_append];rfl
   refine J0.cut (λw=>∃m',Zr8 (ZdE ((x.Feds.take (j+1)).map Zao.f)) m'∧m'.length≤j+1∧Sat e w (Zaj kI kI mb m'::BW r X n fd.Start fd.Init.length q p g mb (.slice none 0 0)::Zag X::IsQ q []::Yf p 0 []::Yo g 0 []::blk b 27 x.cs::L)) (λk2 hk2=>?_) ?_
   ·refine Zw h7 (i+7) hi7 (λg hg=>(hr g hg).feds) (λ_=>rfl) hfj λa ha=>Ym h7 (i+7) hi7 ha rfl ?_
    rw[ZOh]
    refine Yp (cs:=[.int .i64 0,.int .i64 0,.int .i64 0,.slice none 0 0,.slice none 0 0,.slice none 0 0,.slice none 0 0]) h7 rfl λt10 w8 h8=>?_
    refine Zq h8 0 rfl (vs:=fj.cs) rfl rfl (by simp) (Zc1 i hi hS λg hg=>(hr g hg).fed fj hfjm) (cs':=fj.cs) (by rfl) λw9 h9=>?_
    refine Za (Zb h9 0 rfl (v:=.int .i64 fj.Kind) rfl ?_)
    refine ZoR (λc2=>Zi ?_) (λc2=>Zf ?_)
    ·refine Zh (Za (Zb h9 2 rfl (v:=.map (some mb)) rfl ?_))
     refine ZsG ZNS ZNU hm.u (h9.pick 1 rfl) (j:Int) 0 (vf:=kI) rfl λw10 h10=>?_
     refine hk2 _ ⟨upA m (j:Int) 0,?_,Nat.le_trans Zz4 (by omega),h10.selR [_,_,_,_,_,_,_,_] [_,_,_,_,_,_,_] [0,2,3,4,5,6,7] (by decide) rfl⟩
     rw[htk]
     have:=ZvR (g:=fj.f) hm c2 (by omega)
     rwa [htl] at this
    ·refine hk2 _ ⟨m,?_,by omega,h9.drop⟩
     rw[htk]
     exact Zxj hm c2
   ·rintro w8 ⟨m',hm',hml',h8⟩
    refine Yr (by omega) ?_
    exact hg1 _ _ _ (by omega) ⟨j+1,m',by omega,rfl,rfl,hm',hml',h8⟩
  ·have ej:j=x.Feds.length:=by omega
   rw[ej,List.take_length] at hm
   have hms:Zr8 (ZiQ x.w).clk m:=hm
   have h8:=h7.own_nil 42 7 Zak.cs
   refine hok c1 n fd.f rfl hwf' hmay r _ (ZbQ (N:=ZiQ x.w) (X:=X) (q:=q) (p:=p) (g:=g) (b:=mb) (m:=m) (lv:=.slice none 0 0) ⟨hX,ZxN hX hs,WOk.init hwd hwf' d3,hms⟩ ?_)
   exact h8.selR [_,_,_,_,_,_,_,_] [_,_,_,_,_,_,_] [2,4,5,6,3,1,0] (by decide) rfl
 have o4:∀{l':List HP} {w'} {A:Prop} (j jb:Nat),Sat e w' l'→l'[j]?=some S→l'[jb]?=some (blk b 27 x.cs)→A→
   ((ld1 (.pointer (some p5)) w' (λv' w''=>v'=fd.iv∧w''=w'))∧((ld1 (.pointer (some ⟨b,0+1,none⟩)) w' (λv' w''=>v'=x.fv∧w''=w'))∧((ld1 (.pointer (some p3)) w' (λv' w''=>v'=.int .i64 fd.Start∧w''=w'))∧((ld1 (.pointer (some ⟨b,0+1,none⟩)) w' (λv' w''=>v'=x.fv∧w''=w'))∧A)))):=λj jb h' hj hb hA=>
  ⟨Yt h' j hj hp5 (v:=fd.iv) rfl ⟨rfl,rfl⟩,Zb h' jb hb (v:=x.fv) rfl ⟨rfl,rfl⟩,Yt h' j hj hp3 (v:=.int .i64 fd.Start) rfl ⟨rfl,rfl⟩,Zb h' jb hb (v:=x.fv) rfl ⟨rfl,rfl⟩,hA⟩
 have oN:∀{l':List HP} {w'} (jb:Nat),Sat e w' l'→l'[jb]?=some (blk b 27 x.cs)→ldN 3 (.pointer (some ⟨b,0,none⟩)) w' (λv' w''=>v'=.agg x.cs.toArray∧w''=w'):=λjb h' hb=>Zo h' jb hb (vs:=x.cs) rfl (by rfl) ⟨rfl,rfl⟩
 refine ⟨?_,?_⟩
 ·refine Zjv (x:=x) (i+1) hi2 h4 hr hs λX w5 hX h5=>o4 (i+2) 1 h5 (by simpa using hi) rfl ⟨?_,?_⟩
  ·refine ZoH h5 λq w6 h6=>o4 (i+3) 2 h6 (by simpa using hi) rfl ⟨?_,?_⟩
   ·refine Zgk h6 λp w7 h7=>o4 (i+4) 3 h7 (by simpa using hi) rfl ⟨?_,?_⟩
    ·refine Zd9 h7 λg w8 h8=>o4 (i+5) 4 h8 (by simpa using hi) rfl ?_
     refine Zfx kI kI h8 λmb w9 h9=>o4 (i+6) 5 h9 (by simpa using hi) rfl ⟨oN 5 h9 rfl,?_⟩
     exact fin X q p g mb _ hX (h9.selR [_,_,_,_,_,_] [_,_,_,_,_,_] [4,3,2,1,0,5] (by decide) rfl)
    ·refine Zfx kI kI h7 λmb w8 h8=>o4 (i+5) 4 h8 (by simpa using hi) rfl ⟨oN 4 h8 rfl,?_⟩
     refine Zd9 h8 λg w9 h9=>o4 (i+6) 5 h9 (by simpa using hi) rfl ?_
     exact fin X q p g mb _ hX (h9.selR [_,_,_,_,_,_] [_,_,_,_,_,_] [4,3,2,0,1,5] (by decide) rfl)
   ·refine Zfx kI kI h6 λmb w7 h7=>o4 (i+4) 3 h7 (by simpa using hi) rfl ⟨oN 3 h7 rfl,?_⟩
    refine Zgk h7 λp w8 h8=>o4 (i+5) 4 h8 (by simpa using hi) rfl ?_
    refine Zd9 h8 λg w9 h9=>o4 (i+6) 5 h9 (by simpa using hi) rfl ?_
    exact fin X q p g mb _ hX (h9.selR [_,_,_,_,_,_] [_,_,_,_,_,_] [4,3,1,0,2,5] (by decide) rfl)
  ·refine Zfx kI kI h5 λmb w6 h6=>o4 (i+3) 2 h6 (by simpa using hi) rfl ⟨oN 2 h6 rfl,?_⟩
   refine ZoH h6 λq w7 h7=>o4 (i+4) 3 h7 (by simpa using hi) rfl ?_
   refine Zgk h7 λp w8 h8=>o4 (i+5) 4 h8 (by simpa using hi) rfl ?_
   refine Zd9 h8 λg w9 h9=>o4 (i+6) 5 h9 (by simpa using hi) rfl ?_
   exact fin X q p g mb _ hX (h9.selR [_,_,_,_,_,_] [_,_,_,_,_,_] [4,2,1,0,3,5] (by decide) rfl)
 ·refine Zfx kI kI h4 λmb w5 h5=>o4 (i+2) 1 h5 (by simpa using hi) rfl ⟨oN 1 h5 rfl,?_⟩
  refine Zjv (x:=x) (i+2) (by simpa using hi) h5 hr hs λX w6 hX h6=>o4 (i+3) 2 h6 (by simpa using hi) rfl ?_
  refine ZoH h6 λq w7 h7=>o4 (i+4) 3 h7 (by simpa using hi) rfl ?_
  refine Zgk h7 λp w8 h8=>o4 (i+5) 4 h8 (by simpa using hi) rfl ?_
  refine Zd9 h8 λg w9 h9=>o4 (i+6) 5 h9 (by simpa using hi) rfl ?_
  exact fin X q p g mb _ hX (h9.selR [_,_,_,_,_,_] [_,_,_,_,_,_] [3,2,1,0,4,5] (by decide) rfl)
variable {R:List HP} {wd:Wd} {k:KS} {M:KM} {p n f s:Nat}
noncomputable def ZtU (wd:Wd) (room:Int):Int:=if (Za4 wd).2≠0 then (Za4 wd).2 else if 1≤room∧room≤16 then 0 else 1
theorem Zq6 {n room:Int} (hn:1≤n∧n≤8) (h:¬(1≤room∧room≤16)) (hk:K (.tuple #[.pointer none,.int .i64 1]) w):Cl prog 18 #[.int .i64 n,.int .i64 room] w K:=by
 refine Zhf ?_
 unfold Zn6
 by_cases c3:room<1
 ·refine Ze7 (by omega) (Zj (Ze (Zle (by omega) (Yd (Zj (Ze (Ztt (by omega) (Yd (Zd (Zd (Yv (Zi ?_))))))))))))
  exact hk
 ·refine Ze7 (by omega) (Zj (Ze (Zle (by omega) (Yd (Zj (Ze (Ze7 (by omega) (Yd (Zj (Ze (ZtF (by omega) (Yd (Zi ?_)))))))))))))
  exact hk
def ndK (wd:Wd) (f:Nat):Nd:=ZpY wd wd.Feds.length f (Zs wd f) (Zcz wd f)
theorem ZhV {j:Nat} (hj:j<wd.Feds.length):Zcz wd (j+1)=Zcz wd j+if (Zs wd j).Kind=0 then 0 else 1:=by
 unfold Zcz
 rw[Zx (ZaN hj),List.filter_append,List.length_append]
 congr 1
 rw[List.filter_cons]
 by_cases h:(Zs wd j).Kind=0
 ·rw[if_neg (by rw[decide_eq_true h];decide),if_pos h];rfl
 ·rw[if_pos (by rw[decide_eq_false h];rfl),if_neg h];rfl
theorem Zs7:Zcz wd wd.Feds.length=Zai wd:=by
 unfold Zcz Zai
 rw[List.take_length]
theorem ZuX:∀(l:List Nat),Sat e w Q→Sat e w (Yh (l.map λ_=>DI (.slice none 0 0) [])::Q)
 | [],h=>Sat.join (l':=[]) h
 | _::l,h=>by
  have h1:=Ziz (ZuX l h)
  have h2:Sat e w ((DI (.slice none 0 0) []::l.map λ_=>DI (.slice none 0 0) [])++Q):=(h1.swap.split.perm List.perm_middle)
  exact Sat.join (l':=DI (.slice none 0 0) []::l.map λ_=>DI (.slice none 0 0) []) h2
theorem Zx5 {α:Type} {j:Nat} (F:Nat→α) (x:α):((List.range (j+1)).map λi=>if i=j then x else F i)=(List.range j).map F++[x]:=by
 rw[List.range_succ,List.map_append]
 congr 1
 ·refine List.map_congr_left λi hi=>?_
  have:=List.mem_range.1 hi
  rw[if_neg (by omega)]
 ·show [if j=j then x else F j]=[x]
  rw[if_pos rfl]
theorem ZuA (m:Nat):Zan.zero m=Zcg m (CL.zero m):=by
 have:(λi=>(List.replicate m (0:Int)).getD i 0)=λ_=>0:=by
  funext i
  rw[List.getD_eq_getElem?_getD,List.getElem?_replicate]
  split <;> rfl
 unfold Zan.zero Zcg CL.zero
 dsimp only
 rw[this]
abbrev nkH (wd:Wd) (j:Nat) (ms:Nat→Nat × Nat):List HP:=(List.range j).map λf=>ndH wd 0 f (ndK wd f) (ms f)
abbrev nkV (wd:Wd) (j:Nat) (ms:Nat→Nat × Nat):List Value:=(List.range j).map λf=>ndV (ndK wd f) (ms f)
theorem ZtP {j:Nat} {ms:Nat→Nat × Nat} {m:Nat × Nat} {nv bv pv:Value} (hj:j<1000) (hpv:pv=ndV (ndK wd j) m) (hS:Sat e w (ndH wd 0 j (ndK wd j) m::Yh (nkH wd j ms)::blk p 67 [.int .i64 wd.End,nv,bv,pt n,.pointer none]::Zz 90 1 one nv (nkV wd j ms)::Q))
  {K:World→Prop} (hk:∀nv' w',Sat e w' (Yh (nkH wd (j+1) λi=>if i=j then m else ms i)::blk p 67 [.int .i64 wd.End,nv',bv,pt n,.pointer none]::Zz 90 1 one nv' (nkV wd (j+1) λi=>if i=j then m else ms i)::Q)→K w') :
  bsl 90 1 1 (Zl prog 90) [(0,pv)] w λt73 w=>apS prog #[64,64] 64 nv t73 w λt74 w=>ncP (pt p)<|fld 1 (pt p) w λt76 w=>stN 1 t76 t74 w λ_ w=>K w:=by
 subst hpv
 have hflat:flat (ndV (ndK wd j) m)=true:=by cases ndK wd j <;> rfl
 have hcells:(ndV (ndK wd j) m).cells.toList=one (ndV (ndK wd j) m):=by cases ndK wd j <;> rfl
 refine ZwC hcells rfl hS λb w1 h1=>?_
 refine Zcs ZRt ZRt.und (f:=one) (l:=nkV wd j ms) (m:=[ndV (ndK wd j) m]) (λ_=>rfl) (λx hx v hv=>by
  rw[List.mem_singleton.1 hx] at hv
  rw[List.mem_singleton.1 hv]
  exact hflat) (h1.selR [_,_,_,_,_] [_,_,_,_,_] [4,0,1,2,3] (by decide) rfl) (Zfu (f:=one) (Nat.le_refl _)) (by rw[List.length_map,List.length_range,List.length_singleton];omega) λnv' w2 h2=>?_
 have q1:=h2.own_cells 0 rfl
 refine Zh (Za (Zpm h2 4 rfl q1 (Nat.le_of_ble_eq_true rfl) (cs':=[.int .i64 wd.End,nv',bv,pt n,.pointer none]) rfl λw3 h3=>?_))
 have h4:Sat e w3 (ndH wd 0 j (ndK wd j) m::Yh (nkH wd j ms)::blk p 67 [.int .i64 wd.End,nv',bv,pt n,.pointer none]::Zz 90 1 one nv' (nkV wd j ms++[ndV (ndK wd j) m])::Q):=h3.selR [_,_,_,_,_] [_,_,_,_] [2,3,4,0] (by decide) rfl
 have h5:=ZiX h4
 have e1:nkH wd (j+1) (λi=>if i=j then m else ms i)=nkH wd j ms++[ndH wd 0 j (ndK wd j) m]:=by
  rw[←Zx5]
  refine List.map_congr_left λi _=>?_
  by_cases h:i=j
  ·subst h;rw[if_pos rfl];dsimp only;rw[if_pos rfl]
  ·rw[if_neg h];dsimp only;rw[if_neg h]
 have e2:nkV wd (j+1) (λi=>if i=j then m else ms i)=nkV wd j ms++[ndV (ndK wd j) m]:=by
  rw[←Zx5]
  refine List.map_congr_left λi _=>?_
  by_cases h:i=j
  ·subst h;rw[if_pos rfl];dsimp only;rw[if_pos rfl]
  ·rw[if_neg h];dsimp only;rw[if_neg h]
 refine hk nv' _ ?_
 rw[e1,e2]
 exact h5
theorem Zu2 {x:WdX} {room:Int} (i:Nat) (hi:L[i]?=some S) (hS:Sat e w L) (hr:∀g,S g→ZtG x g) (hwf:x.wf) (hs:x.short)
  (hbad:ZtU x.w room≠0→∀w',Sat e w' L→K (.tuple #[.pointer none,.int .i64 (ZtU x.w room)]) w')
  (hok:ZtU x.w room=0→∀p w',Sat e w' (Zby p x.w (KS.init x.w room.toNat) 0 0::L)→K (.tuple #[pt p,.int .i64 0]) w'):Cl prog 7 #[.agg x.cs.toArray,.int .i64 room] w K:=by
 refine ZoN ?_
 unfold ZvL
 refine Yp (cs:=x.cs) hS rfl λb w1 h1=>?_
 have hi1:(blk b 27 x.cs::L)[i+1]?=some S:=by simpa using hi
 refine Zo h1 0 (vs:=x.cs) rfl (by rfl) rfl ?_
 refine ZdI (x:=x) (i+1) hi1 h1 hr hwf hs λw2 h2=>?_
 refine Zam (Zal ?_)
 have hxl:x.w.Feds.length=x.Feds.length:=by simp[WdX.w]
 refine ZrP (λc1=>Zi ?_) (λc1=>Zf ?_)
 ·have e1:ZtU x.w room=(Za4 x.w).2:=if_pos c1
  rw[e1] at hbad
  exact hbad c1 _ h2.drop
 have hwd:=ZfI c1
 have hkd:=ZlD c1
 have hn8:=hwd.n
 refine Za (Zb h2 0 rfl (v:=x.fv) rfl (Zt h2 (i+1) hi1 (λg hg=>(hr g hg).feds) ?_))
 by_cases hrm:1≤room∧room≤16
 case neg=>
  have e1:ZtU x.w room=1:=by unfold ZtU;rw[if_neg (λh=>h c1),if_neg hrm]
  rw[e1] at hbad
  refine Zq6 (by omega) hrm ?_
  exact Zam (Zal (Zng (by decide) (Zi (hbad (by decide) _ h2.drop))))
 have e1:ZtU x.w room=0:=by unfold ZtU;rw[if_neg (λh=>h c1),if_pos hrm]
 have hok:=hok e1
 obtain ⟨rm,hrm'⟩:∃r:Nat,room=r:=⟨room.toNat,by omega⟩
 have hrt:room.toNat=rm:=by omega
 rw[hrt] at hok
 refine ZsT (by omega) (by omega) hrm.1 hrm.2 h2 λg w3 h3=>?_
 refine Zam (Zal (ZoP rfl (Zf ?_)))
 refine ZaY h3 λw4 h4=>?_
 refine Za (Zb h4 1 rfl (v:=.int .i64 x.End) rfl ?_)
 have hi4:(Yx g x.Feds.length room (λ_ _=>[])::blk b 27 x.cs::L)[i+2]?=some S:=by simpa using hi
 refine Za (Zb h4 1 rfl (v:=x.fv) rfl (Zt h4 (i+2) hi4 (λg hg=>(hr g hg).feds) ?_))
 refine Zyg ZRH (by omega) h4 one (λ_=>rfl) (.slice none 0 0) (by kernel_rfl) λbv w5 h5=>?_
 refine ⟨Zb h5 2 rfl (v:=.int .i64 x.End) rfl ⟨rfl,rfl⟩,?_⟩
 have q1:=h5.own_cells 0 rfl
 have hEnd:x.End=x.w.End:=rfl
 refine Zaf [.int .i64 x.End,.slice none 0 0,bv,pt g,.pointer none] ?_ ?_
 ·obtain ⟨A,cc,rfl,_⟩:=h5.shape 0 rfl (λ_=>Zp)
  kernel_rfl
 refine Yp (cs:=[.int .i64 x.End,.slice none 0 0,bv,pt g,.pointer none]) h5 rfl λp w6 h6=>?_
 rw[ZOh,ZNN]
 generalize hwdx:x.w=wd at*
 have hEnd:x.End=wd.End:=by rw[←hwdx];rfl
 rw[hEnd,hxl.symm] at h6
 have hi6:∀{A B C D:HP},(A::B::C::D::blk b 27 x.cs::L)[i+5]?=some S:=by simpa using hi
 have h7:Sat e w6 (Yh (nkH wd 0 λ_=>(0,0))::blk p 67 [.int .i64 wd.End,.slice none 0 0,bv,pt g,.pointer none]::Zz 90 1 one (.slice none 0 0) (nkV wd 0 λ_=>(0,0))::Zz 92 1 one bv (List.replicate wd.Feds.length (.slice none 0 0))::Yx g wd.Feds.length room (λ_ _=>[])::blk b 27 x.cs::L):=by
  have h8:=h6.own_nil 90 1 one
  exact Sat.join (l':=[]) (h8.selR [_,_,_,_,_] [_,_,_,_,_] [1,0,2,3,4] (by decide) rfl)
 refine Za (Zb h7 5 rfl (v:=x.fv) rfl (Zt h7 (i+6) (by simpa using hi) (λg hg=>(hr g hg).feds) ?_))
 refine ZjF (λz t11 t51 w=>∃(j:Nat) (nv:Value) (ms:Nat→Nat × Nat),j≤x.Feds.length∧t51=.int .i64 j∧t11=.int .i64 (Zcz wd j:Nat)∧z=x.Feds.length - j∧
   Sat e w (Yh (nkH wd j ms)::blk p 67 [.int .i64 wd.End,nv,bv,pt g,.pointer none]::Zz 90 1 one nv (nkV wd j ms)::Zz 92 1 one bv (List.replicate wd.Feds.length (.slice none 0 0))::Yx g wd.Feds.length room (λ_ _=>[])::blk b 27 x.cs::L)) x.Feds.length
  ⟨0,.slice none 0 0,λ_=>(0,0),Nat.zero_le _,rfl,rfl,rfl,h7⟩ ?_
 rintro z _ _ w8 g1 ⟨j,nv,ms,hj,rfl,rfl,rfl,h8⟩ hg1
 refine Za7 (λc0=>Zi ?_) (λc0=>Zf ?_)
 ·have hjl:j<x.Feds.length:=by omega
  have hjw:j<wd.Feds.length:=by omega
  obtain ⟨fx,hfx⟩:=Zk (l:=x.Feds) (j:=j) hjl
  have hfm:=List.mem_of_getElem? hfx
  have hfa:Zs wd j=fx.f:=by
   have h9:=ZaN hjw
   rw[←hwdx] at h9 ⊢
   have h10:x.w.Feds[j]?=some fx.f:=by simp only[WdX.w];rw[List.getElem?_map,hfx];rfl
   rw[h10] at h9
   exact (Option.some.inj h9).symm
  have hfk:(Zs wd j).Kind=fx.Kind:=by rw[hfa];rfl
  have hi8:∀{A B C D E F:HP},(A::B::C::D::E::F::L)[i+6]?=some S:=by simpa using hi
  refine J1.cut (λt11 w=>∃nv ms,t11=.int .i64 (Zcz wd (j+1):Nat)∧Sat e w (Yh (nkH wd (j+1) ms)::blk p 67 [.int .i64 wd.End,nv,bv,pt g,.pointer none]::Zz 90 1 one nv (nkV wd (j+1) ms)::Zz 92 1 one bv (List.replicate wd.Feds.length (.slice none 0 0))::Yx g wd.Feds.length room (λ_ _=>[])::blk b 27 x.cs::L)) (λk2 hcut=>?_) ?_
  ·refine Zw h8 (i+6) hi8 (λg hg=>(hr g hg).feds) (λ_=>rfl) hfx λa ha=>Ym h8 (i+6) hi8 ha rfl ?_
   refine Yp (cs:=(⟨0,0,0,.slice none 0 0,[],.slice none 0 0,[],.slice none 0 0,[],.slice none 0 0,[]⟩:Zao).cs) h8 rfl λt13 w9 h9=>?_
   refine Zq h9 0 rfl (vs:=fx.cs) rfl rfl (Nat.le_of_ble_eq_true rfl) (Zc1 (i+7) (by simpa using hi) h9 λg hg=>(hr g hg).fed fx hfm) (cs':=fx.cs) (by rfl) λw10 h10=>?_
   refine Za (Zb h10 0 rfl (v:=.int .i64 fx.Kind) rfl ?_)
   have h11:Sat e w10 (Yh (nkH wd j ms)::blk p 67 [.int .i64 wd.End,nv,bv,pt g,.pointer none]::Zz 90 1 one nv (nkV wd j ms)::Zz 92 1 one bv (List.replicate wd.Feds.length (.slice none 0 0))::Yx g wd.Feds.length room (λ_ _=>[])::blk b 27 x.cs::L):=h10.drop
   have hfw:wd.Feds[j]?=some (Zs wd j):=ZaN hjw
   refine ZoR (λck=>Zi ?_) (λck=>Zf ?_)
   ·refine Zo h11 5 (vs:=x.cs) rfl (by rfl) rfl ?_
    have hmay:Zh3 wd j=some (Zs wd j):=by
     unfold Zh3
     rw[if_pos (by omega),Int.toNat_natCast,hfw]
     show (if (Zs wd j).Kind=0 then some (Zs wd j) else none)=_
     rw[if_pos (by rw[hfk];exact ck)]
    refine ZsZ (x:=x) (f:=(j:Int)) (i+6) hi8 h11 hr hwf hs (λh=>absurd c1 (by rw[hwdx] at h;exact h)) (λ_ h=>by rw[hwdx,hmay] at h;cases h) λ_ m fd hm hfd' _ r w12 h12=>?_
    have hmj:m=j:=by omega
    subst hmj
    rw[hwdx] at hfd' h12
    rw[hfw] at hfd'
    obtain rfl:=Option.some.inj hfd'
    refine Zam (Zal (Zh (Za (Zb h12 2 rfl (v:=nv) rfl ?_))))
    refine Zaf [pt r] (by kernel_rfl) ?_
    have hndk:ndK wd m=.slow (ZoV wd.Feds.length m (Zs wd m)):=Zgj (by rw[hfk];exact ck)
    refine ZtP (j:=m) (m:=(r,0)) (by omega) (by rw[hndk];rfl) (Q:=Zz 92 1 one bv (List.replicate wd.Feds.length (.slice none 0 0))::Yx g wd.Feds.length room (λ_ _=>[])::blk b 27 x.cs::L) (ms:=ms) (by rw[hndk];exact h12) λnv' w13 h13=>?_
    refine hcut _ _ ⟨nv',_,?_,h13⟩
    rw[ZhV hjw,if_pos (by rw[hfk];exact ck)]
    rfl
   ·refine Zo h11 5 (vs:=x.cs) rfl (by rfl) rfl ?_
    have hk1:(Zs wd j).Kind=1:=by
     rcases hkd _ (List.mem_of_getElem? hfw) with h | h
     ·rw[hfk] at h;exact absurd h ck
     ·exact h
    have hmay:Zhq wd j=some (Zs wd j):=by
     unfold Zhq
     rw[if_pos (by omega),Int.toNat_natCast,hfw]
     show (if (Zs wd j).Kind=1 then some (Zs wd j) else none)=_
     rw[if_pos hk1]
    refine Ztr (x:=x) (f:=(j:Int)) (i+6) hi8 h11 hr hwf hs (λh=>absurd c1 (by rw[hwdx] at h;exact h)) (λ_ h=>by rw[hwdx,hmay] at h;cases h) λ_ m fd hm hfd' _ r w12 h12=>?_
    have hmj:m=j:=by omega
    subst hmj
    rw[hwdx] at hfd' h12
    rw[hfw] at hfd'
    obtain rfl:=Option.some.inj hfd'
    refine Zam (Zal (Zh (Za (Zb h12 2 rfl (v:=nv) rfl ?_))))
    refine Zaf [pt r,.int .i64 (Zcz wd m:Nat),.int .i64 0] (by kernel_rfl) ?_
    refine Yp (cs:=[pt r,.int .i64 (Zcz wd m:Nat),.int .i64 0]) h12 rfl λbb w13 h13=>?_
    have hndk:ndK wd m=.bold (ZiQ wd) (Zcz wd m) 0:=Zgb (by rw[hfk];exact ck)
    refine ZtP (j:=m) (m:=(r,bb)) (by omega) (by rw[hndk];rfl) (Q:=Zz 92 1 one bv (List.replicate wd.Feds.length (.slice none 0 0))::Yx g wd.Feds.length room (λ_ _=>[])::blk b 27 x.cs::L) (ms:=ms) (by rw[hndk];exact Sat.join (l':=[_,_]) h13) λnv' w14 h14=>?_
    refine Yr (by have:=ZhV hjw;have:Zcz wd m≤wd.Feds.length:=Nat.le_trans (List.length_filter_le _ _) (by rw[List.length_take];omega);omega) ?_
    refine hcut _ _ ⟨nv',_,?_,h14⟩
    rw[ZhV hjw,if_neg (by rw[hfk];exact ck)]
  ·rintro _ w9 ⟨nv',ms',rfl,h9⟩
   refine Yr (by omega) ?_
   exact hg1 _ _ _ _ (by omega) ⟨j+1,nv',ms',by omega,rfl,rfl,rfl,h9⟩
 ·have ej:j=wd.Feds.length:=by omega
  subst ej
  rw[Zs7]
  have hb8:=Zk9 hwd
  generalize hk0:KS.init0 wd rm=k0
  have hki:=Zqp c1 rm
  rw[hk0] at hki
  have hnd:∀f,f<wd.Feds.length→k0.node f=ndK wd f:=λf hf=>by rw[←hk0,Zgi hf];rfl
  have hbx:∀f,k0.box f=[]:=λf=>by rw[←hk0];exact ZmC rm f
  have hcut0:k0.cut=if Zai wd=0 then none else some (CL.zero (Zai wd)):=by rw[←hk0];rfl
  have parts:∀{w:World} (c:Nat) {Q:List HP},Sat e w (Yh (nkH wd wd.Feds.length ms)::blk p 67 [.int .i64 wd.End,nv,bv,pt g,ZG0 k0.cut c]::Zz 90 1 one nv (nkV wd wd.Feds.length ms)::Zz 92 1 one bv (List.replicate wd.Feds.length (.slice none 0 0))::Yx g wd.Feds.length room (λ_ _=>[])::ZBC (Zai wd) k0.cut c::Q)→
    Sat e w (KP p wd 0 k0 ⟨nv,bv,g,c,ms,λ_=>.slice none 0 0⟩++Q):=by
   intro w c Q h
   have h9:=ZuX (List.range wd.Feds.length) h
   have e2:Zat wd 0 k0 ⟨nv,bv,g,c,ms,λ_=>.slice none 0 0⟩=nkH wd wd.Feds.length ms:=List.map_congr_left λf hf=>by rw[hnd f (List.mem_range.1 hf)]
   have e3:Zar wd k0 ⟨nv,bv,g,c,ms,λ_=>.slice none 0 0⟩=(List.range wd.Feds.length).map λ_=>DI (.slice none 0 0) []:=List.map_congr_left λf _=>by rw[hbx]
   have e4:Zju wd k0 ⟨nv,bv,g,c,ms,λ_=>.slice none 0 0⟩=nkV wd wd.Feds.length ms:=List.map_congr_left λf hf=>by rw[hnd f (List.mem_range.1 hf)]
   have e5:Zg7 wd ⟨nv,bv,g,c,ms,λ_=>.slice none 0 0⟩=List.replicate wd.Feds.length (.slice none 0 0):=by
    show ((List.range wd.Feds.length).map λ_=>Value.slice none 0 0)=_
    rw[List.map_const',List.length_range]
   have e6:(λa b=>k0.q a b)=λ_ _=>[]:=by
    funext a b
    rw[←hk0]
    exact ZqT rm a b
   have e7:(k0.room:Int)=room:=by rw[←hk0,hrm'];rfl
   show Sat e w ([Yh (Zat wd 0 k0 _),Yh (Zar wd k0 _),blk p _ _,Zz _ 1 one _ (Zju wd k0 _),Zz _ 1 one _ (Zg7 wd _),Yx _ _ _ (λa b=>k0.q a b),ZBC (Zai wd) k0.cut _]++Q)
   rw[e2,e3,e4,e5,e6,e7]
   exact h9.selR [_,_,_,_,_,_,_] [_,_,_,_,_,_,_] [1,0,2,3,4,5,6] (by decide) rfl
  refine ZFJ ?_
  refine J0.cut (λw=>∃M',Sat e w (KP p wd 0 k0 M'++blk b 27 x.cs::L)) (λk3 hcut=>?_) ?_
  ·by_cases hb:Zai wd=0
   ·have e2:k0.cut=none:=by rw[hcut0,if_pos hb]
    rw[decide_eq_false (by omega)]
    refine Zf (hcut _ ⟨_,parts 0 ?_⟩)
    rw[e2]
    have h9:=h8.mk_pure (p:=True) trivial
    exact h9.selR [_,_,_,_,_,_,_] [_,_,_,_,_,_,_] [1,2,3,4,5,0,6] (by decide) rfl
   ·have e2:k0.cut=some (CL.zero (Zai wd)):=by rw[hcut0,if_neg hb]
    rw[decide_eq_true (by omega)]
    refine Zi ?_
    refine ZuG (by omega) (by omega) h8 λc w9 h9=>?_
    refine Zam (Zal (Zh (Za (Zq h9 2 rfl (vs:=[pt c]) rfl rfl (Nat.le_of_ble_eq_true rfl) (by simp[flat]) (cs':=[.int .i64 wd.End,nv,bv,pt g,pt c]) (by rfl) λw10 h10=>?_))))
    refine hcut _ ⟨_,parts c ?_⟩
    rw[e2]
    rw[ZuA] at h10
    exact h10.selR [_,_,_,_,_,_,_] [_,_,_,_,_,_,_] [1,2,3,4,5,0,6] (by decide) rfl
  ·rintro w9 ⟨M',h9⟩
   refine Zo h9 7 (vs:=x.cs) rfl (by rfl) rfl ?_
   refine ZwB (x:=x) (i+8) (by simpa using hi) h9 hr hs (by have:=hwd.tree;rw[←hwdx] at this;exact this) (by omega) (λf hf=>?_) λv w10 h10 hsl=>?_
   ·have hfm:f.f∈wd.Feds:=by rw[←hwdx];exact List.mem_map_of_mem hf
    have h:=hwd.init f.f hfm
    have hp:wd.Parents=x.Parents:=by rw[←hwdx];rfl
    rw[hp] at h
    exact ⟨h.1,λo ho=>(h.2 o ho).1⟩
   ·rw[hwdx] at h10 hsl
    have hmem:=λm (h:m∈Zaz wd.Parents wd.Feds wd.Feds)=>Znu h
    have hmok:=λm (h:m∈Zaz wd.Parents wd.Feds wd.Feds)=>Zql (wd:=wd) h
    have hfin:(Zaz wd.Parents wd.Feds wd.Feds).foldl ZxY k0=KS.init wd rm:=by rw[←hk0,←ZuV]
    generalize Zaz wd.Parents wd.Feds wd.Feds=l at h10 hsl hmem hmok hfin
    refine Zt h10 0 rfl (λ_=>Zp) ?_
    refine Zdk (λz t113 w=>∃j:Nat,j≤l.length∧t113=.int .i64 j∧z=l.length - j∧∃M',Sat e w (Zz 40 6 Msg.cs v l::(KP p wd 0 ((l.take j).foldl ZxY k0) M'++blk b 27 x.cs::L))) l.length ⟨0,Nat.zero_le _,rfl,rfl,M',h10⟩ ?_
    rintro z _ w11 g4 ⟨j,hj',rfl,rfl,M2,h11⟩ hg4
    refine Za7 (λc5=>Zi ?_) (λc5=>Zf ?_)
    ·obtain ⟨m,hm⟩:=Zk (l:=l) (j:=j) (by omega)
     have hml:=List.mem_of_getElem? hm
     obtain ⟨fi,fd,hfi,hsp⟩:=hmem m hml
     have hfrom:m.key.From=(fi:Int):=(Zpu hsp).from'
     have hfil:fi<wd.Feds.length:=(List.getElem?_eq_some_iff.1 hfi).1
     have hpre:=Zof (wd:=wd) (l.take j) k0 0 (λy hy=>hmok y (List.mem_of_mem_take hy)) hki
     rw[List.length_take] at hpre
     refine Zw h11 0 rfl (λ_=>Zp) (λ_=>rfl) hm λa ha=>Ym h11 0 rfl ha rfl ?_
     refine Yp (cs:=Msg.zero.cs) h11 rfl λt19 w12 h12=>?_
     refine Zq h12 0 rfl (vs:=m.cs) rfl rfl (by decide) (Zg _) (cs':=m.cs) (by rfl) λw13 h13=>?_
     refine Za (Za (Zb h13 0 rfl (v:=.int .i64 m.key.From) rfl ?_))
     refine Zo h13 0 (vs:=m.cs) rfl (by rfl) rfl ?_
     refine Zaf (Zae m).cs (by kernel_rfl) ?_
     refine ZwC (vs:=(Zae m).cs) rfl rfl h13 λbb w14 h14=>?_
     rw[hfrom]
     have h15:Sat e w14 (KP p wd 0 ((l.take j).foldl ZxY k0) M2++blk bb 85 (Zae m).cs::(Zz 40 6 Msg.cs v l::blk b 27 x.cs::L)):=h14.selR [_,_,_,_,_,_,_,_,_,_,_] [_,_,_,_,_,_,_,_,_,_] [3,4,5,6,7,8,9,0,2,10] (by decide) rfl
     refine ZdQ (l:=[Zae m]) (S:=blk bb 85 (Zae m).cs) hfil hpre.bl (Nat.le_trans (hpre.len fi) (by omega)) (Nat.le_of_ble_eq_true rfl) h15 (Zfu (f:=Zn.cs) (Nat.le_refl _)) λM3 w16 _ h16=>?_
     refine Yr (by omega) ?_
     refine hg4 _ _ _ (by omega) ⟨j+1,by omega,rfl,rfl,M3,?_⟩
     have e9:(l.take (j+1)).foldl ZxY k0=((l.take j).foldl ZxY k0).put fi [Zae m]:=by
      rw[Zx hm,List.foldl_append]
      show KS.put _ m.key.From.toNat [Zae m]=_
      rw[hfrom,Int.toNat_natCast]
     rw[e9]
     exact h16.selR [_,_,_,_,_,_,_,_,_,_] [_,_,_,_,_,_,_,_,_] [8,0,1,2,3,4,5,6,9] (by decide) rfl
    ·have ej:j=l.length:=by omega
     rw[ej,List.take_length,hfin] at h11
     have hki2:=Ze1.init c1 rm
     exact hok p _ (ZkQ hki2 (h11.selR [_,_,_,_,_,_,_,_,_] [_,_,_,_,_,_,_] [1,2,3,4,5,6,7] (by decide) rfl))
theorem Zgh {n' s':Nat} (hn:n≤n') (hs:s≤s') (hS:Sat e w (Zby p wd k n s::Q)):Sat e w (Zby p wd k n' s'::Q):=by
 obtain ⟨M,hI,h⟩:=ZpC hS
 exact ZkQ (hI.mono hs) (Zrf hn h)
theorem Zzh {kind a b:Nat} (h6:kind≤6) (ha:kind≠4→a<wd.Feds.length) (hb:kind=2→b<wd.Feds.length):doK wd k ⟨(kind:Int),(a:Int),(b:Int)⟩=k.do' wd kind a b:=by
 unfold doK
 rw[if_neg]
 ·show k.do' wd (kind:Int).toNat (a:Int).toNat (b:Int).toNat=_
  rw[Int.toNat_natCast,Int.toNat_natCast,Int.toNat_natCast]
 ·rintro (h | h | h | h)
  ·have h:(kind:Int)<0:=h
   omega
  ·have h:6<(kind:Int):=h
   omega
  ·obtain ⟨h1,h2⟩:=h
   have h1:(kind:Int)≠4:=h1
   have:=ha (by omega)
   exact h2 ⟨by show (0:Int)≤(a:Int);omega,by show (a:Int)<_;omega⟩
  ·obtain ⟨h1,h2⟩:=h
   have h1:(kind:Int)=2:=h1
   have:=hb (by omega)
   exact h2 ⟨by show (0:Int)≤(b:Int);omega,by show (b:Int)<_;omega⟩
theorem ZzD {kind a b:Nat} (h6:kind≤6) (ha:kind≠4→a<wd.Feds.length) (hb:kind=2→b<wd.Feds.length) (hs:s≤1000000) (hn:n≤1000) (hS:Sat e w (Zby p wd k n s::Q))
  (hk:∀w',Sat e w' (Zby p wd (k.do' wd kind a b).2 (if kind=0 then n+1 else n) (s+1)::Q)→K (.int .i64 (k.do' wd kind a b).1) w') :
  Cl prog 24 #[pt p,.agg (⟨(kind:Int),(a:Int),(b:Int)⟩:Zbs).cs.toArray] w K:=by
 refine ZrZ hs hn hS λw2 h2=>?_
 rw[Zzh h6 ha hb] at h2 ⊢
 refine hk _ ?_
 have e1:Zdq n ⟨(kind:Int),(a:Int),(b:Int)⟩=if kind=0 then n+1 else n:=by
  show (if (kind:Int)=0 then n+1 else n)=_
  by_cases h:kind=0
  ·rw[if_pos h,if_pos (by omega)]
  ·rw[if_neg h,if_neg (by omega)]
 rw[e1] at h2
 exact h2
theorem ZlE {α:Type} (f:α→α):∀(n:Nat) (x:α),rep f (n+1) x=f (rep f n x)
 | 0,_=>rfl
 | n+1,x=>ZlE f n (f x)
theorem ZdV {α:Type} (g:α→Nat→α) (x:α) (n:Nat):(List.range (n+1)).foldl g x=g ((List.range n).foldl g x) n:=by
 rw[List.range_succ,List.foldl_append]
 rfl
theorem Zud {u v:Value} {l:List Zak} (i j:Nat) (hi:L[i]?=some S) (hj:L[j]?=some S2) (hS:Sat e w L) (hr:∀g,S g→rdS 7 Zak.cs u l g) (hr2:∀g,S2 g→rdS 7 Zak.cs v l g) (hl:l.length≤1000000)
  (hk:∀w',Sat e w' L→K (.bool true) w'):Cl prog 11 #[u,v] w K:=by
 refine Zd2 ?_
 unfold Zdv
 refine Zt hS i hi hr (Zt hS j hj hr2 ?_)
 refine ZoP rfl (Zf ?_)
 refine Zdk (λq t w=>∃n:Nat,n≤l.length∧t=.int .i64 n∧q=l.length - n∧Sat e w L) l.length ⟨0,Nat.zero_le _,rfl,rfl,hS⟩ ?_
 rintro q _ w g ⟨n,hn,rfl,rfl,h1⟩ hg
 refine Zt h1 i hi hr (Za7 (λc=>Zi ?_) (λc=>Zf (hk _ h1)))
 obtain ⟨y,hy⟩:=Zk (l:=l) (j:=n) (by omega)
 refine ZaY h1 λw2 h2=>(Zw h2 i hi hr (λ_=>rfl) hy λp hp=>Ym h2 i hi hp rfl ?_)
 refine Zw h2 j hj hr2 (λ_=>rfl) hy λp hp=>Ym h2 j hj hp rfl (ZDr (ns:=y.ns) (ms:=y.ns) ZTh ZTg ZTk (by decide) rfl ?_)
 rw[beq_self_eq_true]
 refine Zf (Yr (by omega) ?_)
 exact hg _ _ _ (by omega) ⟨n+1,by omega,rfl,rfl,h2⟩
variable {G:Rg}
theorem ZQQ {a:Nat} (ha:a<wd.Feds.length) (hs:s+16≤900000) (hn:n≤1000) (hS:Sat e w (Zby p wd k n s::Q)) {Kn:World→Prop} (hk:∀w',Sat e w' (Zby p wd (rep (flA a) 16 k) n (s+16)::Q)→Kn w') :
  lp [(Value.int IntKind.i64 0)] w (b1 λt7 w g2=>bi .lss .i64 t7 (Value.int IntKind.i64 16) w λt21 w=>Zr t21
   (bld (Zl prog 88) #[(0,1),(1,1),(2,1)] [(0,(Value.int IntKind.i64 1)),(1,.int .i64 (a:Int))] w λt26 w=>Cl prog 24 #[pt p,t26] w λ_ w=>bi .add .i64 t7 (Value.int IntKind.i64 1) w λt23 w=>g2 [t23] w) (Kn w)):=by
 refine Zdk (λz t w=>∃j:Nat,j≤16∧t=.int .i64 j∧z=16 - j∧Sat e w (Zby p wd (rep (flA a) j k) n (s+j)::Q)) 16 ⟨0,Nat.zero_le _,rfl,rfl,hS⟩ ?_
 rintro z _ w g2 ⟨j,hj,rfl,rfl,h1⟩ hg
 refine Za7 (λc=>Zi ?_) (λc=>Zf ?_)
 ·refine Zaf (⟨((1:Nat):Int),(a:Int),((0:Nat):Int)⟩:Zbs).cs (by kernel_rfl) ?_
  refine ZzD (by omega) (λ_=>ha) (λh=>by omega) (by omega) hn h1 λw2 h2=>?_
  refine Yr (by omega) ?_
  refine hg _ _ _ (by omega) ⟨j+1,by omega,rfl,rfl,?_⟩
  rw[ZlE]
  exact h2
 ·have ej:j=16:=by omega
  rw[ej] at h1
  exact hk _ h1
theorem ZQs {a b:Nat} (ha:a<G.W.Feds.length) (hb:b<G.W.Feds.length) (hs:s+8≤900000) (hn:n≤1000) (hS:Sat e w (Zby p G.W k n s::Q)) {Kn:World→Prop} (hk:∀w',Sat e w' (Zby p G.W (rep (dv G a b) 8 k) n (s+8)::Q)→Kn w') :
  lp [(Value.int IntKind.i64 0)] w (b1 λt10 w g5=>bi .lss .i64 t10 (Value.int IntKind.i64 8) w λt43 w=>Zr t43
   (bld (Zl prog 88) #[(0,1),(1,1),(2,1)] [(0,(Value.int IntKind.i64 2)),(1,.int .i64 (a:Int)),(2,.int .i64 (b:Int))] w λt49 w=>Cl prog 24 #[pt p,t49] w λ_ w=>bi .add .i64 t10 (Value.int IntKind.i64 1) w λt45 w=>g5 [t45] w) (Kn w)):=by
 refine Zdk (λz t w=>∃j:Nat,j≤8∧t=.int .i64 j∧z=8 - j∧Sat e w (Zby p G.W (rep (dv G a b) j k) n (s+j)::Q)) 8 ⟨0,Nat.zero_le _,rfl,rfl,hS⟩ ?_
 rintro z _ w g2 ⟨j,hj,rfl,rfl,h1⟩ hg
 refine Za7 (λc=>Zi ?_) (λc=>Zf ?_)
 ·refine Zaf (⟨((2:Nat):Int),(a:Int),(b:Int)⟩:Zbs).cs (by kernel_rfl) ?_
  refine ZzD (by omega) (λ_=>ha) (λ_=>hb) (by omega) hn h1 λw2 h2=>?_
  refine Yr (by omega) ?_
  refine hg _ _ _ (by omega) ⟨j+1,by omega,rfl,rfl,?_⟩
  rw[ZlE]
  exact h2
 ·have ej:j=8:=by omega
  rw[ej] at h1
  exact hk _ h1
theorem ZPk {r:Nat} (ok:G.Ok) (hr:2≤r) (hS:Sat e w (Zby p G.W (KS.init G.W r) 0 0::Q))
  (hk:∀k' s' n' m' w',RSt G r s' k'→RgI G s'→G.still s'→n'≤600→m'≤40000→Sat e w' (Zby p G.W k' n' m'::Q)→K (.tuple #[]) w') :
  Cl prog 8 #[pt p,.int .i64 (G.n:Int),.int .i64 300] w K:=by
 refine ZN0 ?_
 unfold ZNY
 have hn4:=ok.n
 have hl:G.W.Feds.length=G.n:=ZOi
 obtain ⟨hI0,hL0⟩:=ZPe ok
 refine Zdk (λz t w=>∃(j:Nat) (s:RgS) (y g:Int) (k:KS),t=.int .i64 j∧z=300 - j∧RSt G r s k∧RgI G s∧Lo G s y g∧(j:Int)≤G.phi s y g∧Sat e w (Zby p G.W k (4*j) (300*j)::Q)) 300
  ⟨0,Rg.s0,0,0,_,rfl,rfl,ZRo ok,hI0,hL0,?_,hS⟩ ?_
 ·have h1:(0:Int)≤G.tq Rg.s0.J:=by have:=ZRJ ok hI0;omega
  unfold Rg.phi
  have h2:Rg.stage Rg.s0=1:=rfl
  rw[h2]
  omega
 rintro z _ w1 g1 ⟨j,s,y,g,k,rfl,rfl,hst,hI,hL,hphi,h1⟩ hg1
 have hj:j≤128:=by have:=ZRk ok hI (y:=y) (g:=g);omega
 refine Ztt (show (j:Int)<300 by omega) (Ze (Ze (Zc0 (by omega) h1 λw2 h2=>Ze (Zk5 (Yv ?_)))))
 have hq:=ZOD ok hst hI
 cases hqk:k.quiet G.W with
 | true=>exact Zf (hk k s _ _ _ hst hI (hq.1 hqk) (by omega) (by omega) h2)
 | false=>
  have hns:¬G.still s:=λh=>by rw[hq.2 h] at hqk;cases hqk
  obtain ⟨x,hst2,hx⟩:=ZPP ok hr hst hI
  have hI2:=ZQi ok hI hx
  obtain ⟨y',g',hL2,hphi2⟩:=ZQ9 ok hI hx hL hns
  refine Zi ?_
  refine Zdk (λz t w=>∃a:Nat,a≤G.n∧t=.int .i64 a∧z=G.n - a∧Sat e w (Zby p G.W ((List.range a).foldl (λk a=>ZOM G.n (λk b=>rep (dv G a b) 8 k) (rep (flA a) 16 k)) k) (4*j) (300*j+48*a)::Q)) G.n ⟨0,Nat.zero_le _,rfl,rfl,h2⟩ ?_
  rintro z _ w3 g3 ⟨a,ha,rfl,rfl,h3⟩ hg3
  refine Za7 (λc=>Zi ?_) (λc=>Zf ?_)
  ·have hal:a<G.W.Feds.length:=by omega
   have e1:=ZdV (λk a=>ZOM G.n (λk b=>rep (dv G a b) 8 k) (rep (flA a) 16 k)) k a
   generalize (List.range a).foldl (λk a=>ZOM G.n (λk b=>rep (dv G a b) 8 k) (rep (flA a) 16 k)) k=ka at*
   refine ZQQ hal (by omega) (by omega) h3 λw4 h4=>?_
   refine Zdk (λz t w=>∃b:Nat,b≤G.n∧t=.int .i64 b∧z=G.n - b∧Sat e w (Zby p G.W ((List.range b).foldl (λk b=>rep (dv G a b) 8 k) (rep (flA a) 16 ka)) (4*j) (300*j+48*a+16+8*b)::Q)) G.n ⟨0,Nat.zero_le _,rfl,rfl,h4⟩ ?_
   rintro z _ w5 g5 ⟨b,hb,rfl,rfl,h5⟩ hg5
   refine Za7 (λc2=>Zi ?_) (λc2=>Zf ?_)
   ·refine ZQs hal (by omega) (by omega) (by omega) h5 λw6 h6=>?_
    refine Yr (by omega) (hg5 _ _ _ (by omega) ⟨b+1,by omega,rfl,rfl,?_⟩)
    rw[ZdV]
    exact h6
   ·have eb:b=G.n:=by omega
    rw[eb] at h5
    refine Yr (by omega) (hg3 _ _ _ (by omega) ⟨a+1,by omega,rfl,rfl,?_⟩)
    rw[e1]
    exact Zgh (Nat.le_refl _) (by omega) h5
  ·have ea:a=G.n:=by omega
   rw[ea] at h3
   have e1:(List.range G.n).foldl (λk a=>ZOM G.n (λk b=>rep (dv G a b) 8 k) (rep (flA a) 16 k)) k=ph1 G k:=rfl
   rw[e1] at h3
   have e9:rnd G k=ph3 G (ph2 G (ph1 G k)):=rfl
   rw[e9] at hst2
   generalize ph1 G k=k1 at*
   refine Zdk (λz t w=>∃a:Nat,a≤G.n∧t=.int .i64 a∧z=G.n - a∧Sat e w (Zby p G.W ((List.range a).foldl (λk a=>((k.step G.W a).2.tell G.W a).2) k1) (4*j+a) (300*j+48*G.n+2*a)::Q)) G.n ⟨0,Nat.zero_le _,rfl,rfl,h3⟩ ?_
   rintro z _ w4 g4 ⟨a,ha,rfl,rfl,h4⟩ hg4
   refine Za7 (λc=>Zi ?_) (λc=>Zf ?_)
   ·refine Zaf (⟨((0:Nat):Int),(a:Int),((0:Nat):Int)⟩:Zbs).cs (by kernel_rfl) ?_
    refine ZzD (by omega) (λ_=>by omega) (λh=>by omega) (by omega) (by omega) h4 λw5 h5=>?_
    refine Zaf (⟨((3:Nat):Int),(a:Int),((0:Nat):Int)⟩:Zbs).cs (by kernel_rfl) ?_
    have h5:Sat e w5 (Zby p G.W (((List.range a).foldl (λk a=>((k.step G.W a).2.tell G.W a).2) k1).step G.W a).2 (4*j+a+1) (300*j+48*G.n+2*a+1)::Q):=h5
    refine ZzD (by omega) (λ_=>by omega) (λh=>by omega) (by omega) (by omega) h5 λw6 h6=>?_
    refine Yr (by omega) (hg4 _ _ _ (by omega) ⟨a+1,by omega,rfl,rfl,?_⟩)
    rw[ZdV]
    exact h6
   ·have ea:a=G.n:=by omega
    rw[ea] at h4
    have e2:(List.range G.n).foldl (λk a=>((k.step G.W a).2.tell G.W a).2) k1=ph2 G k1:=rfl
    rw[e2] at h4
    generalize ph2 G k1=k2 at*
    refine Zaf (⟨((4:Nat):Int),((0:Nat):Int),((0:Nat):Int)⟩:Zbs).cs (by kernel_rfl) ?_
    refine ZzD (by omega) (λh=>absurd rfl h) (λh=>by omega) (by omega) (by omega) h4 λw5 h5=>?_
    have h5:Sat e w5 (Zby p G.W k2.begin'.2 (4*j+G.n) (300*j+48*G.n+2*G.n+1)::Q):=h5
    refine Zdk (λz t w=>∃a:Nat,a≤G.n∧t=.int .i64 a∧z=G.n - a∧Sat e w (Zby p G.W ((List.range a).foldl (λk a=>(k.turn a).2) k2.begin'.2) (4*j+G.n) (300*j+48*G.n+2*G.n+1+a)::Q)) G.n ⟨0,Nat.zero_le _,rfl,rfl,h5⟩ ?_
    rintro z _ w6 g6 ⟨a,ha,rfl,rfl,h6⟩ hg6
    refine Za7 (λc=>Zi ?_) (λc=>Zf ?_)
    ·refine Zaf (⟨((5:Nat):Int),(a:Int),((0:Nat):Int)⟩:Zbs).cs (by kernel_rfl) ?_
     refine ZzD (by omega) (λ_=>by omega) (λh=>by omega) (by omega) (by omega) h6 λw7 h7=>?_
     refine Yr (by omega) (hg6 _ _ _ (by omega) ⟨a+1,by omega,rfl,rfl,?_⟩)
     rw[ZdV]
     exact h7
    ·have ea:a=G.n:=by omega
     rw[ea] at h6
     have e3:ph3 G k2=ZOM G.n (λk a=>(k.report G.W a).2) ((List.range G.n).foldl (λk a=>(k.turn a).2) k2.begin'.2):=rfl
     rw[e3] at hst2
     generalize (List.range G.n).foldl (λk a=>(k.turn a).2) k2.begin'.2=k3 at*
     refine Zdk (λz t w=>∃a:Nat,a≤G.n∧t=.int .i64 a∧z=G.n - a∧Sat e w (Zby p G.W ((List.range a).foldl (λk a=>(k.report G.W a).2) k3) (4*j+G.n) (300*j+48*G.n+3*G.n+1+a)::Q)) G.n ⟨0,Nat.zero_le _,rfl,rfl,Zgh (Nat.le_refl _) (by omega) h6⟩ ?_
     rintro z _ w7 g7 ⟨a,ha,rfl,rfl,h7⟩ hg7
     refine Za7 (λc=>Zi ?_) (λc=>Zf ?_)
     ·refine Zaf (⟨((6:Nat):Int),(a:Int),((0:Nat):Int)⟩:Zbs).cs (by kernel_rfl) ?_
      refine ZzD (by omega) (λ_=>by omega) (λh=>by omega) (by omega) (by omega) h7 λw8 h8=>?_
      refine Yr (by omega) (hg7 _ _ _ (by omega) ⟨a+1,by omega,rfl,rfl,?_⟩)
      rw[ZdV]
      exact h8
     ·have ea:a=G.n:=by omega
      rw[ea] at h7
      refine Yr (by omega) (hg1 _ _ _ (by omega) ⟨j+1,G.nxt s x,y',g',_,rfl,rfl,hst2,hI2,hL2,by omega,?_⟩)
      exact Zgh (by omega) (by omega) h7
theorem ZQn {H:Type} {enc:TypeId × Value→H} {base:Nat} {spare:Nat→Bool} {held:Bool} {fuel:Nat} {cs:List Value} {x:DataW H × List MemPlace} (h:DataW.trod enc prog w base spare held fuel 4 cs=some x):∃b,cs=[.bool b]:=by
 obtain ⟨b,h1,_⟩:=DataW.trod_bool (by kernel_rfl) h
 exact ⟨b,h1⟩
abbrev ZPh (b:Bool):List Value:=[.bool b]
theorem ZPi {H:Type} {enc:TypeId × Value→H} {base:Nat} {held:Bool} {v:Value} {d:DataW H} {p:List MemPlace} {a:Option Addr} {len cap:Nat} (hv:v=.slice a len cap) (h:DataW.Trod enc prog w base (λ_=>true) held 22 v d p) :
  ∃l:List Bool,∀g,Old w g→rdS 1 ZPh v l g:=by
 subst hv
 obtain ⟨fuel,hf⟩:=h
 obtain ⟨v',l,h1,_,h3⟩:=ZKi (f:=ZPh) (s:=1) (λ_:Bool=>True) ZxC (by kernel_rfl) (by decide) (λ_=>rfl) (λ_ cs _ h=>by obtain ⟨n,h1⟩:=ZQn h;exact ⟨n,h1.symm,trivial⟩) hf
 have hc:(Value.slice a len cap).cells.toList=[Value.slice a len cap]:=rfl
 rw[hc] at h1
 injection h1 with h1
 exact ⟨l,by rw[h1];exact h3⟩
theorem ZOn {α:Type} {t:TypeId} {size b:Nat} {cs:List Value} {f:α→List Value} {l:List α} (hf:∀x,(f x).length=size) (he:cs=l.flatMap f):∀g,blk b t cs g→Zz t size f (.slice (some ⟨b,0,none⟩) l.length l.length) l g:=λg hg=>by
 subst he
 have hlen:(l.flatMap f).length=l.length*size:=Zy hf _
 exact .inr ⟨b,l.length,_,rfl,hg,hlen,Nat.le_refl _,List.take_of_length_le (Nat.le_of_eq hlen)⟩
theorem ZOk {n:Int} (h:-1000000≤n∧n≤1000000):i64 n:=by
 unfold i64
 simp only[Lit.wf,IntKind.min,IntKind.max,IntKind.signed,IntKind.bits]
 simp
 omega
theorem ZJm {n:Int} (h:(Lit.int .u8 n).wf=true):0≤n∧n≤255:=by
 simp only[Lit.wf,IntKind.min,IntKind.max,IntKind.signed,IntKind.bits] at h
 simp at h
 omega
theorem ZOG:∀x:Int,∀v∈Ye .i64 x,flat v=true:=λ_ v h=>by simp[Ye] at h;subst h;rfl
def dlA (ds:List Int) (i:Nat):Int:=match ds[i]? with
 | some d=>1+d % 5
 | none=>1
def ZOI (n:Nat) (ks:List Bool) (ds:List Int) (E:Int):Rg:=⟨n,λi=>ks.getD i false,dlA ds,E⟩
theorem ZPo (ds:List Int) (i:Nat):1≤dlA ds i∧dlA ds i≤5:=by
 unfold dlA
 split <;> omega
theorem ZQh {n:Nat} {ks:List Bool} {ds:List Int} {E:Int} (hn:2≤n∧n≤4) (hE:2≤E∧E≤24):(ZOI n ks ds E).Ok:=⟨hn,λi=>ZPo ds i,hE⟩
theorem ZPu {v:Value} {ds:List Int} {j:Nat} {rest:Value→World→Prop} (i:Nat) (hi:L[i]?=some S) (hS:Sat e w L) (hr:∀g,S g→rdS 1 (Ye .u8) v ds g) (hw:∀m∈ds,(Lit.int .u8 m).wf=true) (hk:rest (.int .i64 (dlA ds j)) w) :
  lnS v w λt33 w=>bi .lss .i64 (.int .i64 (j:Int)) t33 w λt34 w=>J1 rest λk3=>Zr t34
   (ixS 1 v (.int .i64 (j:Int)) w λt37 w=>ld1 t37 w λt38 w=>cvI .i64 t38 w λt39 w=>bi .rem .i64 t39 (Value.int IntKind.i64 5) w λt40 w=>bi .add .i64 (Value.int IntKind.i64 1) t40 w λt41 w=>k3 t41 w) (k3 (Value.int IntKind.i64 1) w):=by
 refine Zt hS i hi hr (Za7 (λc=>?_) (λc=>?_))
 ·obtain ⟨d,hd⟩:=Zk (l:=ds) (j:=j) (by omega)
  have hb:=ZJm (hw d (List.mem_of_getElem? hd))
  refine Zi (Zw hS i hi hr (λ_=>rfl) hd λq hq=>Yt hS i hi hq rfl (ZDy ?_))
  rw[Zdl (by omega) (by omega)]
  refine Zwn (by decide) ?_
  have h1:d.tmod 5=d % 5:=Int.tmod_eq_emod_of_nonneg hb.1
  rw[h1]
  refine ZcD (by omega) (by omega) ?_
  have h2:dlA ds j=1+d % 5:=by unfold dlA;rw[hd]
  rw[←h2]
  exact hk
 ·refine Zf ?_
  have h2:dlA ds j=1:=by unfold dlA;rw[List.getElem?_eq_none (by omega)]
  rw[h2] at hk
  exact hk
theorem ZQw {v:Value} {ks:List Bool} {j:Nat} (i:Nat) (hi:L[i]?=some S) (hS:Sat e w L) (hr:∀g,S g→rdS 1 ZPh v ks g) (hk:K (.bool (ks.getD j false)) w) :
  lnS v w λt55 w=>bi .lss .i64 (.int .i64 (j:Int)) t55 w λt56 w=>gd t56 true (λk=>k v w) w λt58 w=>gd t56 true (λk=>k (.int .i64 (j:Int)) w) w λt59 w=>
   gd t56 true (λk=>ixS 1 t58 t59 w k) w λt60 w=>gd t56 true (λk=>ld1 t60 w k) w λt61 w=>pk t56 t61 (Value.bool false) w K:=by
 refine Zt hS i hi hr (Za7 (λc=>?_) (λc=>?_))
 ·obtain ⟨d,hd⟩:=Zk (l:=ks) (j:=j) (by omega)
  refine Ze (Ze (Ze (Zw hS i hi hr (λ_=>rfl) hd λq hq=>Ze (Yt hS i hi hq rfl (Yv ?_)))))
  rw[List.getD_eq_getElem?_getD,hd] at hk
  exact hk
 ·refine Zu (Zu (Zu (Zu (Yd ?_))))
  rw[List.getD_eq_getElem?_getD,List.getElem?_eq_none (by omega)] at hk
  exact hk
theorem ZQE {n j:Nat} (hn:2≤n∧n≤4) (hj:j<n) (hk:K (.int .i64 (((j+n - 1) % n:Nat):Int)) w) :
  bi .add .i64 (.int .i64 (j:Int)) (.int .i64 (n:Int)) w λt47 w=>bi .sub .i64 t47 (Value.int IntKind.i64 1) w λt48 w=>bi .rem .i64 t48 (.int .i64 (n:Int)) w K:=by
 refine ZcD (by omega) (by omega) (ZoJ (by omega) (by omega) (Zwn (by omega) ?_))
 rw[Int.tmod_eq_emod_of_nonneg (by omega),show ((j:Int)+(n:Int) - 1)=((j+n - 1:Nat):Int) by omega]
 exact hk
theorem ZQf {f:Zao} {bp bs br bo:Nat} {r:Yg} {o:Out} {p q:Int} (hp:f.pv=.slice (some ⟨bp,0,none⟩) 1 1) (hp2:f.Pubs=[p]) (hs:f.sv=.slice (some ⟨bs,0,none⟩) 1 1) (hs2:f.Subs=[q])
  (hr:f.rv=.slice (some ⟨br,0,none⟩) 1 1) (hr2:f.Rules=[r]) (ho:r.sv=.slice (some ⟨bo,0,none⟩) 1 1) (ho2:r.Sends=[o])
  (h:Sat e w (blk bp 3 (Yi [p])::blk bs 3 (Yi [q])::Zz 55 3 Out.cs f.iv f.Init::blk br 57 r.cs::blk bo 55 o.cs::R)):Sat e w (Zea f::R):=by
 have h1:=h.imp_at 0 rfl (ZOn (size:=1) (f:=Ye .i64) (l:=[p]) (λ_=>rfl) rfl)
 have h2:=h1.imp_at 1 rfl (ZOn (size:=1) (f:=Ye .i64) (l:=[q]) (λ_=>rfl) rfl)
 have h3:=h2.imp_at 3 rfl (ZOn (size:=4) (f:=Yg.cs) (l:=[r]) (λ_=>rfl) rfl)
 have h4:=h3.imp_at 4 rfl (ZOn (size:=3) (f:=Out.cs) (l:=[o]) (λ_=>rfl) rfl)
 have h5:=h4.selR [_,_,_,_,_] [_,_,_,_,_] [4,0,1,2,3] (by decide) rfl
 have h6:Sat e w (Yh [ZfY r]::_):=Sat.join (l':=[_]) (h5.imp λg hg=>by unfold ZfY;rw[ho,ho2];exact hg)
 have h7:=h6.selR [_,_,_,_,_] [_,_,_,_,_] [1,2,3,4,0] (by decide) rfl
 have h8:Sat e w (Yh _::R):=Sat.join (l':=[_,_,_,_,_]) h7
 refine h8.imp λg hg=>?_
 unfold Zea
 rw[hp,hp2,hs,hs2,hr,hr2]
 exact hg
theorem ZRe {kv dv:Value} {ks:List Bool} {ds:List Int} {n:Nat} {E:Int} (i:Nat) (hi:L[i]?=some S) (hS:Sat e w L) (hr1:∀g,S g→rdS 1 ZPh kv ks g) (hr2:∀g,S g→rdS 1 (Ye .u8) dv ds g) (hw2:∀m∈ds,(Lit.int .u8 m).wf=true)
  (hn:2≤n∧n≤4) (hE:2≤E∧E≤24) (hk:∀(x:WdX) w',x.w=(ZOI n ks ds E).W→x.wf→x.short→Sat e w' (Zag x::L)→K (.agg x.cs.toArray) w') :
  Cl prog 6 #[.int .i64 (n:Int),kv,dv,.int .i64 E] w K:=by
 refine ZN4 ?_
 unfold ZN3
 rw[ZOw,ZOh]
 refine Yp (cs:=[.slice none 0 0,.slice none 0 0,.int .i64 0]) hS rfl λb8 w1 h1=>(Zaf [.slice none 0 0,.slice none 0 0,.int .i64 E] (by kernel_rfl) ?_)
 refine Yp (cs:=[.slice none 0 0,.slice none 0 0,.int .i64 0]) h1 rfl λb9 w2 h2=>?_
 refine Zq h2 0 rfl (vs:=[.slice none 0 0,.slice none 0 0,.int .i64 E]) rfl rfl (Nat.le_of_ble_eq_true rfl) (by simp[flat]) (cs':=[.slice none 0 0,.slice none 0 0,.int .i64 E]) (by rfl) λw3 h3=>?_
 refine Zdk (λq t w=>∃(j:Nat) (v:Value),j≤n∧t=.int .i64 j∧q=n - j∧Sat e w (Zz 3 1 (Ye .i64) v (List.replicate j (-1))::blk b9 27 [v,.slice none 0 0,.int .i64 E]::blk b8 27 [.slice none 0 0,.slice none 0 0,.int .i64 0]::L)) n
  ⟨0,.slice none 0 0,Nat.zero_le _,rfl,rfl,h3.own_nil 3 1 (Ye .i64)⟩ ?_
 rintro q _ w g1 ⟨j,v,hj,rfl,rfl,h4⟩ hg1
 refine Za7 (λc=>Zi ?_) (λc=>Zf ?_)
 ·refine Za (Zb h4 1 rfl (v:=v) rfl ?_)
  refine Zj7 ZOX (f:=Ye .i64) (λ_=>rfl) ZOG h4 (x:=-1) rfl (by rw[List.length_replicate];omega) λv' w5 h5=>?_
  have f1:=h5.own_cells 0 rfl
  refine Za (Zq h5 1 rfl (vs:=[v']) f1.1 rfl (Nat.le_of_ble_eq_true rfl) (λc hc=>by rw[List.mem_singleton.1 hc];exact f1.2) (cs':=[v',.slice none 0 0,.int .i64 E]) (by rfl) λw6 h6=>?_)
  refine Yr (by omega) (hg1 _ _ _ (by omega) ⟨j+1,v',by omega,rfl,rfl,?_⟩)
  rw[List.replicate_succ']
  exact h6
 have ej:j=n:=by omega
 rw[ej] at h4
 have f1:=h4.own_cells 0 rfl
 have hG:∀j,(ZOI n ks ds E).d j=dlA ds j:=λ_=>rfl
 refine Zdk (λq t w=>∃(j:Nat) (v2:Value) (fs:List Zao),j≤n∧t=.int .i64 j∧q=n - j∧fs.length=j∧fs.map Zao.f=(List.range j).map (ZOI n ks ds E).fed∧(∀f∈fs,f.wf∧f.short)∧
   Sat e w (Zz 53 7 Zao.cs v2 fs::Yh (fs.map Zea)::Zz 3 1 (Ye .i64) v (List.replicate n (-1))::blk b9 27 [v,v2,.int .i64 E]::blk b8 27 [.slice none 0 0,.slice none 0 0,.int .i64 0]::L)) n
  ⟨0,.slice none 0 0,[],Nat.zero_le _,rfl,rfl,rfl,rfl,by simp,(Sat.join (l':=[]) h4).own_nil 53 7 Zao.cs⟩ ?_
 rintro q _ w g2 ⟨j,v2,fs,hj,rfl,rfl,hfl,hfm,hfw,h5⟩ hg2
 refine Za7 (λc=>Zi ?_) (λc=>Zf ?_)
 ·have hjn:j<n:=by omega
  have hd:=ZPo ds j
  refine ZPu (i+5) (by simpa using hi) h5 hr2 hw2 ?_
  generalize hdd:dlA ds j=d at*
  refine Zfk (Yi [(j:Int)]) h5 (by kernel_rfl) λbp w6 h6=>ZQE hn hjn ?_
  have hprn:(j+n - 1) % n<n:=Nat.mod_lt _ (by omega)
  generalize hpr:(j+n - 1) % n=pr at*
  refine Zfk (Yi [(pr:Int)]) h6 (by kernel_rfl) λbs w7 h7=>?_
  refine Zaf [.int .i64 0,.int .i64 d,.int .i64 0,.slice none 0 0,.slice (some ⟨bp,0,none⟩) 1 1,.slice (some ⟨bs,0,none⟩) 1 1,.slice none 0 0] (by kernel_rfl) ?_
  refine Yp (cs:=[.int .i64 0,.int .i64 0,.int .i64 0,.slice none 0 0,.slice none 0 0,.slice none 0 0,.slice none 0 0]) h7 rfl λb13 w8 h8=>?_
  refine Zq h8 0 rfl (vs:=[.int .i64 0,.int .i64 d,.int .i64 0,.slice none 0 0,.slice (some ⟨bp,0,none⟩) 1 1,.slice (some ⟨bs,0,none⟩) 1 1,.slice none 0 0]) rfl rfl (Nat.le_of_ble_eq_true rfl) (by simp[flat]) (cs':=[.int .i64 0,.int .i64 d,.int .i64 0,.slice none 0 0,.slice (some ⟨bp,0,none⟩) 1 1,.slice (some ⟨bs,0,none⟩) 1 1,.slice none 0 0]) (by rfl) λw9 h9=>?_
  refine ZQw (i+8) (by simpa using hi) h9 hr1 ?_
  generalize hkk:ks.getD j false=kk at*
  refine J0.cut (λw'=>Sat e w' (blk b13 53 [.int .i64 (if kk then 1 else 0),.int .i64 d,.int .i64 0,.slice none 0 0,.slice (some ⟨bp,0,none⟩) 1 1,.slice (some ⟨bs,0,none⟩) 1 1,.slice none 0 0]::blk bs 3 (Yi [(pr:Int)])::blk bp 3 (Yi [(j:Int)])::Zz 53 7 Zao.cs v2 fs::Yh (fs.map Zea)::Zz 3 1 (Ye .i64) v (List.replicate n (-1))::blk b9 27 [v,v2,.int .i64 E]::blk b8 27 [.slice none 0 0,.slice none 0 0,.int .i64 0]::L)) (λk4 hk4=>?_) λw h10=>?_
  ·cases kk with
   | true=>exact Zi (Za (Zq h9 0 rfl (vs:=[.int .i64 1]) rfl rfl (Nat.le_of_ble_eq_true rfl) (by simp[flat]) (cs':=[.int .i64 1,.int .i64 d,.int .i64 0,.slice none 0 0,.slice (some ⟨bp,0,none⟩) 1 1,.slice (some ⟨bs,0,none⟩) 1 1,.slice none 0 0]) (by rfl) λw10 h10=>hk4 _ h10))
   | false=>exact Zf (hk4 _ h9)
  obtain ⟨kd,hkd⟩:∃kd:Int,kd=if kk then 1 else 0:=⟨_,rfl⟩
  rw[←hkd] at h10
  refine ZQE hn hjn ?_
  rw[hpr]
  refine Zaf (⟨(j:Int),d,1⟩:Out).cs (by kernel_rfl) (Zfk (⟨(j:Int),d,1⟩:Out).cs h10 (by kernel_rfl) λbo w11 h11=>?_)
  obtain ⟨r0,hr0⟩:∃r0:Yg,r0=⟨0,(pr:Int),0,.slice (some ⟨bo,0,none⟩) 1 1,[⟨(j:Int),d,1⟩]⟩:=⟨_,rfl⟩
  have hrc:r0.cs=[.int .i64 0,.int .i64 (pr:Int),.int .i64 0,.slice (some ⟨bo,0,none⟩) 1 1]:=by rw[hr0];rfl
  refine Zaf [.int .i64 0,.int .i64 (pr:Int),.int .i64 0,.slice (some ⟨bo,0,none⟩) 1 1] (by kernel_rfl) (Zfk [.int .i64 0,.int .i64 (pr:Int),.int .i64 0,.slice (some ⟨bo,0,none⟩) 1 1] h11 (by kernel_rfl) λbr w12 h12=>?_)
  rw[←hrc] at h12
  refine Za (Zq h12 2 rfl (vs:=[.slice (some ⟨br,0,none⟩) 1 1]) rfl rfl (Nat.le_of_ble_eq_true rfl) (by simp[flat]) (cs':=[.int .i64 kd,.int .i64 d,.int .i64 0,.slice (some ⟨br,0,none⟩) 1 1,.slice (some ⟨bp,0,none⟩) 1 1,.slice (some ⟨bs,0,none⟩) 1 1,.slice none 0 0]) (by rfl) λw13 h13=>ZBD ?_)
  refine J0.cut (λw'=>∃iv:Value,Sat e w' (Zz 55 3 Out.cs iv (if j=0 then [⟨0,1,0⟩] else [])::blk br 57 r0.cs::blk bo 55 (⟨(j:Int),d,1⟩:Out).cs::blk b13 53 [.int .i64 kd,.int .i64 d,.int .i64 0,.slice (some ⟨br,0,none⟩) 1 1,.slice (some ⟨bp,0,none⟩) 1 1,.slice (some ⟨bs,0,none⟩) 1 1,iv]::blk bs 3 (Yi [(pr:Int)])::blk bp 3 (Yi [(j:Int)])::Zz 53 7 Zao.cs v2 fs::Yh (fs.map Zea)::Zz 3 1 (Ye .i64) v (List.replicate n (-1))::blk b9 27 [v,v2,.int .i64 E]::blk b8 27 [.slice none 0 0,.slice none 0 0,.int .i64 0]::L)) (λk5 hk5=>?_) ?_
  ·by_cases h0:j=0
   ·rw[decide_eq_true (show (j:Int)=0 by omega)]
    refine Zi (Zaf (⟨0,1,0⟩:Out).cs (by kernel_rfl) (Zfk (⟨0,1,0⟩:Out).cs h13 (by kernel_rfl) λbi w14 h14=>?_))
    refine Za (Zq h14 3 rfl (vs:=[.slice (some ⟨bi,0,none⟩) 1 1]) rfl rfl (Nat.le_of_ble_eq_true rfl) (by simp[flat]) (cs':=[.int .i64 kd,.int .i64 d,.int .i64 0,.slice (some ⟨br,0,none⟩) 1 1,.slice (some ⟨bp,0,none⟩) 1 1,.slice (some ⟨bs,0,none⟩) 1 1,.slice (some ⟨bi,0,none⟩) 1 1]) (by rfl) λw15 h15=>hk5 _ ⟨.slice (some ⟨bi,0,none⟩) 1 1,?_⟩)
    rw[if_pos h0]
    exact h15.imp_at 0 rfl (ZOn (size:=3) (f:=Out.cs) (l:=[⟨0,1,0⟩]) (λ_=>rfl) rfl)
   ·rw[decide_eq_false (show ¬(j:Int)=0 by omega)]
    refine Zf (hk5 _ ⟨.slice none 0 0,?_⟩)
    rw[if_neg h0]
    exact h13.own_nil 55 3 Out.cs
  rintro w ⟨iv,h14⟩
  have f3:=h14.own_cells 0 rfl
  refine Za (Zb h14 9 rfl (v:=v2) rfl ?_)
  obtain ⟨f,hf⟩:∃f:Zao,f=⟨kd,d,0,.slice (some ⟨br,0,none⟩) 1 1,[r0],.slice (some ⟨bp,0,none⟩) 1 1,[(j:Int)],.slice (some ⟨bs,0,none⟩) 1 1,[(pr:Int)],iv,if j=0 then [⟨0,1,0⟩] else []⟩:=⟨_,rfl⟩
  have hfc:[.int .i64 kd,.int .i64 d,.int .i64 0,.slice (some ⟨br,0,none⟩) 1 1,.slice (some ⟨bp,0,none⟩) 1 1,.slice (some ⟨bs,0,none⟩) 1 1,iv]=f.cs:=by rw[hf];rfl
  have hff:∀c∈f.cs,flat c=true:=by
   rw[←hfc]
   intro c hc
   simp only[List.mem_cons,List.not_mem_nil,or_false] at hc
   rcases hc with rfl | rfl | rfl | rfl | rfl | rfl | rfl <;> first | rfl | exact f3.2
  rw[hfc] at h14
  refine Zo h14 3 (vs:=f.cs) rfl (by rw[←hfc];rfl) (by rw[←hfc];rfl) ?_
  refine ZwC (v:=.agg f.cs.toArray) (vs:=f.cs) rfl (by rw[←hfc];rfl) h14 λbb w15 h15=>?_
  refine Zcs ZQZ ZQZ.und (f:=Zao.cs) (l:=fs) (m:=[f]) (λ_=>rfl) (λx hx=>by rw[List.mem_singleton.1 hx];exact hff) (h15.selR [_,_,_,_,_,_,_,_,_,_,_,_] [_,_,_,_,_,_,_,_,_,_,_,_] [7,0,1,2,3,4,5,6,8,9,10,11] (by decide) rfl) (Zfu (f:=Zao.cs) (x:=f) (Nat.le_refl _)) (by rw[List.length_singleton];omega) λv2' w16 h16=>?_
  have f2:=h16.own_cells 0 rfl
  refine Za (Zq h16 10 rfl (vs:=[v2']) f2.1 rfl (Nat.le_of_ble_eq_true rfl) (λc hc=>by rw[List.mem_singleton.1 hc];exact f2.2) (cs':=[v,v2',.int .i64 E]) (by rfl) λw17 h17=>?_)
  have hinit:f.iv=iv∧f.Init=if j=0 then [⟨0,1,0⟩] else []:=by rw[hf];exact ⟨rfl,rfl⟩
  have h18:=h17.selR [_,_,_,_,_,_,_,_,_,_,_,_] [_,_,_,_,_,_,_,_,_,_] [7,6,2,3,4,0,8,9,10,11] (by decide) rfl
  rw[←hinit.1,←hinit.2] at h18
  have h19:Sat e w17 (Zea f::Zz 53 7 Zao.cs v2' (fs++[f])::Yh (fs.map Zea)::Zz 3 1 (Ye .i64) v (List.replicate n (-1))::blk b9 27 [v,v2',.int .i64 E]::blk b8 27 [.slice none 0 0,.slice none 0 0,.int .i64 0]::L):=
   ZQf (bp:=bp) (bs:=bs) (br:=br) (bo:=bo) (r:=r0) (o:=⟨(j:Int),d,1⟩) (p:=(j:Int)) (q:=(pr:Int)) (by rw[hf]) (by rw[hf]) (by rw[hf]) (by rw[hf]) (by rw[hf]) (by rw[hf]) (by rw[hr0]) (by rw[hr0]) h18
  have h20:=(ZiX (h19.selR [_,_,_] [_,_,_] [0,2,1] (by decide) rfl)).swap
  have hkd2:kd=0∨kd=1:=by rw[hkd];split <;> omega
  refine Yr (by omega) (hg2 _ _ _ (by omega) ⟨j+1,v2',fs++[f],by omega,rfl,rfl,by simp[hfl],?_,λx hx=>?_,?_⟩)
  ·rw[List.map_append,List.range_succ,List.map_append,hfm]
   congr 1
   show [f.f]=[(ZOI n ks ds E).fed j]
   have e1:(ZOI n ks ds E).fed j=⟨if ks.getD j false then 1 else 0,dlA ds j,0,[⟨0,(((j+n - 1) % n:Nat):Int),0,[⟨(j:Nat),dlA ds j,1⟩]⟩],[((j:Nat):Int)],[(((j+n - 1) % n:Nat):Int)],if j=0 then [⟨0,1,0⟩] else []⟩:=rfl
   rw[e1,hkk,hdd,hpr,←hkd,hf,hr0]
   rfl
  ·rcases List.mem_append.1 hx with hx | hx
   ·exact hfw x hx
   ·rw[List.mem_singleton.1 hx]
    have hli:∀o∈(if j=0 then [(⟨0,1,0⟩:Out)] else []),o=⟨0,1,0⟩:=λo ho=>by
     split at ho
     ·exact List.mem_singleton.1 ho
     ·cases ho
    refine ⟨⟨?_,?_,?_,λr hr=>?_,λm hm=>?_,λm hm=>?_,λo ho=>?_⟩,⟨?_,?_,?_,?_,λr hr=>?_⟩⟩ <;> rw[hf] at*
    ·exact ZOk (by show -1000000≤kd∧kd≤1000000;omega)
    ·exact ZOk (by show -1000000≤d∧d≤1000000;omega)
    ·rfl
    ·rw[List.mem_singleton.1 hr,hr0]
     refine ⟨rfl,ZOk (by show -1000000≤(pr:Int)∧(pr:Int)≤1000000;omega),rfl,λo ho=>?_⟩
     rw[List.mem_singleton.1 ho]
     exact ⟨ZOk (by show -1000000≤(j:Int)∧(j:Int)≤1000000;omega),ZOk (by show -1000000≤d∧d≤1000000;omega),rfl⟩
    ·rw[List.mem_singleton.1 hm];exact ZOk (by omega)
    ·rw[List.mem_singleton.1 hm];exact ZOk (by omega)
    ·rw[hli o ho];exact ⟨rfl,rfl,rfl⟩
    ·show 1≤1000;decide
    ·show 1≤1000;decide
    ·show (if j=0 then [(⟨0,1,0⟩:Out)] else []).length≤1000
     split <;> simp
    ·show 1≤1000;decide
    ·rw[List.mem_singleton.1 hr,hr0];show 1≤1000;decide
  ·rw[List.map_append]
   exact h20
 ·have ej:j=n:=by omega
  have f2:=h5.own_cells 0 rfl
  refine Zo h5 3 (vs:=[v,v2,.int .i64 E]) rfl (by rfl) rfl ?_
  refine Zq h5 4 rfl (vs:=[v,v2,.int .i64 E]) rfl rfl (Nat.le_of_ble_eq_true rfl) (λc hc=>by
   simp only[List.mem_cons,List.not_mem_nil,or_false] at hc
   rcases hc with rfl | rfl | rfl
   ·exact f1.2
   ·exact f2.2
   ·rfl) (cs':=[v,v2,.int .i64 E]) (by rfl) λw6 h6=>?_
  refine Zo h6 4 (vs:=[v,v2,.int .i64 E]) rfl (by rfl) rfl ?_
  rw[ej] at hfm hfl
  refine hk ⟨v,List.replicate n (-1),v2,fs,E⟩ _ ?_ ⟨λm hm=>?_,λf hf=>(hfw f hf).1,ZOk (by show -1000000≤E∧E≤1000000;omega)⟩ ⟨by show fs.length≤1000;omega,by show (List.replicate n (-1:Int)).length≤1000;rw[List.length_replicate];omega,λf hf=>(hfw f hf).2⟩ (Sat.join (l':=[_,_,_]) ?_)
  ·show (⟨List.replicate n (-1),fs.map Zao.f,E⟩:Wd)=_
   rw[hfm]
   rfl
  ·rw[List.eq_of_mem_replicate hm];rfl
  ·exact h6.selR [_,_,_,_,_] [_,_,_] [2,0,1] (by decide) rfl
variable {s:RgS} {r a:Nat}
theorem ZP7 {wd:Wd} (h:(Za4 wd).2=0) {room:Int} (hr:1≤room∧room≤16):ZtU wd room=0:=by
 unfold ZtU
 rw[if_neg (λh'=>h' h),if_pos hr]
theorem ZQz {x:WdX} {room:Nat} (ok:G.Ok) (hx:x.w=G.W) (hwf:x.wf) (hs:x.short) (i:Nat) (hi:L[i]?=some (Zag x)) (hS:Sat e w L) (hroom:1≤room∧room≤16)
  (hk:∀p w',Sat e w' (Zby p G.W (KS.init G.W room) 0 0::L)→K (.tuple #[pt p,.int .i64 0]) w'):Cl prog 7 #[.agg x.cs.toArray,.int .i64 (room:Int)] w K:=by
 have hE:ZtU x.w (room:Int)=0:=by rw[hx];exact ZP7 (ZQS ok) (by omega)
 refine Zu2 (room:=(room:Int)) i hi hS (λg hg=>Zct hg) hwf hs (λh=>absurd hE h) λ_ p w2 h2=>?_
 rw[hx,Int.toNat_natCast] at h2
 exact hk p _ h2
theorem ZRM {a:Int} (ha:(Lit.int .u8 a).wf=true) (hk:∀n:Nat,2≤n∧n≤4→K (.int .i64 (n:Int)) w) :
  cvI .i64 (.int .u8 a) w λt w=>bi .rem .i64 t (Value.int IntKind.i64 3) w λt w=>bi .add .i64 (Value.int IntKind.i64 2) t w K:=by
 have h:=ZJm ha
 refine ZDy ?_
 rw[Zdl (by omega) (by omega)]
 refine Zwn (by decide) ?_
 have h1:a.tmod 3=a % 3:=Int.tmod_eq_emod_of_nonneg h.1
 rw[h1]
 refine ZcD (by omega) (by omega) ?_
 have h2:=hk (2+a % 3).toNat (by omega)
 rwa [show (((2+a % 3).toNat:Nat):Int)=2+a % 3 from by omega] at h2
theorem ZRq (ok:G.Ok) (hst:RSt G r s k) (hI:RgI G s) (h:G.still s) (ha:a<G.n):ZBN G.W k (a:Int)=(G.Lg a s.J).map λm=>⟨m,0⟩:=by
 have h1:ZBN G.W k (a:Int)=(k.node (a:Int).toNat).log G.W (a:Int).toNat:=if_pos (by unfold inN;rw[ZOi];omega)
 rw[h1,Int.toNat_natCast]
 exact ZQx ok hst hI h ha
theorem ZSo (ok:G.Ok) (hst:RSt G r s k) (ha:a<G.n):ZJt G.W k (a:Int)=0:=by
 have h1:ZJt G.W k (a:Int)=(k.node (a:Int).toNat).st G.W (a:Int).toNat:=if_pos (by unfold inN;rw[ZOi];omega)
 rw[h1,Int.toNat_natCast,hst.nd a ha]
 cases hk:G.κ a with
 | false=>rw[ZO5 hk];rfl
 | true=>
  rw[ZOK hk]
  show (ZjE (Zs G.W a) (ZjE (Zs G.W a) (ZxV (Zs G.W a)) (Zc6 s.v (G.Lg a s.J))) (ZmO s.v (G.Lg a s.J))).1=0
  rw[ZN2 ha,←Zi8,(ZPZ ok a).2,ZP3 ok ha]
theorem ZQI (a j:Nat):∀d,∃l,G.Lg a (j+d)=G.Lg a j++l
 | 0=>⟨[],by rw[List.append_nil];rfl⟩
 | d+1=>by
  obtain ⟨l,e⟩:=ZQI a j d
  refine ⟨l++if (j+d+1) % G.n=a then [G.mq (j+d)] else [],?_⟩
  rw[show j+(d+1)=j+d+1 by omega,ZNO,e,List.append_assoc]
theorem ZRG {j J:Nat} (hj:j<J) (ha:(j+1) % G.n=a):(G.Lg a J)[(G.Lg a j).length]?=some (G.mq j):=by
 obtain ⟨l,e⟩:=ZQI (G:=G) a (j+1) (J - (j+1))
 rw[show j+1+(J - (j+1))=J by omega] at e
 rw[e,ZNO,if_pos ha,List.append_assoc,List.getElem?_append_right (Nat.le_refl _),Nat.sub_self]
 rfl
theorem ZSC {n:Nat} {ks ks':List Bool} {ds:List Int} {E:Int}:∀j,(ZOI n ks ds E).tq j=(ZOI n ks' ds E).tq j
 | 0=>rfl
 | j+1=>by
  show (ZOI n ks ds E).tq j+_=(ZOI n ks' ds E).tq j+_
  rw[ZSC j]
  rfl
theorem ZTb {n:Nat} {ks ks':List Bool} {ds:List Int} {E:Int} (a J:Nat):(ZOI n ks ds E).Lg a J=(ZOI n ks' ds E).Lg a J:=by
 unfold Rg.Lg
 have h1:(ZOI n ks ds E).mq=(ZOI n ks' ds E).mq:=by
  funext j
  unfold Rg.mq
  rw[ZSC (ks':=ks') j]
  rfl
 rw[h1]
 rfl
theorem ZTl {f:Nat→Int} {E:Int} {i j:Nat} (h1:E≤f i) (h2:∀x,x<i→f x<E) (h3:E≤f j) (h4:∀x,x<j→f x<E):i=j:=by
 rcases Nat.lt_trichotomy i j with h | h | h
 ·have:=h4 i h;omega
 ·exact h
 ·have:=h2 j h;omega
theorem ZTn {a:Int} (ha:(Lit.int .u8 a).wf=true) (hk:∀n:Nat,2≤n∧n≤15→K (.int .i64 (n:Int)) w) :
  cvI .i64 (.int .u8 a) w λt w=>bi .rem .i64 t (Value.int IntKind.i64 14) w λt w=>bi .add .i64 (Value.int IntKind.i64 2) t w K:=by
 have h:=ZJm ha
 refine ZDy ?_
 rw[Zdl (by omega) (by omega)]
 refine Zwn (by decide) ?_
 have h1:a.tmod 14=a % 14:=Int.tmod_eq_emod_of_nonneg h.1
 rw[h1]
 refine ZcD (by omega) (by omega) ?_
 have h2:=hk (2+a % 14).toNat (by omega)
 rwa [show (((2+a % 14).toNat:Nat):Int)=2+a % 14 from by omega] at h2
theorem ZSU {J:Nat} (ok:G.Ok) (hJ:0<J):0<(G.Lg 1 J).length:=by
 have hn:=ok.n
 have h1:=ZRG (G:=G) (j:=0) (a:=1) hJ (Nat.mod_eq_of_lt (by omega))
 have h2:=(List.getElem?_eq_some_iff.1 h1).1
 omega
theorem ZSH {av bv dv:Value} {ka kb:List Bool} {ds:List Int} {a r:Int} (hS:Sat e w (S::Q)) (ha:(Lit.int .u8 a).wf=true) (hr1:∀g,S g→rdS 1 ZPh av ka g) (hr2:∀g,S g→rdS 1 ZPh bv kb g)
  (hr3:∀g,S g→rdS 1 (Ye .u8) dv ds g) (hw3:∀m∈ds,(Lit.int .u8 m).wf=true) (hwr:(Lit.int .u8 r).wf=true)
  (hk:∀w',Sat e w' (S::Q)→K (.bool true) w'):Cl prog 4 #[.int .u8 a,av,bv,dv,.int .u8 r] w K:=by
 refine ZRQ ?_
 unfold ZRO
 refine ZRM ha λn hn=>?_
 have ok1:(ZOI n ka ds 20).Ok:=ZQh hn (by decide)
 have ok2:(ZOI n kb ds 20).Ok:=ZQh hn (by decide)
 have htq:∀j,(ZOI n ka ds 20).tq j=(ZOI n kb ds 20).tq j:=ZSC
 have hLg:∀a J,(ZOI n ka ds 20).Lg a J=(ZOI n kb ds 20).Lg a J:=ZTb
 have n1:(ZOI n ka ds 20).n=n:=rfl
 have n2:(ZOI n kb ds 20).n=n:=rfl
 have E1:(ZOI n ka ds 20).E=20:=rfl
 have E2:(ZOI n kb ds 20).E=20:=rfl
 refine ZRe 0 rfl hS hr1 hr3 hw3 hn (by decide) λx w1 hx hwf hs h1=>ZTn hwr λm hm=>?_
 refine ZQz (room:=m) ok1 hx hwf hs 0 rfl h1 (by omega) λp w2 h2=>(Zam (Zal ?_))
 refine ZRe 2 rfl h2 hr2 hr3 hw3 hn (by decide) λy w3 hy hwf2 hs2 h3=>?_
 refine ZQz (room:=16) ok2 hy hwf2 hs2 0 rfl h3 (by decide) λq w4 h4=>(Zam (Zal ?_))
 generalize ZOI n ka ds 20=G1 at*
 generalize ZOI n kb ds 20=G2 at*
 refine ZoP rfl (Zj (Zj (ZoP rfl (Yd (Zj (Zj (ZmP _ (Yd (Zj (Zj (ZmP _ (Yd (Zf ?_)))))))))))))
 have h5:=h4.selR [_,_,_,_,_] [_,_,_,_,_] [2,0,1,3,4] (by decide) rfl
 rw[←n1]
 refine ZPk ok1 hm.1 h5 λk1 s1 c1 m1 w5 hst1 hI1 hl1 hc1 hm1 h6=>?_
 rw[n1,←n2]
 have h7:=h6.swap
 refine ZPk ok2 (by decide) h7 λk2 s2 c2 m2 w6 hst2 hI2 hl2 hc2 hm2 h8=>?_
 rw[n2]
 have hJ:s1.J=s2.J:=ZTl (f:=G1.tq) (E:=20) (by have:=hl1.2.2.1;omega) (λj hj=>by have:=hI1.jE j hj;omega) (by have:=hl2.2.2.1;rw[htq];omega) (λj hj=>by have:=hI2.jE j hj;rw[htq];omega)
 have hlen:=ZRa ok1 hI1
 have hL1:∀i,i<n→ZBN G1.W k1 (i:Int)=(G1.Lg i s1.J).map λm=>⟨m,0⟩:=λi hi=>ZRq ok1 hst1 hI1 hl1 (by omega)
 have hL2:∀i,i<n→ZBN G2.W k2 (i:Int)=(G1.Lg i s1.J).map λm=>⟨m,0⟩:=λi hi=>by
  rw[ZRq ok2 hst2 hI2 hl2 (by omega),hLg,hJ]
 refine Zdk (λz t w=>∃i:Nat,i≤n∧t=.int .i64 i∧z=n - i∧Sat e w (Zby q G2.W k2 c2 m2::Zby p G1.W k1 c1 m1::Zag y::Zag x::S::Q)) n ⟨0,Nat.zero_le _,rfl,rfl,h8⟩ ?_
 rintro z _ w7 g1 ⟨i,hi,rfl,rfl,h9⟩ hg1
 refine Za7 (λc=>Zi ?_) (λc=>Zf ?_)
 ·have hin:i<n:=by omega
  refine ZdZ (a:=(i:Int)) (by omega) h9.swap λv1 w8 h10=>?_
  refine ZdZ (a:=(i:Int)) (by omega) (h10.selR [_,_,_] [_,_,_] [2,0,1] (by decide) rfl) λv2 w9 h11=>?_
  rw[hL1 i hin,hL2 i hin] at h11
  refine Zud 2 0 rfl rfl h11 (λ_=>Zp) (λ_=>Zp) (by rw[List.length_map];have:=ZQK (G:=G1) i s1.J;omega) λw10 h12=>?_
  refine ZaJ (Zj (Zj (Zj (ZKO (a:=(i:Int)) (h12.selR [_,_,_,_] [_,_,_,_] [3,1,0,2] (by decide) rfl) ?_))))
  rw[ZSo ok1 hst1 (by omega)]
  refine Zj (Zj (Zj (ZKO (a:=(i:Int)) h12.drop ?_)))
  rw[ZSo ok2 hst2 (by omega)]
  refine Zj (ZoP rfl (Yd (Zf (Yr (by omega) (hg1 _ _ _ (by omega) ⟨i+1,by omega,rfl,rfl,?_⟩)))))
  exact h12.selR [_,_,_,_] [_,_] [1,3] (by decide) rfl
 ·have hJ0:0<s1.J:=by
   by_cases h:0<s1.J
   ·exact h
   ·have h1:=hl1.2.2.1
    rw[show s1.J=0 by omega,E1] at h1
    have h2:G1.tq 0=1:=rfl
    omega
  refine Zc0 (by omega) h9.swap λw8 h10=>?_
  rw[(ZOD ok1 hst1 hI1).2 hl1]
  refine Ze (Ze (Zc0 (by omega) h10.swap λw9 h11=>?_))
  rw[(ZOD ok2 hst2 hI2).2 hl2]
  refine Yv (Ze (Ze (ZdZ (a:=((1:Nat):Int)) (by omega) h11.swap λv1 w10 h12=>?_)))
  rw[hL1 1 (by omega)] at h12
  refine Ze (Zt h12 0 rfl (λ_=>Zp) (Ze (ZtF (by rw[List.length_map];have:=ZSU ok1 hJ0;omega) (Yv ?_))))
  exact hk _ (h12.selR [_,_,_,_,_,_] [_] [5] (by decide) rfl)
def Rg.run (G:Rg) (j:Nat):RS:=⟨(List.range G.n).map λi=>⟨0,G.sn i j,(G.Lg i j).map λm=>⟨m,0⟩⟩,[G.mq j]⟩
theorem ZSS (ok:G.Ok):ZF4 G.W=G.run 0:=by
 unfold ZF4 Rg.run
 rw[ZQd ok]
 congr 1
 show ((List.range G.n).map G.fed).map _=_
 rw[List.map_map]
 refine List.map_congr_left λi hi=>?_
 have h1:=ZPD ok (List.mem_range.1 hi)
 show (⟨0,((G.fed i).Init.length:Int),[]⟩:FA)=⟨0,G.sn i 0,[]⟩
 rw[h1]
theorem ZSR (ok:G.Ok) {j:Nat} (hj:j≤60) (hE:G.tq j<G.E):ZFO G.W (G.run j)=some (⟨G.mq j,0⟩,G.run (j+1)):=by
 have hn:=ok.n
 have ha:(j+1) % G.n<G.n:=Nat.mod_lt _ (by omega)
 obtain ⟨a,haj⟩:∃a,(j+1) % G.n=a:=⟨_,rfl⟩
 rw[haj] at ha
 have hTo:(G.mq j).To=(a:Int):=by show (((j+1) % G.n:Nat):Int)=_;rw[haj]
 have hf:G.W.Feds[(G.mq j).To.toNat]?=some (G.fed a):=by
  rw[hTo,Int.toNat_natCast]
  show ((List.range G.n).map G.fed)[a]?=_
  rw[List.getElem?_map,List.getElem?_range ha]
  rfl
 have hr:(G.run j).feds[(G.mq j).To.toNat]?=some ⟨0,G.sn a j,(G.Lg a j).map λm=>⟨m,0⟩⟩:=by
  rw[hTo,Int.toNat_natCast]
  show ((List.range G.n).map _)[a]?=_
  rw[List.getElem?_map,List.getElem?_range ha]
  rfl
 have hst:ZbY (G.fed a).Rules 0 (G.mq j).Class=(0,[⟨(a:Nat),G.d a,1⟩]):=by
  rw[show (G.mq j).Class=((G.pr a:Nat):Int) from by show ((j % G.n:Nat):Int)=_;rw[ZOv ok haj],ZOQ]
 unfold ZFO
 show (if G.E≤(G.mq j).key.T then none else match G.W.Feds[(G.mq j).To.toNat]?,(G.run j).feds[(G.mq j).To.toNat]? with
  | some f,some a=>some (ZF5 G.W f a (G.mq j) [] (G.run j))
  | _,_=>none)=_
 rw[if_neg (by show ¬G.E≤G.tq j;omega),hf,hr]
 show some (ZF5 G.W (G.fed a) ⟨0,G.sn a j,(G.Lg a j).map λm=>⟨m,0⟩⟩ (G.mq j) [] (G.run j))=_
 unfold ZF5
 dsimp only
 rw[hst]
 dsimp only
 rw[hTo,Int.toNat_natCast,ZRh ok (by omega) haj]
 congr 2
 unfold Rg.run
 congr 1
 exact ZOp (λi _ hne=>by
  rw[ZNO,if_neg (by rw[haj];exact λh=>hne h.symm),List.append_nil]
  have h2:G.sn i (j+1)=G.sn i j:=by
   rename_i hi
   rw[ZOT ok hi,if_neg (by rw[haj];exact λh=>hne h.symm),Int.add_zero]
  rw[h2]) λ_=>by
  rw[ZNO,if_pos haj,ZOT ok ha,if_pos haj,List.map_append]
  rfl
theorem ZS6 {j:Nat} (hE:G.E≤G.tq j):ZFO G.W (G.run j)=none:=by
 unfold ZFO
 show (if G.E≤(G.mq j).key.T then none else _)=_
 rw[if_pos (by show G.E≤G.tq j;exact hE)]
theorem ZSs (ok:G.Ok) {J:Nat} (hJ:J≤23) (h1:∀j,j<J→G.tq j<G.E) (h2:G.E≤G.tq J):∀(m j:Nat),j≤J→J - j≤m→Zul G.W m (G.run j)=(J - j,G.run J)
 | 0,j,hj,hm=>by
  have e:j=J:=by omega
  rw[e,Nat.sub_self]
  rfl
 | m+1,j,hj,hm=>by
  unfold Zul
  by_cases hjJ:j=J
  ·rw[hjJ,ZS6 h2,Nat.sub_self]
  ·rw[ZSR ok (by omega) (h1 j (by omega))]
   dsimp only
   rw[ZSs ok hJ h1 h2 m (j+1) (by omega) (by omega)]
   dsimp only
   rw[show J - (j+1)+1=J - j by omega]
theorem ZS3 {J i:Nat} (hi:i<G.n):ZK0 (G.run J) (i:Int)=(G.Lg i J).map λm=>⟨m,0⟩:=by
 unfold ZK0
 rw[if_pos (by omega),Int.toNat_natCast]
 show ((((List.range G.n).map _)[i]?).map FA.log).getD []=_
 rw[List.getElem?_map,List.getElem?_range hi]
 rfl
theorem ZTj {J i:Nat} (hi:i<G.n):stR (G.run J) (i:Int)=0:=by
 unfold stR
 rw[if_pos (by omega),Int.toNat_natCast]
 show ((((List.range G.n).map _)[i]?).map FA.st).getD (-1)=_
 rw[List.getElem?_map,List.getElem?_range hi]
 rfl
def Rg.took (G:Rg) (J:Nat):Nat→Nat
 | 0=>0
 | m+1=>Rg.took G J m+(G.Lg m J).length
theorem ZSw (J:Nat):∀m,G.took (J+1) m=G.took J m+if (J+1) % G.n<m then 1 else 0
 | 0=>rfl
 | m+1=>by
  show G.took (J+1) m+(G.Lg m (J+1)).length=G.took J m+(G.Lg m J).length+_
  rw[ZSw J m,ZNO,List.length_append]
  by_cases h:(J+1) % G.n=m
  ·rw[if_pos h,if_neg (by omega),if_pos (by omega),List.length_singleton]
   omega
  ·rw[if_neg h]
   by_cases h2:(J+1) % G.n<m
   ·rw[if_pos h2,if_pos (by omega)]
    simp
    omega
   ·rw[if_neg h2,if_neg (by omega)]
    simp
theorem ZSz:∀m,G.took 0 m=0
 | 0=>rfl
 | m+1=>by
  show G.took 0 m+(G.Lg m 0).length=0
  rw[ZSz m]
  rfl
theorem ZSG (ok:G.Ok):∀J,G.took J G.n=J
 | 0=>ZSz _
 | J+1=>by
  have hn:=ok.n
  rw[ZSw,ZSG ok J,if_pos (Nat.mod_lt _ (by omega))]
theorem ZSO {kv dv:Value} {ks:List Bool} {ds:List Int} {a:Int} (hS:Sat e w (S::Q)) (ha:(Lit.int .u8 a).wf=true) (hr1:∀g,S g→rdS 1 ZPh kv ks g) (hr2:∀g,S g→rdS 1 (Ye .u8) dv ds g) (hw2:∀m∈ds,(Lit.int .u8 m).wf=true)
  (hk:∀w',Sat e w' (S::Q)→K (.bool true) w'):Cl prog 5 #[.int .u8 a,kv,dv] w K:=by
 refine ZRS ?_
 unfold ZRP
 refine ZRM ha λn hn=>?_
 have ok:(ZOI n ks ds 22).Ok:=ZQh hn (by decide)
 have hGn:(ZOI n ks ds 22).n=n:=rfl
 have hGE:(ZOI n ks ds 22).E=22:=rfl
 refine ZRe 0 rfl hS hr1 hr2 hw2 hn (by decide) λx w1 hx hwf hs h1=>?_
 generalize ZOI n ks ds 22=G at*
 have hfl:=ZoI 0 rfl h1 λg hg=>Zct hg
 rw[ZOw]
 refine Yp (cs:=[.slice none 0 0,.slice none 0 0,.int .i64 0]) h1 rfl λb w2 h2=>?_
 refine Zq h2 0 rfl (vs:=x.cs) rfl rfl (Nat.le_of_ble_eq_true rfl) hfl (cs':=x.cs) (by rfl) λw3 h3=>(Zo h3 0 (vs:=x.cs) rfl (by rfl) rfl ?_)
 refine ZQz (room:=8) ok hx hwf hs 1 rfl h3 (by decide) λp w4 h4=>(Zam (Zal (Zo h4 1 (vs:=x.cs) rfl (by rfl) rfl ?_)))
 refine ZSI 2 rfl h4 (λg hg=>Zct hg) hwf hs (λh=>absurd (by rw[hx];exact ZQS ok) h) λ_ r w5 h5=>(Zam (Zal ?_))
 rw[hx,ZSS ok] at h5
 refine ZoP rfl (Zj (Zj (ZoP rfl (Yd (Zj (Zj (ZmP _ (Yd (Zj (Zj (ZmP _ (Yd (Zf ?_)))))))))))))
 subst hGn
 refine ZPk ok (by decide) h5.swap λk s n' m' w6 hst hI hstill hn' hm' h6=>?_
 have hJ:=ZRa ok hI
 have hlog:∀i,i<G.n→ZBN G.W k (i:Int)=(G.Lg i s.J).map λm=>⟨m,0⟩:=λi hi=>ZRq ok hst hI hstill hi
 have hsteps:=ZSs ok hJ (λj hj=>hI.jE j hj) hstill.2.2.1 1000 0 (Nat.zero_le _) (by omega)
 rw[Nat.sub_zero] at hsteps
 refine ZSv (n:=1000) (by omega) h6.swap λw7 h7 _=>?_
 rw[hsteps] at h7 ⊢
 dsimp only at h7 ⊢
 refine ZjF (λz t14 t15 w=>∃i:Nat,i≤G.n∧t14=.int .i64 (G.took s.J i:Nat)∧t15=.int .i64 i∧z=G.n - i∧G.took s.J i≤23*i∧Sat e w (ZRR r G.W (G.run s.J) (0+s.J)::Zby p G.W k n' m'::blk b 27 x.cs::Zag x::S::Q)) G.n ⟨0,Nat.zero_le _,rfl,rfl,rfl,Nat.le_refl _,h7⟩ ?_
 rintro z _ _ w8 g1 ⟨i,hi,rfl,rfl,rfl,ht,h8⟩ hg1
 refine Za7 (λc=>Zi ?_) (λc=>Zf ?_)
 ·have hin:i<G.n:=by omega
  have hli:=ZQK (G:=G) i s.J
  refine ZdZ (a:=(i:Int)) (by omega) h8.swap λv1 w9 h9=>?_
  refine ZSJ (f:=(i:Int)) (by omega) (h9.selR [_,_,_] [_,_,_] [2,0,1] (by decide) rfl) λv2 w10 h10=>?_
  rw[hlog i hin,ZS3 hin] at h10
  refine Zud 2 0 rfl rfl h10 (λ_=>Zp) (λ_=>Zp) (by rw[List.length_map];omega) λw11 h11=>?_
  refine ZaJ (Zj (Zj (Zj (ZKO (a:=(i:Int)) (h11.selR [_,_,_,_] [_,_,_,_] [3,1,0,2] (by decide) rfl) ?_))))
  rw[ZSo ok hst hin]
  refine Zj (Zj (Zj (ZSu (f:=(i:Int)) h11.drop ?_)))
  rw[ZTj hin]
  refine Zj (ZoP rfl (Yd (Zf ?_)))
  refine ZdZ (a:=(i:Int)) (by omega) (h11.selR [_,_,_,_] [_,_] [3,1] (by decide) rfl) λv3 w12 h12=>?_
  rw[hlog i hin] at h12
  refine Zt h12 0 rfl (λ_=>Zp) ?_
  rw[List.length_map]
  refine ZcD (by omega) (by omega) (Yr (by omega) (hg1 _ _ _ _ (by omega) ⟨i+1,by omega,?_,rfl,rfl,?_,h12.drop.swap⟩))
  ·show Value.int .i64 ((G.took s.J i:Nat)+((G.Lg i s.J).length:Nat):Int)=.int .i64 ((G.took s.J i+(G.Lg i s.J).length:Nat):Int)
   rw[Int.natCast_add]
  ·show G.took s.J i+(G.Lg i s.J).length≤23*(i+1)
   omega
 ·have ei:i=G.n:=by omega
  have hJ0:0<s.J:=by
   by_cases h:0<s.J
   ·exact h
   ·have h1:=hstill.2.2.1
    rw[show s.J=0 by omega,hGE] at h1
    have h2:G.tq 0=1:=rfl
    omega
  rw[ei,ZSG ok]
  refine Znq rfl (Ze (Ze (ZtF (by omega) (Yv (Ze (Ze (Zc0 (by omega) h8.swap λw9 h9=>?_)))))))
  rw[(ZOD ok hst hI).2 hstill]
  exact Yv (hk _ (h9.selR [_,_,_,_,_] [_] [4] (by decide) rfl))
end Go.Proofs.YtkpdpddmaoablaaGreat
end
