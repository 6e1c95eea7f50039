/- Texts of the proof, joined. Conditions: none. -/
import Derived.Test.YtnhaekgogppbiaaGreatP6
section
namespace Go.Proofs.YtnhaekgogppbiaaGreat
open Go Go.E
set_option maxRecDepth 100000
variable {e w:World} {L Q R:List HP} {K:KV} {S S2:HP}
variable {n f k:Nat} {wd:Wd} {fd:Fed} {N:WN}
theorem ZlJ (t:Int):(Ys N t).base fd=ZjE fd (N.base fd) (Zc6 t N.ms):=Zi8 fd N.old _ _
theorem Ztl (h:WOk wd f fd N k) (t:Int):(Ys N t).now fd=N.now fd:=by
 unfold WN.now
 rw[ZlJ]
 show ZjE fd (ZjE fd (N.base fd) (Zc6 t N.ms)) (ZmO t N.ms)=_
 rw[←Zi8,ZnE h.ups]
theorem Zl5 (h:WOk wd f fd N k) (t:Int):(Ys N t).past wd f fd=ZzN t (N.past wd f fd):=by
 unfold WN.past
 rw[ZlJ]
 exact (Zlk (ZpI h.ups t)).2.symm
theorem Zky (h:WOk wd f fd N k) (t:Int):Zx0 t (N.past wd f fd)=ZaC wd f fd N t:=(Zlk (ZpI h.ups t)).1
theorem ZnH (t:Int):(Ys N t).log wd f fd=N.log wd f fd++(ZaC wd f fd N t).map ZfV:=by
 show (Zc8 wd f fd (ZxV fd) (N.old++Zc6 t N.ms)).map ZfV=_
 rw[Zi3,List.map_append]
 rfl
theorem ZBr (h:WOk wd f fd N k):(N.past wd f fd).Pairwise λa b=>Zv a.m.key b.m.key:=ZvE h.ups
def Zek (wd:Wd) (f:Nat) (fd:Fed) (N:WN) (t:Int):List Msg:=(Yq wd (ZaC wd f fd N t)).map Yz.m
theorem ZAT (h:WOk wd f fd N k):(N.log wd f fd).length≤k:=by
 have:=h.cnt
 unfold WN.log
 rw[List.length_map,ZbA]
 omega
theorem Zoe {t:Int} (hk0:k≤1000) (hS:Sat e w (Ya n wd f fd N k::Q))
  (hno:ZaB N t≠0→∀w',Sat e w' (Ya n wd f fd N k::Q)→K (.tuple #[.slice none 0 0,.slice none 0 0,.int .i64 (ZaB N t)]) w')
  (hyes:ZaB N t=0→∀v u w',Sat e w' (DD v ((ZaC wd f fd N t).map ZfV)::Zz 81 6 Msg.cs u (Zek wd f fd N t)::Ya n wd f fd (Ys N t) k::Q)→K (.tuple #[v,u,.int .i64 0]) w') :
  Cl prog 71 #[.pointer (some ⟨n,0,none⟩),.int .i64 t] w K:=by
 refine ZeP ?_
 unfold ZeF
 obtain ⟨X,q,p,g,b,m,lv,hX,h1⟩:=Zb4 hS
 refine Zh (Za (Zb h1 0 rfl (v:=.pointer (some ⟨p,0,none⟩)) rfl ?_))
 refine Zfi (h1.pick 2 rfl) ?_
 refine Za7 (λc=>Zi ?_) (λc=>Zf ?_)
 ·have he:ZaB N t=110:=if_pos c
  rw[he] at hno
  exact hno (by decide) _ hS
 refine ZkN hS λw2 h2=>?_
 refine Ztu (λc2=>Zi ?_) (λc2=>Zf ?_)
 ·have he:ZaB N t=130:=by unfold ZaB;rw[if_neg c,if_pos c2]
  rw[he] at hno
  exact hno (by decide) _ h2
 have he:ZaB N t=0:=by unfold ZaB;rw[if_neg c,if_neg c2]
 clear h1
 obtain ⟨X,q,p,g,b,m,lv,hX,h1⟩:=Zb4 h2
 have hok:=hX.ok
 refine Zh (Za (Zb h1 0 rfl (v:=.pointer (some ⟨p,0,none⟩)) rfl ?_))
 refine Zoq (h1.pick 2 rfl) λv w3 h3=>?_
 rw[Zky hok,←Zl5 hok] at h3
 obtain ⟨xs,hxs,h4⟩:=ZxO h3
 generalize hse:ZaC wd f fd N t=se at hxs hyes
 have hsl:se.length≤64:=by
  rw[←hse]
  unfold ZaC
  rw[ZbA]
  exact Nat.le_trans (List.length_filter_le _ _) hok.ml
 have hxl:xs.length=se.length:=by rw[←hxs,List.length_map]
 refine Zt h4 0 rfl (λ_=>Zp) ?_
 rw[ZTG]
 replace h4:Sat e w3 (DE v xs::Yh (xs.map ZcP)::Yf p (max N.fl t) ((Ys N t).past wd f fd)::BW n X f (N.now fd).1 (N.now fd).2 q p g b lv::IsQ q N.q::Yo g N.fl (Yq wd (N.past wd f fd))::Zag X::Zaj kI kI b m::DD lv (N.log wd f fd)::Q):=h4
 refine ZjF (λmm t7 t30 w=>∃j:Nat,j≤se.length∧t30=.int .i64 j∧mm=se.length - j∧Sat e w (DD t7 ((se.take j).map ZfV)::DE v xs::Yh (xs.map ZcP)::Yf p (max N.fl t) ((Ys N t).past wd f fd)::BW n X f (N.now fd).1 (N.now fd).2 q p g b lv::IsQ q N.q::Yo g N.fl (Yq wd (N.past wd f fd))::Zag X::Zaj kI kI b m::DD lv (N.log wd f fd)::Q)) se.length
  ⟨0,Nat.zero_le _,rfl,rfl,h4.own_nil 100 7 Zak.cs⟩ ?_
 rintro mm t7 _ w g1 ⟨j,hj,rfl,rfl,h5⟩ hg1
 rw[hxl]
 refine Za7 (λc3=>Zi ?_) (λc3=>Zf ?_)
 ·obtain ⟨x,hx⟩:=Zk (l:=xs) (j:=j) (by omega)
  have hxe:se[j]?=some x.e:=by rw[←hxs,List.getElem?_map,hx];rfl
  refine Zw h5 1 rfl (λ_=>Zp) (λ_=>rfl) hx λa ha=>Ym h5 1 rfl ha rfl ?_
  refine Yp (cs:=EnX.zero.cs) h5 rfl λt9 w6 h6=>?_
  refine Zq h6 0 rfl (vs:=x.cs) rfl rfl (by simp[EnX.zero,EnX.cs]) (EnX.flat (ZlV 3 h6 rfl (List.mem_of_getElem? hx))) (cs':=x.cs) (by rfl) λw7 h7=>?_
  refine Za (Zo h7 0 (vs:=x.m.cs) rfl (by rfl) rfl (Za (Zb h7 0 rfl (v:=.int .i64 x.st) rfl ?_)))
  refine Zaf (ZfV x.e).cs (by kernel_rfl) ?_
  refine Zj7 ZT4 (f:=Zak.cs) (λ_=>rfl) (λ_=>Zg _) (h7.pick 1 rfl) (x:=ZfV x.e) rfl (by rw[List.length_map,List.length_take];omega) λv' w8 h8=>?_
  refine Yr (by omega) ?_
  refine hg1 _ _ _ _ (by omega) ⟨j+1,by omega,rfl,rfl,?_⟩
  rw[Zx hxe,List.map_append]
  exact h8.selR [_,_] [_] [0] (by decide) rfl
 ·have ej:j=se.length:=by omega
  rw[ej,List.take_length] at h5
  refine Zh (Za (Zb h5 4 rfl (v:=lv) rfl ?_))
  have hlf:=ZAT hok
  refine Zeo ZT4 ZT4.und (f:=Zak.cs) (l:=N.log wd f fd) (m:=se.map ZfV) (λ_=>rfl) (λ_=>Zg _) (h5.selR [_,_,_,_,_,_,_,_,_,_] [_,_,_,_,_,_,_,_,_,_] [9,0,1,2,3,4,5,6,7,8] (by decide) rfl) (λ_=>Zp) (by rw[List.length_map];omega) λlv' w6 h6=>?_
  have q1:=h6.own_cells 0 rfl
  refine Zh (Za (Zq h6 5 rfl (vs:=[lv']) q1.1 rfl (Nat.le_of_ble_eq_true rfl) (λc hc=>by rw[List.mem_singleton.1 hc];exact q1.2) (cs':=wcs X f (N.now fd).1 (N.now fd).2 q p g b lv') (by rfl) λw7 h7=>?_))
  replace h7:Sat e w7 (DD lv' (N.log wd f fd++se.map ZfV)::DD t7 (se.map ZfV)::DE v xs::Yh (xs.map ZcP)::Yf p (max N.fl t) ((Ys N t).past wd f fd)::BW n X f (N.now fd).1 (N.now fd).2 q p g b lv'::IsQ q N.q::Yo g N.fl (Yq wd (N.past wd f fd))::Zag X::Zaj kI kI b m::Q):=h7
  refine Zh (Za (Zb h7 5 rfl (v:=.pointer (some ⟨g,0,none⟩)) rfl ?_))
  refine ZqO t (h7.pick 7 rfl) (ZiV hok) λu w8 h8=>?_
  obtain ⟨hft,_⟩:=Zkb he
  have hmax:max N.fl t=t:=by omega
  have hop:Zs6 (Yq wd (N.past wd f fd)) t=Yq wd se:=by
   rw[ZrI (ZBr hok),←hse,←Zky hok]
   rfl
  have hleft:ZwV (Yq wd (N.past wd f fd)) t=Yq wd ((Ys N t).past wd f fd):=by
   rw[Zuu,Zl5 hok]
   rfl
  rw[hmax,hop,hleft] at h8
  have hlog:N.log wd f fd++se.map ZfV=(Ys N t).log wd f fd:=by rw[ZnH,hse]
  rw[hlog] at h8
  have hnow:=Ztl hok t
  rw[←hnow] at h8
  have hop2:Zek wd f fd N t=(Yq wd se).map Yz.m:=by unfold Zek;rw[hse]
  rw[hop2] at hyes
  have h9:=ZbQ (N:=Ys N t) (X:=X) (q:=q) (p:=p) (g:=g) (b:=b) (m:=m) (lv:=lv') ⟨hX.eq,hX.short,hok.commit he,hX.map⟩ (h8.selR [_,_,_,_,_,_,_,_,_,_,_] [_,_,_,_,_,_,_,_,_] [7,8,6,1,9,10,2,3,0] (by decide) rfl)
  exact hyes he t7 u _ (h9.selR [_,_,_] [_,_,_] [1,2,0] (by decide) rfl)
theorem Zyo {l:List Msg} {b:Int × Int} {m:Msg} (h:Upk (l++[m])):Zx4 (Zc8 wd f fd b l) m.key:=by
 intro x hx
 have h1:=List.mem_of_getLast? hx
 exact h.mid (Zdm h1).1 (by simp)
theorem Zqd {m:Msg} {r:List Msg} (hq:N.q=m::r):(Zcv N).past wd f fd=N.past wd f fd++[ZoQ wd f fd (N.now fd) m]:=by
 rw[ZiD hq]
 show Zc8 wd f fd (N.base fd) (N.ms++[m])=_
 rw[Zi3]
 rfl
theorem Zwi {m:Msg} {r:List Msg} (hq:N.q=m::r):(Zcv N).now fd=Zhz fd (N.now fd) m:=by
 rw[ZiD hq]
 show ZjE fd (N.base fd) (N.ms++[m])=_
 rw[Zi8]
 rfl
theorem ZtN {m:Msg} {r:List Msg} (hq:N.q=m::r):Yq wd ((Zcv N).past wd f fd)=Yq wd (N.past wd f fd)++ZmR wd (ZoQ wd f fd (N.now fd) m):=by
 rw[Zqd hq,Zw5]
 congr 1
 exact List.flatMap_singleton ..
theorem Zrp (hk0:k≤1000) (hS:Sat e w (Ya n wd f fd N k::Q))
  (hno:Zcl wd f fd N≠0→∀w',Sat e w' (Ya n wd f fd N k::Q)→K (.tuple #[.agg Zak.zero.cs.toArray,.slice none 0 0,.int .i64 (Zcl wd f fd N)]) w')
  (hyes:Zcl wd f fd N=0→∀v w',Sat e w' (DI v (ZqQ wd (Zin wd f fd N))::Ya n wd f fd (Zcv N) (k+1)::Q)→K (.tuple #[.agg (ZfV (Zin wd f fd N)).cs.toArray,v,.int .i64 0]) w') :
  Cl prog 223 #[.pointer (some ⟨n,0,none⟩)] w K:=by
 refine ZgF ?_
 unfold ZgX
 rw[ZTC,ZTr]
 refine Yp (cs:=Zak.zero.cs) hS rfl λt2 w1 h1=>?_
 obtain ⟨X,q,p,g,b,mm,lv,hX,h2⟩:=Zb4 h1.swap
 have hok:=hX.ok
 have hEnd:X.End=wd.End:=congrArg Wd.End hX.eq
 refine Zh (Za (Zb h2 0 rfl (v:=.pointer (some ⟨q,0,none⟩)) rfl ?_))
 refine Zlv (h2.pick 1 rfl) λw3 h3=>?_
 refine Zam (Zal ?_)
 refine Yp (cs:=Msg.zero.cs) h3 rfl λt5 w4 h4=>?_
 refine Zq h4 0 rfl (vs:=(hdM N.q).cs) rfl rfl (by decide) (Zg _) (cs':=(hdM N.q).cs) (by rfl) λw5 h5=>?_
 replace h5:Sat e w5 (blk t5 81 (hdM N.q).cs::IsQ q N.q::BW n X f (N.now fd).1 (N.now fd).2 q p g b lv::Yf p N.fl (N.past wd f fd)::Yo g N.fl (Yq wd (N.past wd f fd))::Zag X::Zaj kI kI b mm::DD lv (N.log wd f fd)::blk t2 100 Zak.zero.cs::Q):=h5
 refine ZaY h5 λw6 h6=>?_
 have refuse:∀(er:Int) (w':World),Zcl wd f fd N=er→er≠0→Sat e w' (blk t5 81 (hdM N.q).cs::IsQ q N.q::BW n X f (N.now fd).1 (N.now fd).2 q p g b lv::Yf p N.fl (N.past wd f fd)::Yo g N.fl (Yq wd (N.past wd f fd))::Zag X::Zaj kI kI b mm::DD lv (N.log wd f fd)::blk t2 100 Zak.zero.cs::Q)→
   bld (Zl prog 100) #[(0,6),(6,1)] [] w' λt35 w=>stN 7 (.pointer (some ⟨t2,0,none⟩)) t35 w λ_ w=>ldN 7 (.pointer (some ⟨t2,0,none⟩)) w λr0 _=>K (Value.tuple #[r0,(Value.slice none 0 0),(Value.int IntKind.i64 er)]) w:=by
  intro er w' he hne h
  refine Zaf Zak.zero.cs (by kernel_rfl) ?_
  refine Zq h 8 rfl (vs:=Zak.zero.cs) rfl rfl (by decide) (Zg _) (cs':=Zak.zero.cs) (by kernel_rfl) λw7 h7=>?_
  refine Zo h7 8 (vs:=Zak.zero.cs) rfl (by rfl) rfl ?_
  subst he
  exact hno hne _ (ZbQ hX (h7.selR [_,_,_,_,_,_,_,_,_] [_,_,_,_,_,_,_] [2,1,3,4,5,6,7] (by decide) rfl))
 cases hq:ZjD N.q with
 | false=>
  refine Zch (Zd (Zd (Zd (Zd (Zd (Zd (Zd (Zd (Zd (Yv (Zi ?_)))))))))))
  exact refuse 150 _ (if_pos (λh=>by rw[hq] at h;cases h.1)) (by decide) h6
 | true=>
  refine ZaJ (Zj (Za (Zj (Za (Zj (Zb h6 0 rfl (v:=.int .i64 (hdM N.q).key.T) rfl ?_))))))
  refine Zj (Zj (Zwz (Zj (Za (Zj (Za (Zj (Zb h6 2 rfl (v:=.int .i64 X.End) rfl (Zj ?_)))))))))
  refine Zu5 (λc1=>Yd (Zi ?_)) (λc1=>Yd (Zf ?_))
  ·exact refuse 150 _ (if_pos (λh=>by have:=h.2;omega)) (by decide) h6
  have hc:¬¬(ZjD N.q=true∧(hdM N.q).key.T<wd.End):=λh=>h ⟨hq,by omega⟩
  refine Zh (Za (Zb h6 2 rfl (v:=.pointer (some ⟨p,0,none⟩)) rfl ?_))
  refine Znx (h6.pick 3 rfl) ?_
  have hpl:(N.past wd f fd).length=N.ms.length:=ZbA ..
  rw[hpl]
  have hml:=hok.ml
  by_cases c2:(64:Int)≤N.ms.length
  ·refine Zqv c2 (Zd (Zd (Zd (Zd (Zd (Zd (Zd (Yv (Zi ?_)))))))))
   exact refuse 2 _ (by unfold Zcl;rw[if_neg hc,if_pos (.inl (by omega))]) (by decide) h6
  refine ZnR c2 (Zj (Zj (Zwz (Zj (Za (Zj (Zb h6 2 rfl (v:=.pointer (some ⟨g,0,none⟩)) rfl (Zj ?_))))))))
  refine Zrw (h6.pick 4 rfl) (ZiV hok) λv48 w7 h7=>?_
  have hgl:=ZiV hok
  refine Zj (Zt h7 0 rfl (λ_=>Zp) (Zj ?_))
  rw[List.length_map]
  replace h7:Sat e w7 (Zz 81 6 Msg.cs v48 ((Yq wd (N.past wd f fd)).map Yz.m)::Yo g N.fl (Yq wd (N.past wd f fd))::blk t5 81 (hdM N.q).cs::IsQ q N.q::BW n X f (N.now fd).1 (N.now fd).2 q p g b lv::Yf p N.fl (N.past wd f fd)::Zag X::Zaj kI kI b mm::DD lv (N.log wd f fd)::blk t2 100 Zak.zero.cs::Q):=h7
  have h8:Sat e w7 (blk t5 81 (hdM N.q).cs::IsQ q N.q::BW n X f (N.now fd).1 (N.now fd).2 q p g b lv::Yf p N.fl (N.past wd f fd)::Yo g N.fl (Yq wd (N.past wd f fd))::Zag X::Zaj kI kI b mm::DD lv (N.log wd f fd)::blk t2 100 Zak.zero.cs::Q):=h7.selR [_,_,_,_,_,_,_,_,_,_] [_,_,_,_,_,_,_,_,_] [2,3,4,5,1,6,7,8,9] (by decide) rfl
  refine Ztu (λc3=>Yd (Zi ?_)) (λc3=>Yd (Zf ?_))
  ·exact refuse 2 _ (by unfold Zcl;rw[if_neg hc,if_pos (.inr (by omega))]) (by decide) h8
  have he:Zcl wd f fd N=0:=by unfold Zcl;rw[if_neg hc,if_neg (by omega)]
  obtain ⟨m,r,hmr⟩:=ZoL hq
  have hhd:hdM N.q=m:=by rw[hmr];rfl
  rw[hhd] at h8
  obtain ⟨⟨m',r',hmr',hmt⟩,_,_⟩:=Zr5 he
  rw[hmr] at hmr'
  obtain ⟨rfl,rfl⟩:=List.cons.inj hmr'
  clear h1 h2 h3 h4 h5 h6 h7 refuse hmr' hno
  obtain ⟨fx,hfx,rfl⟩:=hX.fed
  have hfxm:=List.mem_of_getElem? hfx
  have hsf:=hX.short.fed fx hfxm
  have hXp:X.Parents=wd.Parents:=congrArg Wd.Parents hX.eq
  refine Zh (Za (Zb h8 2 rfl (v:=.pointer (some ⟨q,0,none⟩)) rfl ?_))
  refine Zvc (h8.pick 1 rfl) λw9 h9=>?_
  rw[show N.q.tail=r from by rw[hmr];rfl] at h9
  replace h9:Sat e w9 (IsQ q r::blk t5 81 m.cs::BW n X f (N.now fx.f).1 (N.now fx.f).2 q p g b lv::Yf p N.fl (N.past wd f fx.f)::Yo g N.fl (Yq wd (N.past wd f fx.f))::Zag X::Zaj kI kI b mm::DD lv (N.log wd f fx.f)::blk t2 100 Zak.zero.cs::Q):=h9
  refine ZaY h9 λw10 h10=>?_
  refine Zh (Za (Za (Zb h10 2 rfl (v:=X.fv) rfl ?_)))
  refine Zh (Za (Zb h10 2 rfl (v:=.int .i64 f) rfl ?_))
  refine Zw h10 5 rfl (λg hg=>(Zct hg).feds) (λ_=>rfl) hfx λa ha=>?_
  refine Zbd ha λa1 ha1=>Yt h10 5 rfl ha1 (v:=fx.rv) rfl ?_
  refine Zh (Za (Zb h10 2 rfl (v:=.int .i64 (N.now fx.f).1) rfl ?_))
  refine Za (Zb h10 1 rfl (v:=.int .i64 m.Class) rfl ?_)
  refine Zkr (l:=fx.Rules) (s:=(N.now fx.f).1) (c:=m.Class) (h10.pick 5 rfl) (λg hg=>((Zct hg).fed fx hfxm).rules) hsf.rules hsf.sends λov w11 h11=>?_
  obtain ⟨so,hso⟩:∃so,so=ZbY fx.f.Rules (N.now fx.f).1 m.Class:=⟨_,rfl⟩
  have hso2:ZbY (fx.Rules.map Yg.r) (N.now fx.f).1 m.Class=so:=hso.symm
  rw[hso2] at h11 ⊢
  have houts:=ZlA hok.may (List.mem_of_getElem? hok.hfd) (N.now fx.f).1 m.Class
  rw[←hso] at houts
  refine Zam (Zal ?_)
  replace h11:Sat e w11 (Zz 102 3 Out.cs ov so.2::Zag X::IsQ q r::blk t5 81 m.cs::BW n X f (N.now fx.f).1 (N.now fx.f).2 q p g b lv::Yf p N.fl (N.past wd f fx.f)::Yo g N.fl (Yq wd (N.past wd f fx.f))::Zaj kI kI b mm::DD lv (N.log wd f fx.f)::blk t2 100 Zak.zero.cs::Q):=h11
  refine ZaY h11 λw12 h12=>?_
  refine Zh (Za (Zo h12 4 (vs:=X.cs) rfl (by rfl) rfl ?_))
  refine Zh (Za (Zb h12 4 rfl (v:=.int .i64 f) rfl ?_))
  refine Zh (Za (Zb h12 4 rfl (v:=.int .i64 (N.now fx.f).2) rfl ?_))
  refine Za (Za (Zb h12 3 rfl (v:=.int .i64 m.key.T) rfl ?_))
  refine Za (Zb h12 3 rfl (v:=.int .i64 m.Body) rfl ?_)
  have hsu:=hok.sent
  refine Zog (x:=X) (outs:=so.2) 1 0 rfl rfl h12 (λg hg=>Zct hg) (λ_=>Zp) hX.short (by rw[hXp];exact hok.may.tree) (λo ho=>by rw[hXp];exact (houts.2 o ho).1) (by omega) ⟨by omega,by omega⟩ λmv w13 h13=>?_
  obtain ⟨en,hen⟩:∃en,en=ZoQ wd f fx.f (N.now fx.f) m:=⟨_,rfl⟩
  have hsp:Zau X.w.Parents X.w.Feds f (N.now fx.f).2 m.key.T m.Body so.2=en.outs:=by rw[hX.eq,hso,hen];rfl
  rw[hsp] at h13
  have hent:=ZnV hok.may hok.hfd (N.now fx.f) m
  rw[←hen] at hent
  refine ZaY h13 λw14 h14=>?_
  refine Zh (Za (Zb h14 5 rfl (v:=.pointer (some ⟨p,0,none⟩)) rfl ?_))
  refine Zo h14 4 (vs:=m.cs) rfl (by rfl) rfl ?_
  refine Zh (Za (Zb h14 5 rfl (v:=.int .i64 (N.now fx.f).1) rfl ?_))
  refine Zh (Za (Zb h14 5 rfl (v:=.int .i64 (N.now fx.f).2) rfl ?_))
  obtain ⟨A,cp,hmv,_⟩:=h14.shape 0 rfl (λ_=>Zp)
  subst hmv
  generalize hmv:Value.slice A en.outs.length cp=mv at h14
  refine Zaf (EnX.cs ⟨m,(N.now fx.f).1,(N.now fx.f).2,so.1,.slice A en.outs.length cp,en.outs⟩) (by kernel_rfl) ?_
  rw[hmv]
  have qm:=h14.own_cells 0 rfl
  refine ⟨Zb h14 5 rfl (v:=.pointer (some ⟨p,0,none⟩)) rfl ⟨rfl,rfl⟩,?_⟩
  replace h14:Sat e w14 (Zz 81 6 Msg.cs mv en.outs::Zz 102 3 Out.cs ov so.2::Zag X::IsQ q r::blk t5 81 m.cs::BW n X f (N.now fx.f).1 (N.now fx.f).2 q p g b lv::Yf p N.fl (N.past wd f fx.f)::Yo g N.fl (Yq wd (N.past wd f fx.f))::Zaj kI kI b mm::DD lv (N.log wd f fx.f)::blk t2 100 Zak.zero.cs::Q):=h14
  have hfl:¬m.key.T<N.fl:=by
   have:=hok.hi m (by rw[hmr];simp)
   omega
  have hup:Upk (N.ms++[m]):=by
   have:=hok.line
   rw[hmr,show N.ms++m::r=(N.ms++[m])++r from by simp] at this
   exact this.left
  refine Zri (x:=⟨m,(N.now fx.f).1,(N.now fx.f).2,so.1,mv,en.outs⟩) 0 rfl (show en.outs.length≤1000 by omega) (λ_=>Zp) hfl (Zyo hup) (show (N.past wd f fx.f).length<64 by omega) (h14.pick 6 rfl) λw15 h15=>?_
  rw[show EnX.e ⟨m,(N.now fx.f).1,(N.now fx.f).2,so.1,mv,en.outs⟩=en from by rw[hso,hen];rfl] at h15
  replace h15:Sat e w15 (Yf p N.fl (N.past wd f fx.f++[en])::Zz 81 6 Msg.cs mv en.outs::Zz 102 3 Out.cs ov so.2::Zag X::IsQ q r::blk t5 81 m.cs::BW n X f (N.now fx.f).1 (N.now fx.f).2 q p g b lv::Yo g N.fl (Yq wd (N.past wd f fx.f))::Zaj kI kI b mm::DD lv (N.log wd f fx.f)::blk t2 100 Zak.zero.cs::Q):=h15
  refine Zh (Za (Zb h15 6 rfl (v:=.int .i64 (N.now fx.f).2) rfl ?_))
  refine Zt h15 2 rfl (λ_=>Zp) (ZcD (by omega) (by omega) ?_)
  have hnb:Zhz fx.f (N.now fx.f) m=(so.1,(N.now fx.f).2+so.2.length):=by rw[hso];rfl
  refine Zh (Za (Zq h15 6 rfl (vs:=Yi [so.1]) rfl rfl (Nat.le_of_ble_eq_true rfl) (Zg _) (cs':=wcs X f so.1 (N.now fx.f).2 q p g b lv) (by rfl) λw16 h16=>?_))
  refine Zh (Za (Zq h16 6 rfl (vs:=Yi [(N.now fx.f).2+so.2.length]) rfl rfl (Nat.le_of_ble_eq_true rfl) (Zg _) (cs':=wcs X f so.1 ((N.now fx.f).2+so.2.length) q p g b lv) (by rfl) λw17 h17=>?_))
  replace h17:Sat e w17 (Yf p N.fl (N.past wd f fx.f++[en])::Zz 81 6 Msg.cs mv en.outs::Zz 102 3 Out.cs ov so.2::Zag X::IsQ q r::blk t5 81 m.cs::BW n X f so.1 ((N.now fx.f).2+so.2.length) q p g b lv::Yo g N.fl (Yq wd (N.past wd f fx.f))::Zaj kI kI b mm::DD lv (N.log wd f fx.f)::blk t2 100 Zak.zero.cs::Q):=h17
  refine Zt h17 1 rfl (λ_=>Zp) ?_
  refine ZjF (λq' t10 t132 w=>∃i:Nat,i≤en.outs.length∧t132=.int .i64 i∧q'=en.outs.length - i∧Sat e w (DI t10 (((en.outs.take i).filter λm=>Zci wd m.To).map Zae)::Yo g N.fl (Yq wd (N.past wd f fx.f)++((en.outs.take i).filter λm=>!Zci wd m.To).map λo=>⟨m.key,o⟩)::Yf p N.fl (N.past wd f fx.f++[en])::Zz 81 6 Msg.cs mv en.outs::Zag X::IsQ q r::blk t5 81 m.cs::BW n X f so.1 ((N.now fx.f).2+so.2.length) q p g b lv::Zaj kI kI b mm::DD lv (N.log wd f fx.f)::blk t2 100 Zak.zero.cs::Q)) en.outs.length
   ⟨0,Nat.zero_le _,rfl,rfl,?_⟩ ?_
  ·rw[List.take_zero,List.filter_nil,List.filter_nil,List.map_nil,List.map_nil,List.append_nil]
   exact (h17.selR [_,_,_,_,_,_,_,_,_,_,_] [_,_,_,_,_,_,_,_,_,_] [7,0,1,3,4,5,6,8,9,10] (by decide) rfl).own_nil 84 8 Zn.cs
  rintro q' t10 _ w g1 ⟨i,hi,rfl,rfl,h18⟩ hg1
  refine Za7 (λd=>Zi ?_) (λd=>Zf ?_)
  ·obtain ⟨o,ho⟩:=Zk (l:=en.outs) (j:=i) (by omega)
   have hot:=hent.2 o (List.mem_of_getElem? ho)
   have hfs1:=Zdw (p:=λm=>Zci wd m.To) ho
   have hfs2:=Zdw (p:=λm=>!Zci wd m.To) ho
   have hl1:=List.length_filter_le (λm=>Zci wd m.To) (en.outs.take i)
   have hl2:=List.length_filter_le (λm=>!Zci wd m.To) (en.outs.take i)
   rw[List.length_take] at hl1 hl2
   refine J1.cut (λt10' w=>Sat e w (DI t10' (((en.outs.take (i+1)).filter λm=>Zci wd m.To).map Zae)::Yo g N.fl (Yq wd (N.past wd f fx.f)++((en.outs.take (i+1)).filter λm=>!Zci wd m.To).map λo=>⟨m.key,o⟩)::Yf p N.fl (N.past wd f fx.f++[en])::Zz 81 6 Msg.cs mv en.outs::Zag X::IsQ q r::blk t5 81 m.cs::BW n X f so.1 ((N.now fx.f).2+so.2.length) q p g b lv::Zaj kI kI b mm::DD lv (N.log wd f fx.f)::blk t2 100 Zak.zero.cs::Q)) (λk2 hk2=>?_) ?_
   ·refine Zw h18 3 rfl (λ_=>Zp) (λ_=>rfl) ho λa ha=>Ym h18 3 rfl ha rfl ?_
    refine Yp (cs:=Msg.zero.cs) h18 rfl λt12 w19 h19=>?_
    refine Zq h19 0 rfl (vs:=o.cs) rfl rfl (by decide) (Zg _) (cs':=o.cs) (by rfl) λw20 h20=>?_
    replace h20:Sat e w20 (blk t12 81 o.cs::DI t10 (((en.outs.take i).filter λm=>Zci wd m.To).map Zae)::Yo g N.fl (Yq wd (N.past wd f fx.f)++((en.outs.take i).filter λm=>!Zci wd m.To).map λo=>⟨m.key,o⟩)::Yf p N.fl (N.past wd f fx.f++[en])::Zz 81 6 Msg.cs mv en.outs::Zag X::IsQ q r::blk t5 81 m.cs::BW n X f so.1 ((N.now fx.f).2+so.2.length) q p g b lv::Zaj kI kI b mm::DD lv (N.log wd f fx.f)::blk t2 100 Zak.zero.cs::Q):=h20
    refine Za (Zb h20 0 rfl (v:=.int .i64 o.To) rfl ?_)
    refine ZxA ⟨hot.1,by rw[hX.len];exact hot.2.1⟩ 8 5 rfl rfl h20 ?_
    rw[hX.eq]
    cases hb:Zci wd o.To with
    | true=>
     refine Zi (Zo h20 0 (vs:=o.cs) rfl (by rfl) rfl ?_)
     refine Zaf (Zae o).cs (by kernel_rfl) ?_
     refine Zj7 ZRB (f:=Zn.cs) (λ_=>rfl) (λ_=>Zg _) (h20.pick 1 rfl) (x:=Zae o) rfl (by rw[List.length_map];omega) λv' w21 h21=>?_
     refine hk2 _ _ ?_
     rw[hfs1,hfs2,hb]
     simp only[if_true,List.map_append,List.map_singleton,Bool.not_true,Bool.false_eq_true,if_false,List.append_nil]
     exact h21.selR [_,_,_,_,_,_,_,_,_,_,_,_] [_,_,_,_,_,_,_,_,_,_,_] [0,2,3,4,5,6,7,8,9,10,11] (by decide) rfl
    | false=>
     refine Zf (ZaY h20 λw21 h21=>?_)
     refine Zh (Za (Zb h21 8 rfl (v:=.pointer (some ⟨g,0,none⟩)) rfl ?_))
     refine Za (Zo h21 7 (vs:=m.key.cs) rfl (by rfl) rfl (Zo h21 0 (vs:=o.cs) rfl (by rfl) rfl ?_))
     have hgl2:(Yq wd (N.past wd f fx.f)++((en.outs.take i).filter λm=>!Zci wd m.To).map λo=>(⟨m.key,o⟩:Yz)).length<256:=by
      rw[List.length_append,List.length_map]
      omega
     refine Zrq m.key o (h21.pick 2 rfl) (by omega) λw22 h22=>?_
     have hhold:ZsN N.fl (Yq wd (N.past wd f fx.f)++((en.outs.take i).filter λm=>!Zci wd m.To).map λo=>(⟨m.key,o⟩:Yz)) m.key o=Yq wd (N.past wd f fx.f)++(((en.outs.take i).filter λm=>!Zci wd m.To).map λo=>(⟨m.key,o⟩:Yz))++[⟨m.key,o⟩]:=by
      unfold ZsN
      rw[if_neg hfl,if_neg (by omega)]
     rw[hhold] at h22
     refine hk2 _ _ ?_
     rw[hfs1,hfs2,hb]
     simp only[Bool.not_false,if_true,List.map_append,List.map_singleton,Bool.false_eq_true,if_false,List.append_nil]
     rw[←List.append_assoc]
     exact h22.selR [_,_,_,_,_,_,_,_,_,_,_,_] [_,_,_,_,_,_,_,_,_,_,_] [2,0,3,4,5,6,7,8,9,10,11] (by decide) rfl
   ·intro t10' w19 h19
    refine Yr (by omega) ?_
    exact hg1 _ _ _ _ (by omega) ⟨i+1,by omega,rfl,rfl,h19⟩
  ·have ei:i=en.outs.length:=by omega
   rw[ei,List.take_length] at h18
   refine Zo h18 6 (vs:=m.cs) rfl (by rfl) rfl ?_
   refine Zaf (⟨m,so.1⟩:Zak).cs (by kernel_rfl) ?_
   refine Zq h18 10 rfl (vs:=(⟨m,so.1⟩:Zak).cs) rfl rfl (Nat.le_of_ble_eq_true rfl) (Zg _) (cs':=(⟨m,so.1⟩:Zak).cs) (by rfl) λw19 h19=>?_
   refine Zo h19 10 (vs:=(⟨m,so.1⟩:Zak).cs) rfl (by rfl) rfl ?_
   have hsE:Zin wd f fx.f N=en:=by rw[hen];unfold Zin;rw[hhd]
   have hdE:ZfV en=⟨m,so.1⟩:=by rw[hen,hso];rfl
   rw[hsE,hdE] at hyes
   refine hyes he t10 _ ?_
   have hn2:(Zcv N).now fx.f=(so.1,(N.now fx.f).2+so.2.length):=by rw[Zwi hmr,hnb]
   have hp2:(Zcv N).past wd f fx.f=N.past wd f fx.f++[en]:=by rw[Zqd hmr,hen]
   have hg2:Yq wd ((Zcv N).past wd f fx.f)=Yq wd (N.past wd f fx.f)++(en.outs.filter λm=>!Zci wd m.To).map λo=>⟨m.key,o⟩:=by rw[ZtN hmr,←hen];congr 1;unfold ZmR;rw[hen];rfl
   have hq2:(Zcv N).q=r:=by rw[ZiD hmr]
   have h20:=ZbQ (N:=Zcv N) (X:=X) (q:=q) (p:=p) (g:=g) (b:=b) (m:=mm) (lv:=lv) (k:=k+1) (n:=n) (f:=f) (wd:=wd) (fd:=fx.f) ⟨hX.eq,hX.short,hok.step he,hX.map⟩ (Q:=DI t10 ((en.outs.filter λm=>Zci wd m.To).map Zae)::Q) (e:=e) (w:=w19) (by
    rw[hn2,hg2,hp2,hq2]
    exact h19.selR [_,_,_,_,_,_,_,_,_,_,_] [_,_,_,_,_,_,_,_] [7,5,2,1,4,8,9,0] (by decide) rfl)
   exact h20.swap
def ZAM (wd:Wd) (f:Nat):Nd→Prop
 | .slow N=>Zzg N∧QOk N.q
 | .bold N _ _=>∃k,WOk wd f (Zs wd f) N k
def ZtC (wd:Wd) (f:Nat) (n n':Nd):Prop:=∃l,n'.log wd f=n.log wd f++l
def KOk (wd:Wd) (k:KS):Prop:=∀f,f<k.nodes.length→ZAM wd f (k.node f)
def ZdM (wd:Wd) (k k':KS):Prop:=k'.nodes.length=k.nodes.length∧∀f,ZtC wd f (k.node f) (k'.node f)
theorem ZtC.refl (f:Nat) (n:Nd):ZtC wd f n n:=⟨[],(List.append_nil _).symm⟩
theorem ZdM.refl (k:KS):ZdM wd k k:=⟨rfl,λf=>ZtC.refl f _⟩
theorem ZdM.trans {a b c:KS} (h:ZdM wd a b) (h':ZdM wd b c):ZdM wd a c:=⟨h'.1.trans h.1,λf=>by
 obtain ⟨l,hl⟩:=h.2 f
 obtain ⟨l',hl'⟩:=h'.2 f
 exact ⟨l++l',by rw[hl',hl,List.append_assoc]⟩⟩
theorem KOk.setN {k:KS} (h:KOk wd k) {a:Nat} {n:Nd} (hn:a<k.nodes.length→ZAM wd a n∧ZtC wd a (k.node a) n):KOk wd (k.setN a n)∧ZdM wd k (k.setN a n):=by
 have hlen:(k.setN a n).nodes.length=k.nodes.length:=List.length_set
 refine ⟨λf hf=>?_,hlen,λf=>?_⟩
 ·rw[hlen] at hf
  rw[ZaK]
  split
  ·rename_i h1
   rw[←h1.1]
   exact (hn h1.2).1
  ·exact h f hf
 ·rw[ZaK]
  split
  ·rename_i h1
   rw[←h1.1]
   exact (hn h1.2).2
  ·exact ZtC.refl f _
theorem ZwM (wd:Wd) (f:Nat) (fd:Fed) (N:WN) (j:Int) (i:Zn):(ZbE wd f fd N j i).N.old=N.old:=by
 have h6:∀{c:Prop} [Decidable c] {a b:HR},a.N.old=N.old→b.N.old=N.old→(if c then a else b).N.old=N.old:=by
  intro c _ a b ha hb
  split
  ·exact ha
  ·exact hb
 unfold ZbE
 exact h6 rfl (h6 (h6 rfl (h6 rfl rfl)) (h6 (h6 rfl (h6 rfl (h6 rfl rfl))) (h6 (h6 rfl (h6 rfl (h6 rfl (h6 rfl (h6 rfl rfl))))) rfl)))
theorem Zsl {N:ND} (h:QOk N.q) (j:Int) (i:Zn):QOk (Zd0 N j i).q:=by
 unfold Zd0
 split
 ·exact h
 ·split
  ·exact h.push _
  ·exact h
theorem Ztf (c:Clk) (a b:Int):(c.tell a b).bound=c.bound:=by
 unfold Clk.tell
 split <;> rfl
theorem Zpg {N:ND} (h:Zzg N) (fd:Fed):Zzg (ZiG fd N):=⟨h.up,λd hd=>by
 show _∧_<(N.clk.tell (Zcd N) fd.Look).bound
 rw[Ztf]
 exact h.ahead d hd⟩
theorem ZlX {k:KS} (h:KOk wd k) (t:Int):KOk wd (k.settle wd t)∧ZdM wd k (k.settle wd t):=by
 unfold KS.settle
 generalize List.range k.nodes.length=l
 induction l generalizing k with
 | nil=>exact ⟨h,ZdM.refl k⟩
 | cons f l ih=>
  have one:∀k':KS,KOk wd k'→ZdM wd k k'→KOk wd (l.foldl (λk f=>match k.node f with
   | .slow _=>k
   | .bold N r told=>if ZaB N t=0 then (k.setN f (.bold (Ys N t) r told)).put f (((Yq wd (ZaC wd f (Zs wd f) N t)).map Yz.m).map Zae) else k) k')∧ZdM wd k (l.foldl (λk f=>match k.node f with
   | .slow _=>k
   | .bold N r told=>if ZaB N t=0 then (k.setN f (.bold (Ys N t) r told)).put f (((Yq wd (ZaC wd f (Zs wd f) N t)).map Yz.m).map Zae) else k) k'):=λk' h1 h2=>by
   obtain ⟨h3,h4⟩:=ih h1
   exact ⟨h3,h2.trans h4⟩
  rw[List.foldl_cons]
  cases hn:k.node f with
  | slow N=>exact one _ h (ZdM.refl k)
  | bold N r told=>
   dsimp only
   split
   ·rename_i he
    obtain ⟨g1,g2⟩:=h.setN (a:=f) (n:=.bold (Ys N t) r told) λhf=>by
     have h1:=h f hf
     rw[hn] at h1
     obtain ⟨m,hW⟩:=h1
     refine ⟨⟨m,hW.commit he⟩,(ZaC wd f (Zs wd f) N t).map ZfV,?_⟩
     rw[hn]
     exact ZnH t
    exact one _ g1 g2
   ·exact one _ h (ZdM.refl k)
theorem ZrD {k k':KS} (h1:KOk wd k') (h2:ZdM wd k k') (t:Int):KOk wd (k'.settle wd t)∧ZdM wd k (k'.settle wd t):=⟨(ZlX h1 t).1,h2.trans (ZlX h1 t).2⟩
theorem ZzL {k:KS} (h:KOk wd k) (kind a b:Nat):KOk wd (k.do' wd kind a b).2∧ZdM wd k (k.do' wd kind a b).2:=by
 have same:KOk wd k∧ZdM wd k k:=⟨h,ZdM.refl k⟩
 unfold KS.do'
 split
 ·unfold KS.step
  split
  ·exact same
  ·split
   ·rename_i N hn
    split
    ·rename_i hs
     exact h.setN (a:=a) (n:=.slow (Zmn (Zs wd a) N)) λha=>by
      have h1:=h a ha
      rw[hn] at h1 ⊢
      exact ⟨⟨Zps h1.1 h1.2 hs,h1.2.tail⟩,[ZmU (Zs wd a) N],rfl⟩
    ·exact same
   ·rename_i N r t hn
    split
    ·rename_i he
     exact h.setN (a:=a) (n:=.bold (Zcv N) r t) λha=>by
      have h1:=h a ha
      rw[hn] at h1 ⊢
      obtain ⟨m,hW⟩:=h1
      exact ⟨⟨m+1,hW.step he⟩,[],(List.append_nil _).symm⟩
    ·exact same
 ·unfold KS.flush
  split
  ·exact same
  ·split
   ·exact same
   ·dsimp only
    split
    ·exact same
    ·exact same
 ·unfold KS.deliver
  split
  ·exact same
  ·rename_i i r hb
   dsimp only
   split
   ·exact same
   ·have hs:KOk wd (k.setN b (k.hears wd a b i).2.2)∧ZdM wd k (k.setN b (k.hears wd a b i).2.2):=h.setN λhbl=>by
     have h1:=h b hbl
     unfold KS.hears
     cases hn:k.node b with
     | slow N=>
      rw[hn] at h1
      obtain ⟨⟨e1,_⟩,_⟩:=Zmf N a i
      exact ⟨⟨Zpb h1.1 _ _,Zsl h1.2 _ _⟩,[],by rw[List.append_nil];exact e1⟩
     | bold N rk t=>
      rw[hn] at h1
      obtain ⟨m,hW⟩:=h1
      refine ⟨⟨m,hW.hear _ _⟩,[],?_⟩
      rw[List.append_nil]
      show (Zc8 wd b (Zs wd b) (ZxV (Zs wd b)) (ZbE wd b (Zs wd b) N a i).N.old).map ZfV=_
      rw[ZwM]
      rfl
    split
    ·exact hs
    ·exact hs
 ·unfold KS.tell
  split
  ·exact same
  ·split
   ·rename_i N hn
    split
    ·exact h.setN (a:=a) (n:=.slow (ZiG (Zs wd a) N)) λha=>by
      have h1:=h a ha
      rw[hn] at h1 ⊢
      exact ⟨⟨Zpg h1.1 _,h1.2⟩,[],(List.append_nil _).symm⟩
    ·exact same
   ·rename_i N r t hn
    split
    ·exact same
    ·exact h.setN (a:=a) (n:=.bold N r (Za6 (Zs wd a) N)) λha=>by
      have h1:=h a ha
      rw[hn] at h1 ⊢
      exact ⟨h1,[],(List.append_nil _).symm⟩
 ·unfold KS.begin'
  split
  ·exact same
  ·split
   ·exact same
   ·exact same
 ·unfold KS.turn
  split
  ·split
   ·exact same
   ·exact same
  ·exact same
 ·unfold KS.report
  split
  ·split
   ·exact same
   ·split
    ·exact same
    ·dsimp only
     split
     ·show KOk wd (KS.settle wd _ _)∧ZdM wd k (KS.settle wd _ _)
      refine ZrD ?_ ?_ _
      ·exact h
      ·exact ZdM.refl k
     ·exact same
  ·exact same
theorem Zya (t:Int):Yu (ZaD t)=true:=by
 unfold Yu
 rw[decide_eq_true_iff]
 unfold ZaD Inf Zsq
 (repeat' split) <;> omega
theorem ZjT (a b:Int):Yu (ZvS a b)=true:=Zya _
theorem ZsR {a b:Int} (ha:Yu a=true) (hb:Yu b=true):Yu (min a b)=true:=by
 unfold Yu at*
 rw[decide_eq_true_iff] at*
 unfold Inf Zsq at*
 omega
theorem Zo9:∀l:List Int,Yu (ZaP l)=true:=by
 have key:∀(l:List Int) (n:Int),Yu n=true→Yu (l.foldl (λn t=>min n (ZaD t)) n)=true:=by
  intro l
  induction l with
  | nil=>exact λn h=>h
  | cons t l ih=>exact λn h=>ih _ (ZsR h (Zya t))
 exact λl=>key l Inf (by decide)
theorem Zmc {t:Int} (h:Yu t=true):0≤t∧t≤Inf∧ZmY t:=by
 unfold Yu at h
 rw[decide_eq_true_iff] at h
 unfold ZmY
 unfold Inf Zsq at*
 omega
structure Zb8 (n:Nat) (i:Zn):Prop where
 kind:0≤i.Kind∧i.Kind≤2
 col:0≤i.Colour∧i.Colour≤1
 to:0≤i.m.To∧i.m.To<n
 time:Yu i.m.key.T=true
def Zrh (n:Nat) (m:Msg):Prop:=(0≤m.To∧m.To<n)∧Yu m.key.T=true
structure ZeV (c:CL) (m s:Nat):Prop where
 t:c.T.length=m
 r:c.Rp.length=m
 begun:0≤c.begun∧c.begun≤s
 over:0≤c.over∧c.over≤c.begun
 on:(0≤c.on0∧c.on0≤s)∧0≤c.on1∧c.on1≤s
def Zai (wd:Wd):Nat:=(wd.Feds.filter λf=>!decide (f.Kind=0)).length
structure Ze1 (wd:Wd) (k:KS) (s:Nat):Prop where
 may:ZoS wd
 ok:KOk wd k
 nl:k.nodes.length=wd.Feds.length
 bl:k.boxes.length=wd.Feds.length
 netl:k.net.length=wd.Feds.length
 rowl:∀a,a<wd.Feds.length→(k.net.getD a []).length=wd.Feds.length
 box:∀a,∀i∈k.box a,Zb8 wd.Feds.length i
 q:∀a b,∀i∈k.q a b,Zb8 wd.Feds.length i
 self:∀a,k.q a a=[]
 rank:∀a,a<wd.Feds.length→(k.node a).isBold=true→(k.node a).rank<Zai wd
 kind:∀a,a<wd.Feds.length→(k.node a).isBold=!decide ((Zs wd a).Kind=0)
 cut:if Zai wd=0 then k.cut=none else ∃c,k.cut=some c∧ZeV c (Zai wd) s
 len:∀a,(k.box a).length≤40000*(s+1)
theorem Zi2 {ps:List Int} {feds:List Fed} {f seq now body:Int} {outs:List Out} {m:Msg} (h:m∈Zau ps feds f seq now body outs):Zrh feds.length m:=by
 obtain ⟨i,o,to,_,h2,rfl⟩:=Znf h
 exact ⟨⟨(ZhA h2).1,(ZhA h2).2.1⟩,ZjT _ _⟩
theorem Zb8.plain {n:Nat} {m:Msg} (h:Zrh n m):Zb8 n (Zae m):=⟨⟨Int.le_refl 0,show (0:Int)≤2 by decide⟩,⟨Int.le_refl 0,show (0:Int)≤1 by decide⟩,h.1,h.2⟩
theorem Zb8.anti {n:Nat} {m:Msg} (h:Zrh n m):Zb8 n (Zs1 m):=⟨⟨show (0:Int)≤1 by decide,show (1:Int)≤2 by decide⟩,⟨Int.le_refl 0,show (0:Int)≤1 by decide⟩,h.1,h.2⟩
theorem ZxX {f:Nat} {fd:Fed} {b:Int × Int} {l:List Msg} {x:En} (h:x∈Zc8 wd f fd b l) {m:Msg} (hm:m∈x.outs):Zrh wd.Feds.length m:=by
 obtain ⟨_,b',hx⟩:=Zdm h
 rw[hx] at hm
 exact Zi2 hm
theorem Zz9 {f:Nat} {fd:Fed} {b:Int × Int} {x:Msg} {m:Msg} (hm:m∈(ZoQ wd f fd b x).outs):Zrh wd.Feds.length m:=Zi2 hm
theorem ZzU {f:Nat} {fd:Fed} {b:Int × Int} {l:List Msg} {i:Zn} (h:i∈Zk4 wd (Zc8 wd f fd b l)):Zb8 wd.Feds.length i:=by
 unfold Zk4 at h
 obtain ⟨x,hx,hi⟩:=List.mem_flatMap.1 h
 unfold Zjg at hi
 obtain ⟨m,hm,rfl⟩:=List.mem_map.1 hi
 exact .anti (ZxX (List.mem_reverse.1 hx) (List.mem_filter.1 hm).1)
theorem ZAj {f:Nat} {fd:Fed} {b:Int × Int} {l:List Msg} {i:Zn} (h:i∈((Yq wd (Zc8 wd f fd b l)).map Yz.m).map Zae):Zb8 wd.Feds.length i:=by
 obtain ⟨m,hm,rfl⟩:=List.mem_map.1 h
 obtain ⟨y,hy,rfl⟩:=List.mem_map.1 hm
 unfold Yq at hy
 obtain ⟨x,hx,hy⟩:=List.mem_flatMap.1 hy
 exact .plain (ZxX hx (ZbU hy).2.1)
theorem Zls {f:Nat} {fd:Fed} {N:WN} {j:Int} {i:Zn}:(ZbE wd f fd N j i).out=[]∨(ZbE wd f fd N j i).out=Zk4 wd (ZiU wd f fd N i.m.key):=by
 have h6:∀{c:Prop} [Decidable c] {a b:HR} {l:List Zn},(a.out=[]∨a.out=l)→(b.out=[]∨b.out=l)→((if c then a else b).out=[]∨(if c then a else b).out=l):=by
  intro c _ a b l ha hb
  split
  ·exact ha
  ·exact hb
 have o:∀{a:HR} {l:List Zn},a.out=[]→(a.out=[]∨a.out=l):=λh=>.inl h
 unfold ZbE
 exact h6 (o rfl) (h6 (h6 (o rfl) (h6 (o rfl) (o rfl))) (h6 (h6 (o rfl) (h6 (o rfl) (h6 (o rfl) (.inr rfl)))) (h6 (h6 (o rfl) (h6 (o rfl) (h6 (o rfl) (h6 (o rfl) (h6 (o rfl) (.inr rfl)))))) (o rfl))))
theorem Zn5 {α β:Type} (g:α→List β) (c:Nat):∀l:List α,(∀a∈l,(g a).length≤c)→(l.flatMap g).length≤l.length*c
 | [],_=>by simp
 | a::l,h=>by
  rw[List.flatMap_cons,List.length_append,List.length_cons,Nat.add_mul]
  have h1:=h a (List.mem_cons_self ..)
  have h2:=Zn5 g c l λx hx=>h x (List.mem_cons_of_mem _ hx)
  omega
theorem Zge (h:ZoS wd) {f:Nat} {fd:Fed} (hfd:wd.Feds[f]?=some fd) {b:Int × Int} {x:Msg}:(ZoQ wd f fd b x).outs.length≤24:=by
 have h1:=Zoj h hfd b.1 x.Class
 have h2:=ZcU wd.Parents wd.Feds f b.2 x.key.T x.Body (ZbY fd.Rules b.1 x.Class).2
 have h3:=Nat.mul_le_mul h1 h.n.2
 exact Nat.le_trans h2 h3
theorem Zuf (h:ZoS wd) {f:Nat} {fd:Fed} (hfd:wd.Feds[f]?=some fd) {b:Int × Int} {l:List Msg} {x:En} (hx:x∈Zc8 wd f fd b l):x.outs.length≤24:=by
 obtain ⟨_,b',hx'⟩:=Zdm hx
 rw[hx']
 exact Zge h hfd
theorem ZrY (h:ZoS wd) {f:Nat} {fd:Fed} (hfd:wd.Feds[f]?=some fd) {b:Int × Int} {l:List Msg}:(Zk4 wd (Zc8 wd f fd b l)).length≤l.length*24:=by
 unfold Zk4
 have:=Zn5 (Zjg wd) 24 (Zc8 wd f fd b l).reverse λx hx=>by
  unfold Zjg
  rw[List.length_map]
  exact Nat.le_trans (List.length_filter_le _ _) (Zuf h hfd (List.mem_reverse.1 hx))
 rwa [List.length_reverse,ZbA] at this
theorem Zxq (h:ZoS wd) {f:Nat} {fd:Fed} (hfd:wd.Feds[f]?=some fd) {b:Int × Int} {l:List Msg}:(Yq wd (Zc8 wd f fd b l)).length≤l.length*24:=by
 unfold Yq
 have:=Zn5 (ZmR wd) 24 (Zc8 wd f fd b l) λx hx=>by
  unfold ZmR
  rw[List.length_map]
  exact Nat.le_trans (List.length_filter_le _ _) (Zuf h hfd hx)
 rwa [ZbA] at this
theorem ZaN {a:Nat} (ha:a<wd.Feds.length):wd.Feds[a]?=some (Zs wd a):=by
 unfold Zs
 rw[List.getD_eq_getElem?_getD,List.getElem?_eq_getElem ha]
 rfl
theorem Ze1.mono {k:KS} {s t:Nat} (h:Ze1 wd k s) (hs:s≤t):Ze1 wd k t:=by
 refine ⟨h.may,h.ok,h.nl,h.bl,h.netl,h.rowl,h.box,h.q,h.self,h.rank,h.kind,?_,λa=>Nat.le_trans (h.len a) (by omega)⟩
 have:=h.cut
 split
 ·rename_i hb
  rwa [if_pos hb] at this
 ·rename_i hb
  rw[if_neg hb] at this
  obtain ⟨c,hc,h1,h2,h3,h4,h5⟩:=this
  exact ⟨c,hc,h1,h2,by omega,h4,by omega⟩
structure ZdF (wd:Wd) (k:KS) (s:Nat) (n:Nat):Prop where
 inv:Ze1 wd { k with boxes:=List.replicate wd.Feds.length [] } s
 bl:k.boxes.length=wd.Feds.length
 box:∀a,∀i∈k.box a,Zb8 wd.Feds.length i
 len:∀a,(k.box a).length≤n
theorem ZsB (k:KS) (n a:Nat):KS.box { k with boxes:=List.replicate n [] } a=[]:=by
 unfold KS.box
 rw[List.getD_eq_getElem?_getD,List.getElem?_replicate]
 split <;> rfl
theorem ZlO {k:KS} {n m:Nat}:∀a,∀i∈KS.box { k with boxes:=List.replicate n [] } a,Zb8 m i:=λa i hi=>by
 rw[ZsB] at hi
 cases hi
theorem Zii {k:KS} {n m:Nat}:∀a,(KS.box { k with boxes:=List.replicate n [] } a).length≤m:=λa=>by
 rw[ZsB]
 exact Nat.zero_le _
theorem Ze1.pre {k:KS} {s:Nat} (h:Ze1 wd k s):ZdF wd k s (40000*(s+1)):=
 ⟨⟨h.may,h.ok,h.nl,List.length_replicate,h.netl,h.rowl,ZlO,h.q,h.self,h.rank,h.kind,h.cut,Zii⟩,h.bl,h.box,h.len⟩
theorem ZdF.all {k:KS} {s n:Nat} (h:ZdF wd k s n) (hn:n≤40000*(s+1)):Ze1 wd k s:=
 ⟨h.inv.may,h.inv.ok,h.inv.nl,h.bl,h.inv.netl,h.inv.rowl,h.box,h.inv.q,h.inv.self,h.inv.rank,h.inv.kind,h.inv.cut,λa=>Nat.le_trans (h.len a) hn⟩
theorem ZdF.mono {k:KS} {s t n m:Nat} (h:ZdF wd k s n) (hs:s≤t) (hn:n≤m):ZdF wd k t m:=⟨h.inv.mono hs,h.bl,h.box,λa=>Nat.le_trans (h.len a) hn⟩
theorem ZdF.put {k:KS} {s n:Nat} (h:ZdF wd k s n) {a m:Nat} {l:List Zn} (hl:∀i∈l,Zb8 wd.Feds.length i) (hm:l.length≤m):ZdF wd (k.put a l) s (n+m):=by
 refine ⟨h.inv,by unfold KS.put;rw[List.length_set];exact h.bl,λf i hi=>?_,λf=>?_⟩
 ·rw[Zmr] at hi
  split at hi
  ·rcases List.mem_append.1 hi with hi | hi
   ·exact h.box a i hi
   ·exact hl i hi
  ·exact h.box f i hi
 ·rw[Zmr]
  have h1:=h.len a
  have h2:=h.len f
  split
  ·rw[List.length_append];omega
  ·omega
theorem ZdF.setN {k:KS} {s n:Nat} (h:ZdF wd k s n) {a:Nat} {N:Nd} (hN:a<wd.Feds.length→ZAM wd a N) (hb:N.isBold=(k.node a).isBold) (hr:N.rank=(k.node a).rank):ZdF wd (k.setN a N) s n:=by
 have hnode:∀f,(k.setN a N).node f=if a=f∧a<k.nodes.length then N else k.node f:=λf=>ZaK ..
 have hnl:k.nodes.length=wd.Feds.length:=h.inv.nl
 have hb':∀f,((k.setN a N).node f).isBold=(k.node f).isBold:=λf=>by
  rw[hnode]
  split
  ·rename_i h1;rw[←h1.1];exact hb
  ·rfl
 have hr':∀f,((k.setN a N).node f).rank=(k.node f).rank:=λf=>by
  rw[hnode]
  split
  ·rename_i h1;rw[←h1.1];exact hr
  ·rfl
 have hl:(k.setN a N).nodes.length=wd.Feds.length:=by
  have:(k.setN a N).nodes.length=k.nodes.length:=List.length_set
  rw[this,hnl]
 refine ⟨⟨h.inv.may,λf hf=>?_,hl,List.length_replicate,h.inv.netl,h.inv.rowl,ZlO,h.inv.q,h.inv.self,λf hf hfb=>?_,λf hf=>?_,h.inv.cut,Zii⟩,h.bl,h.box,h.len⟩
 ·show ZAM wd f ((k.setN a N).node f)
  rw[hnode]
  split
  ·rename_i h1
   rw[←h1.1]
   exact hN (by rw[←hnl];exact h1.2)
  ·refine h.inv.ok f ?_
   show f<k.nodes.length
   rw[hnl,←hl]
   exact hf
 ·show ((k.setN a N).node f).rank<Zai wd
  rw[hr']
  refine h.inv.rank f hf ?_
  show (k.node f).isBold=true
  rw[←hb' f]
  exact hfb
 ·show ((k.setN a N).node f).isBold=_
  rw[hb']
  exact h.inv.kind f hf
theorem Zy2 (l:List (List (List Zn))) (a b c d:Nat) (x:List Zn):((l.set a ((l.getD a []).set b x)).getD c []).getD d []=if a=c∧b=d∧a<l.length∧b<(l.getD a []).length then x else (l.getD c []).getD d []:=by
 rw[ZaX]
 by_cases h1:a=c
 ·subst h1
  by_cases h2:a<l.length
  ·rw[if_pos ⟨rfl,h2⟩,ZaX]
   by_cases h3:b=d∧b<(l.getD a []).length
   ·rw[if_pos h3,if_pos ⟨rfl,h3.1,h2,h3.2⟩]
   ·rw[if_neg h3,if_neg (λh=>h3 ⟨h.2.1,h.2.2.2⟩)]
  ·rw[if_neg (λh=>h2 h.2),if_neg (λh=>h2 h.2.2.1)]
 ·rw[if_neg (λh=>h1 h.1),if_neg (λh=>h1 h.1)]
theorem Zy1 (k:KS) (a b c d:Nat) (l:List Zn):(k.setQ a b l).q c d=if a=c∧b=d∧a<k.net.length∧b<(k.net.getD a []).length then l else k.q c d:=Zy2 ..
theorem ZdF.setQ {k:KS} {s n:Nat} (h:ZdF wd k s n) {a b:Nat} {l:List Zn} (hl:∀i∈l,Zb8 wd.Feds.length i) (hab:a=b→l=[]):ZdF wd (k.setQ a b l) s n:=by
 refine ⟨⟨h.inv.may,h.inv.ok,h.inv.nl,List.length_replicate,?_,λf hf=>?_,ZlO,λc d i hi=>?_,λc=>?_,h.inv.rank,h.inv.kind,h.inv.cut,Zii⟩,h.bl,h.box,h.len⟩
 ·show (k.net.set a _).length=_
  rw[List.length_set]
  exact h.inv.netl
 ·show ((k.net.set a ((k.net.getD a []).set b l)).getD f []).length=_
  rw[ZaX]
  split
  ·rename_i h1
   rw[List.length_set,h1.1]
   exact h.inv.rowl f hf
  ·exact h.inv.rowl f hf
 ·have hi':i∈(k.setQ a b l).q c d:=hi
  rw[Zy1] at hi'
  split at hi'
  ·exact hl i hi'
  ·exact h.inv.q c d i hi'
 ·show (k.setQ a b l).q c c=[]
  rw[Zy1]
  split
  ·rename_i h1
   exact hab (h1.1.trans h1.2.1.symm)
  ·exact h.inv.self c
theorem ZdF.cut {k:KS} {s t n:Nat} (h:ZdF wd k s n) (hs:s≤t) {c:CL} (hc:Zai wd≠0) (ho:ZeV c (Zai wd) t):ZdF wd { k with cut:=some c } t n:=by
 have h':=h.mono hs (Nat.le_refl _)
 refine ⟨⟨h.inv.may,h.inv.ok,h.inv.nl,List.length_replicate,h.inv.netl,h.inv.rowl,ZlO,h.inv.q,h.inv.self,h.inv.rank,h.inv.kind,?_,Zii⟩,h.bl,h.box,h.len⟩
 rw[if_neg hc]
 exact ⟨c,rfl,ho⟩
theorem Ze1.cutIs {k:KS} {s:Nat} (h:Ze1 wd k s) {c:CL} (hc:k.cut=some c):Zai wd≠0∧ZeV c (Zai wd) s:=by
 have h1:=h.cut
 by_cases hb:Zai wd=0
 ·rw[if_pos hb,hc] at h1;cases h1
 ·rw[if_neg hb] at h1
  obtain ⟨c',hc',ho⟩:=h1
  rw[hc] at hc'
  cases hc'
  exact ⟨hb,ho⟩
theorem ZeV.setOn {c:CL} {m s:Nat} (h:ZeV c m s) {k x:Int} (hx:0≤x∧x≤(s+1:Nat)):ZeV (c.setOn k x) m (s+1):=by
 have h5:=h.on
 have h3:=h.begun
 unfold CL.setOn
 split
 ·exact ⟨h.t,h.r,by dsimp only;omega,h.over,by dsimp only;omega⟩
 ·exact ⟨h.t,h.r,by dsimp only;omega,h.over,by dsimp only;omega⟩
theorem ZeV.onk {c:CL} {m s:Nat} (h:ZeV c m s) (k:Int):0≤c.on k∧c.on k≤s:=by
 have h5:=h.on
 unfold CL.on
 split <;> omega
theorem ZeV.sent {c:CL} {m s:Nat} (h:ZeV c m s) (i:Nat) (t:Int):ZeV (c.sent i t) m (s+1):=by
 have h1:=h.onk (c.t i % 2)
 have h2:=h.setOn (k:=c.t i % 2) (x:=c.on (c.t i % 2)+1) (by omega)
 unfold CL.sent
 split
 ·exact ⟨h2.t,h2.r,h2.begun,h2.over,h2.on⟩
 ·exact h2
theorem ZeV.got {c:CL} {m s:Nat} (h:ZeV c m s) (x:Int):ZeV (c.got x) m (s+1):=by
 have h1:=h.onk x
 have h3:=h.begun
 have h5:=h.on
 unfold CL.got
 split
 ·exact ⟨h.t,h.r,by omega,h.over,by omega⟩
 ·rename_i hx
  have:c.on x≠0:=λh0=>hx (.inr h0)
  exact h.setOn (by omega)
theorem Zpf {k:KS} {s:Nat} (h:Ze1 wd k s) {a:Nat} (ha:a<wd.Feds.length) (hb:(k.node a).isBold=true):Zai wd≠0:=by
 have:=h.rank a ha hb
 omega
def settle1 (wd:Wd) (t:Int) (k:KS) (f:Nat):KS:=match k.node f with
 | .slow _=>k
 | .bold N r told=>if ZaB N t=0 then (k.setN f (.bold (Ys N t) r told)).put f (((Yq wd (ZaC wd f (Zs wd f) N t)).map Yz.m).map Zae) else k
theorem ZlS (k:KS) (t:Int):k.settle wd t=(List.range k.nodes.length).foldl (settle1 wd t) k:=rfl
theorem Znh (h:ZoS wd) {f m:Nat} (hf:f<wd.Feds.length) {N:WN} (hW:WOk wd f (Zs wd f) N m) (t:Int):((Yq wd (ZaC wd f (Zs wd f) N t)).map Yz.m).length≤4000:=by
 rw[List.length_map]
 have h2:=Zxq h (ZaN hf) (f:=f) (b:=N.base (Zs wd f)) (l:=Zc6 t N.ms)
 have h3:(Zc6 t N.ms).length≤N.ms.length:=List.length_filter_le _ _
 have h4:=hW.ml
 unfold ZaC
 omega
theorem ZqZ {k:KS} {s n:Nat} (h:ZdF wd k s n) (t:Int) {f:Nat} (hf:f<wd.Feds.length):ZdF wd (settle1 wd t k f) s (n+4000):=by
 have same:ZdF wd k s (n+4000):=h.mono (Nat.le_refl _) (by omega)
 unfold settle1
 cases hn:k.node f with
 | slow N=>exact same
 | bold N r told=>
  dsimp only
  split
  ·rename_i he
   have h1:ZAM wd f (k.node f):=h.inv.ok f (by have h1:k.nodes.length=wd.Feds.length:=h.inv.nl;show f<k.nodes.length;omega)
   rw[hn] at h1
   obtain ⟨m,hW⟩:=h1
   refine (h.setN (a:=f) (N:=.bold (Ys N t) r told) (λ_=>⟨m,hW.commit he⟩) (by rw[hn];rfl) (by rw[hn];rfl)).put (λi hi=>ZAj hi) ?_
   rw[List.length_map]
   exact Znh h.inv.may hf hW t
  ·exact same
theorem ZhP {t:Int}:∀(l:List Nat) {k:KS} {s n:Nat},(∀f∈l,f<wd.Feds.length)→ZdF wd k s n→ZdF wd (l.foldl (settle1 wd t) k) s (n+l.length*4000)
 | [],_,_,_,_,h=>h
 | f::l,_,_,_,hm,h=>(ZhP l (λg hg=>hm g (List.mem_cons_of_mem _ hg)) (ZqZ h t (hm f (List.mem_cons_self ..)))).mono (Nat.le_refl _) (by rw[List.length_cons];omega)
theorem ZtD {k:KS} {s n:Nat} (h:ZdF wd k s n) (t:Int):ZdF wd (k.settle wd t) s (n+8*4000):=by
 rw[ZlS]
 have h1:k.nodes.length=wd.Feds.length:=h.inv.nl
 have h8:=h.inv.may.n
 refine (ZhP (List.range k.nodes.length) (λf hf=>by rw[←h1];exact List.mem_range.1 hf) h).mono (Nat.le_refl _) ?_
 rw[List.length_range]
 omega
theorem ZrT {k:KS} (hl:k.nodes.length=wd.Feds.length) (hn:wd.Feds.length≤8) {a:Nat} {t:Int} (ht:Yu t=true):(∀i∈ZaW k a t,Zb8 wd.Feds.length i)∧(ZaW k a t).length≤4000:=by
 constructor
 ·intro i hi
  obtain ⟨f,hf,rfl⟩:=List.mem_map.1 hi
  have:=List.mem_range.1 (List.mem_filter.1 hf).1
  exact ⟨⟨show (0:Int)≤2 by decide,Int.le_refl 2⟩,⟨Int.le_refl 0,show (0:Int)≤1 by decide⟩,⟨by show (0:Int)≤f;omega,by show (f:Int)<_;omega⟩,ht⟩
 ·unfold ZaW
  rw[List.length_map]
  refine Nat.le_trans (List.length_filter_le _ _) ?_
  rw[List.length_range]
  omega
theorem Ze1.do' {k:KS} {s:Nat} (h:Ze1 wd k s) (kind a b:Nat) (ha:kind≠4→a<wd.Feds.length) (hb:kind=2→b<wd.Feds.length):Ze1 wd (k.do' wd kind a b).2 (s+1):=by
 have same:Ze1 wd k (s+1):=h.mono (Nat.le_succ _)
 have pre:=h.pre
 have p1:=pre.mono (Nat.le_succ s) (Nat.le_refl _)
 have hok:=(ZzL h.ok kind a b).1
 have hself:=h.self
 have hn8:=h.may.n.2
 have nd:∀f,f<wd.Feds.length→ZAM wd f (k.node f):=λf hf=>h.ok f (by rw[h.nl];exact hf)
 unfold KS.do' at hok ⊢
 split
 ·have ha:=ha (by decide)
  have h0:=nd a ha
  unfold KS.step
  split
  ·exact same
  ·split
   ·rename_i N hn
    rw[hn] at h0
    split
    ·rename_i hs
     refine ZdF.all ((p1.setN (a:=a) (N:=.slow (Zmn (Zs wd a) N)) (λ_=>⟨Zps h0.1 h0.2 hs,h0.2.tail⟩) (by rw[hn];rfl) (by rw[hn];rfl)).put (m:=4000) (λi hi=>?_) ?_) (by omega)
     ·obtain ⟨m,hm,rfl⟩:=List.mem_map.1 hi
      exact .plain (Zi2 hm)
     ·rw[List.length_map]
      have:=Zge h.may (ZaN ha) (b:=(N.st,N.sent)) (x:=hdM N.q)
      exact Nat.le_trans this (by omega)
    ·exact same
   ·rename_i N r t hn
    rw[hn] at h0
    obtain ⟨m,hW⟩:=h0
    split
    ·rename_i he
     refine ZdF.all ((p1.setN (a:=a) (N:=.bold (Zcv N) r t) (λ_=>⟨m+1,hW.step he⟩) (by rw[hn];rfl) (by rw[hn];rfl)).put (m:=4000) (λi hi=>?_) ?_) (by omega)
     ·unfold ZqQ at hi
      obtain ⟨m,hm,rfl⟩:=List.mem_map.1 hi
      exact .plain (Zz9 (List.mem_filter.1 hm).1)
     ·unfold ZqQ
      rw[List.length_map]
      exact Nat.le_trans (List.length_filter_le _ _) (Nat.le_trans (Zge h.may (ZaN ha)) (by omega))
    ·exact same
 ·unfold KS.flush
  split
  ·exact same
  ·rename_i i r hbx
   have hbox:∀j∈i::r,Zb8 wd.Feds.length j:=by rw[←hbx];exact h.box a
   have hi:=hbox i (List.mem_cons_self ..)
   split
   ·exact same
   ·rename_i hro
    have hab:a=i.m.To.toNat→k.q a i.m.To.toNat++[i]=[]:=λh=>absurd (if_neg λh'=>h'.2.2.2 (by omega)) hro
    have hab2:∀x:Zn,a=i.m.To.toNat→k.q a i.m.To.toNat++[x]=[]:=λ_ h=>absurd (if_neg λh'=>h'.2.2.2 (by omega)) hro
    have p2:ZdF wd { k with boxes:=k.boxes.set a r } (s+1) (40000*(s+1)):=by
     refine ⟨p1.inv,by dsimp only;rw[List.length_set];exact h.bl,λf j hj=>?_,λf=>?_⟩
     ·unfold KS.box at hj
      dsimp only at hj
      rw[ZaX] at hj
      split at hj
      ·exact hbox j (List.mem_cons_of_mem _ hj)
      ·exact h.box f j hj
     ·have h1:=h.len f
      have h2:=h.len a
      rw[hbx,List.length_cons] at h2
      unfold KS.box at h1 ⊢
      dsimp only
      rw[ZaX]
      split <;> omega
    dsimp only
    split
    ·rename_i c _ hc
     obtain ⟨hb0,hco⟩:=h.cutIs hc
     have h3:ZeV (c.sent (k.node a).rank i.m.key.T) (Zai wd) (s+1):=hco.sent _ _
     have h4:=p2.cut (Nat.le_refl _) hb0 h3
     refine ZdF.all (h4.setQ (λj hj=>?_) (hab2 _)) (by omega)
     rcases List.mem_append.1 hj with hj | hj
     ·exact h.q _ _ j hj
     ·rw[List.mem_singleton.1 hj]
      exact ⟨hi.kind,⟨by dsimp only;omega,by dsimp only;omega⟩,hi.to,hi.time⟩
    ·refine ZdF.all (p2.setQ (λj hj=>?_) hab) (by omega)
     rcases List.mem_append.1 hj with hj | hj
     ·exact h.q _ _ j hj
     ·rw[List.mem_singleton.1 hj];exact hi
 ·have ha:=ha (by decide)
  have hb:=hb rfl
  unfold KS.deliver
  split
  ·exact same
  ·rename_i i r hq
   have hqs:∀j∈i::r,Zb8 wd.Feds.length j:=by rw[←hq];exact h.q a b
   have h0:=nd b hb
   have hab:a=b→r=[]:=λh=>by
    subst h
    rw[hself] at hq
    cases hq
   dsimp only
   split
   ·exact same
   ·have p3:ZdF wd (((k.setN b (k.hears wd a b i).2.2).setQ a b r).put b (k.hears wd a b i).2.1) (s+1) (40000*(s+1)+4000):=by
     unfold KS.hears
     cases hn:k.node b with
     | slow N=>
      rw[hn] at h0
      exact ((p1.setN (a:=b) (N:=.slow (Zd0 N a i)) (λ_=>⟨Zpb h0.1 _ _,Zsl h0.2 _ _⟩) (by rw[hn];rfl) (by rw[hn];rfl)).setQ (λj hj=>hqs j (List.mem_cons_of_mem _ hj)) hab).put (by simp) (by simp)
     | bold N rk t=>
      rw[hn] at h0
      obtain ⟨m,hW⟩:=h0
      dsimp only
      refine ((p1.setN (a:=b) (N:=.bold (ZbE wd b (Zs wd b) N a i).N rk t) (λ_=>⟨m,hW.hear _ _⟩) (by rw[hn];rfl) (by rw[hn];rfl)).setQ (λj hj=>hqs j (List.mem_cons_of_mem _ hj)) hab).put ?_ ?_
      ·intro j hj
       rcases Zls (wd:=wd) (f:=b) (fd:=Zs wd b) (N:=N) (j:=a) (i:=i) with ho | ho
       ·rw[ho] at hj;cases hj
       ·rw[ho] at hj;exact ZzU hj
      ·rcases Zls (wd:=wd) (f:=b) (fd:=Zs wd b) (N:=N) (j:=a) (i:=i) with ho | ho
       ·rw[ho];exact Nat.zero_le _
       ·rw[ho]
        unfold ZiU
        have h2:=ZrY h.may (ZaN hb) (f:=b) (b:=ZjE (Zs wd b) (N.base (Zs wd b)) (ZbF i.m.key N.ms)) (l:=Yj i.m.key N.ms)
        have h3:(Yj i.m.key N.ms).length≤N.ms.length:=List.length_filter_le _ _
        have h4:=hW.ml
        omega
    split
    ·rename_i c _ hc
     obtain ⟨hb0,hco⟩:=h.cutIs hc
     exact ZdF.all (p3.cut (Nat.le_refl _) hb0 (hco.got i.Colour)) (by omega)
    ·exact p3.all (by omega)
 ·have ha:=ha (by decide)
  have h0:=nd a ha
  unfold KS.tell
  split
  ·exact same
  ·split
   ·rename_i N hn
    rw[hn] at h0
    split
    ·have hb:=ZrT (k:=k) (a:=a) h.nl hn8 (ZjT (ZaP [Zcd N,N.clk.bound]) (Zs wd a).Look)
     exact ZdF.all ((p1.setN (a:=a) (N:=.slow (ZiG (Zs wd a) N)) (λ_=>⟨Zpg h0.1 _,h0.2⟩) (by rw[hn];rfl) (by rw[hn];rfl)).put hb.1 hb.2) (by omega)
    ·exact same
   ·rename_i N r t hn
    rw[hn] at h0
    split
    ·exact same
    ·have hb:=ZrT (k:=k) (a:=a) h.nl hn8 (ZjT N.fl (Zs wd a).Look)
     exact ZdF.all ((p1.setN (a:=a) (N:=.bold N r (Za6 (Zs wd a) N)) (λ_=>h0) (by rw[hn];rfl) (by rw[hn];rfl)).put hb.1 hb.2) (by omega)
 ·unfold KS.begin'
  split
  ·exact same
  ·rename_i c hc
   split
   ·exact same
   ·obtain ⟨hb0,hco⟩:=h.cutIs hc
    have h3:=hco.begun
    have h4:=hco.over
    have h5:=hco.on
    exact ZdF.all (p1.cut (Nat.le_refl _) hb0 ⟨hco.t,hco.r,by dsimp only;omega,by dsimp only;omega,by dsimp only;omega⟩) (by omega)
 ·unfold KS.turn
  split
  ·rename_i c _ hc
   split
   ·exact same
   ·obtain ⟨hb0,hco⟩:=h.cutIs hc
    have h3:=hco.begun
    have h5:=hco.on
    exact ZdF.all (p1.cut (Nat.le_refl _) hb0 ⟨by dsimp only;rw[List.length_set];exact hco.t,hco.r,by dsimp only;omega,hco.over,by dsimp only;omega⟩) (by omega)
  ·exact same
 ·unfold KS.report
  split
  ·rename_i N r _ c _ hc
   obtain ⟨hb0,hco⟩:=h.cutIs hc
   have h3:=hco.begun
   have h4:=hco.over
   have h5:=hco.on
   split
   ·exact same
   ·split
    ·exact same
    ·dsimp only
     split
     ·refine (ZtD (p1.cut (Nat.le_refl _) hb0 ?_) _).all (by omega)
      exact ⟨hco.t,(List.length_set).trans hco.r,by dsimp only;omega,by dsimp only;omega,by dsimp only;omega⟩
     ·exact ZdF.all (p1.cut (Nat.le_refl _) hb0 ⟨hco.t,by dsimp only;rw[List.length_set];exact hco.r,by dsimp only;omega,by dsimp only;omega,by dsimp only;omega⟩) (by omega)
  ·exact same
theorem Zua {f:Fed} {most:Int} (h:Zre f most=0):f.Kind=0∨f.Kind=1:=by
 unfold Zre Zs3 at h
 rw[Zbt] at h
 split at h
 ·rename_i h1;omega
 ·rw[if_neg (by decide)] at h;cases h
theorem ZlD (h:(Za4 wd).2=0):∀f∈wd.Feds,f.Kind=0∨f.Kind=1:=by
 unfold Za4 at h
 split at h
 ·rename_i h1;exact absurd h h1
 ·split at h
  ·cases h
  ·exact λf hf=>Zua (ZjJ h f hf)
theorem Zni:∀(l:List Fed) (n:Nat),(Zjo l n).length=l.length
 | [],_=>rfl
 | f::l,n=>by
  show (n::Zjo l _).length=_
  rw[List.length_cons,Zni l,List.length_cons]
theorem Zno:∀(l:List Fed) (n a:Nat),a<l.length→(Zjo l n)[a]?=some (n+((l.take a).filter λf=>!decide (f.Kind=0)).length)
 | [],_,_,h=>by cases h
 | f::l,n,0,_=>rfl
 | f::l,n,a+1,h=>by
  show (n::Zjo l (if f.Kind=0 then n else n+1))[a+1]?=_
  rw[List.getElem?_cons_succ,Zno l _ a (by rw[List.length_cons] at h;omega),List.take_succ_cons,List.filter_cons]
  by_cases hk:f.Kind=0
  ·rw[if_pos hk,if_neg (by rw[decide_eq_true hk];decide)]
  ·rw[if_neg hk,if_pos (by rw[decide_eq_false hk];rfl),List.length_cons]
   congr 1
   omega
def KS.init0 (wd:Wd) (room:Nat):KS:=
 ⟨((wd.Feds.zip (Zjo wd.Feds 0)).zipIdx).map λp=>ZpY wd wd.Feds.length p.2 p.1.1 p.1.2,List.replicate wd.Feds.length [],List.replicate wd.Feds.length (List.replicate wd.Feds.length []),room,if Zai wd=0 then none else some (CL.zero (Zai wd))⟩
def ZxY (k:KS) (m:Msg):KS:=k.put m.key.From.toNat [Zae m]
theorem ZuV (room:Nat):KS.init wd room=(Zaz wd.Parents wd.Feds wd.Feds).foldl ZxY (KS.init0 wd room):=rfl
def Zcz (wd:Wd) (a:Nat):Nat:=((wd.Feds.take a).filter λf=>!decide (f.Kind=0)).length
theorem ZmG (room:Nat):(KS.init0 wd room).nodes=(List.range wd.Feds.length).map λa=>ZpY wd wd.Feds.length a (Zs wd a) (Zcz wd a):=by
 apply List.ext_getElem?
 intro a
 show (((wd.Feds.zip (Zjo wd.Feds 0)).zipIdx).map λp=>ZpY wd wd.Feds.length p.2 p.1.1 p.1.2)[a]?=_
 rw[List.getElem?_map,List.getElem?_map,List.getElem?_zipIdx]
 by_cases ha:a<wd.Feds.length
 ·have h1:=ZaN ha
  have h2:=Zno wd.Feds 0 a ha
  have h3:(wd.Feds.zip (Zjo wd.Feds 0))[a]?=some (Zs wd a,0+Zcz wd a):=by
   rw[List.getElem?_zip_eq_some]
   exact ⟨h1,h2⟩
  rw[h3,List.getElem?_range ha]
  simp
 ·rw[List.getElem?_eq_none (by rw[List.length_zip,Zni];omega),List.getElem?_eq_none (by rw[List.length_range];omega)]
  rfl
theorem Zgi {room a:Nat} (ha:a<wd.Feds.length):(KS.init0 wd room).node a=ZpY wd wd.Feds.length a (Zs wd a) (Zcz wd a):=by
 unfold KS.node
 rw[ZmG,List.getD_eq_getElem?_getD,List.getElem?_map,List.getElem?_range ha]
 rfl
theorem ZmC (room a:Nat):(KS.init0 wd room).box a=[]:=by
 show (List.replicate _ _).getD a []=_
 rw[List.getD_eq_getElem?_getD,List.getElem?_replicate]
 split <;> rfl
theorem ZqT (room a b:Nat):(KS.init0 wd room).q a b=[]:=by
 show ((List.replicate _ (List.replicate _ [])).getD a []).getD b []=_
 rw[List.getD_eq_getElem?_getD,List.getD_eq_getElem?_getD,List.getElem?_replicate]
 split
 ·rw[Option.getD_some,List.getElem?_replicate]
  split <;> rfl
 ·rfl
theorem Zgj {n a:Nat} {fd:Fed} {rk:Nat} (h:fd.Kind=0):ZpY wd n a fd rk=.slow (ZoV n a fd):=if_pos h
theorem Zgb {n a:Nat} {fd:Fed} {rk:Nat} (h:¬fd.Kind=0):ZpY wd n a fd rk=.bold (ZiQ wd) rk 0:=if_neg h
theorem ZAa {a:Nat} (ha:a<wd.Feds.length) (hk:¬(Zs wd a).Kind=0):Zcz wd a<Zai wd:=by
 have h1:wd.Feds=wd.Feds.take a++Zs wd a::wd.Feds.drop (a+1):=by
  have:=Zaq (ZaN ha)
  rw[←this,List.take_append_drop]
 have h2:Zai wd=((wd.Feds.take a++Zs wd a::wd.Feds.drop (a+1)).filter λf=>!decide (f.Kind=0)).length:=by rw[←h1];rfl
 rw[h2,List.filter_append,List.filter_cons,if_pos (by rw[decide_eq_false hk];rfl),List.length_append,List.length_cons]
 unfold Zcz
 omega
theorem Zqp (h:(Za4 wd).2=0) (room:Nat):ZdF wd (KS.init0 wd room) 0 0:=by
 have hw:=ZfI h
 have hk:=ZlD h
 have hnl:(KS.init0 wd room).nodes.length=wd.Feds.length:=by rw[ZmG,List.length_map,List.length_range]
 have hno:∀a,a<wd.Feds.length→(Zs wd a).Kind=0∨(Zs wd a).Kind=1:=λa ha=>hk _ (List.mem_of_getElem? (ZaN ha))
 refine ⟨⟨hw,λa ha=>?_,hnl,List.length_replicate,List.length_replicate,λa ha=>?_,ZlO,λa b i hi=>?_,λa=>ZqT room a a,λa ha hb=>?_,λa ha=>?_,?_,Zii⟩,List.length_replicate,(λa i hi=>by rw[ZmC] at hi;cases hi),λa=>by rw[ZmC];exact Nat.le_refl _⟩
 ·have ha':a<wd.Feds.length:=by rw[←hnl];exact ha
  show ZAM wd a ((KS.init0 wd room).node a)
  rw[Zgi ha']
  rcases hno a ha' with h0 | h1
  ·rw[Zgj h0]
   exact ⟨⟨List.Pairwise.nil,λd hd=>by cases hd⟩,List.Pairwise.nil,by show 0≤64;omega⟩
  ·rw[Zgb (by omega)]
   exact ⟨0,WOk.init hw (ZaN ha') h1⟩
 ·show ((List.replicate _ (List.replicate _ [])).getD a []).length=_
  rw[List.getD_eq_getElem?_getD,List.getElem?_replicate,if_pos ha,Option.getD_some,List.length_replicate]
 ·have hi':i∈(KS.init0 wd room).q a b:=hi
  rw[ZqT] at hi'
  cases hi'
 ·show ((KS.init0 wd room).node a).rank<_
  have hb':((KS.init0 wd room).node a).isBold=true:=hb
  rw[Zgi ha] at hb' ⊢
  rcases hno a ha with h0 | h1
  ·rw[Zgj h0] at hb';cases hb'
  ·rw[Zgb (by omega)]
   exact ZAa ha (by omega)
 ·show ((KS.init0 wd room).node a).isBold=_
  rw[Zgi ha]
  rcases hno a ha with h0 | h1
  ·rw[Zgj h0,decide_eq_true h0];rfl
  ·rw[Zgb (by omega),decide_eq_false (by omega)];rfl
 ·split
  ·rename_i hb
   exact if_pos hb
  ·rename_i hb
   exact ⟨_,if_neg hb,List.length_replicate,List.length_replicate,⟨Int.le_refl _,Int.le_refl _⟩,⟨Int.le_refl _,Int.le_refl _⟩,⟨Int.le_refl _,Int.le_refl _⟩,Int.le_refl _,Int.le_refl _⟩
theorem Zql {l:List Fed} {m:Msg} (h:m∈Zaz wd.Parents wd.Feds l):Zrh wd.Feds.length m:=by
 obtain ⟨i,fd,_,h1⟩:=Znu h
 exact Zi2 h1
theorem Zof {s:Nat}:∀(l:List Msg) (k:KS) (n:Nat),(∀m∈l,Zrh wd.Feds.length m)→ZdF wd k s n→ZdF wd (l.foldl ZxY k) s (n+l.length)
 | [],_,_,_,h=>h
 | m::l,k,n,hm,h=>by
  rw[List.foldl_cons,List.length_cons]
  have h1:ZdF wd (ZxY k m) s (n+1):=h.put (λi hi=>by rw[List.mem_singleton.1 hi];exact .plain (hm m (List.mem_cons_self ..))) (Nat.le_refl _)
  exact (Zof l _ (n+1) (λx hx=>hm x (List.mem_cons_of_mem _ hx)) h1).mono (Nat.le_refl _) (by omega)
theorem Ze1.init (h:(Za4 wd).2=0) (room:Nat):Ze1 wd (KS.init wd room) 0:=by
 have hw:=ZfI h
 rw[ZuV]
 refine (Zof _ _ 0 (λm hm=>Zql hm) (Zqp h room)).all ?_
 have:=ZtB (ps:=wd.Parents) (feds:=wd.Feds) (l:=wd.Feds) hw.n.2 λf hf=>(hw.init f hf).1
 have:=hw.n
 omega
variable {R R':RS} {d:Zak}
def ZTq (R:RS) (f:Nat):List Msg:=(ZK0 R (f:Int)).map Zak.m
def ZUz (wd:Wd) (R:RS):Prop:=∀f fd a,wd.Feds[f]?=some fd→R.feds[f]?=some a→a.log=(Zc8 wd f fd (ZxV fd) (a.log.map Zak.m)).map ZfV∧(a.st,a.sent)=ZjE fd (ZxV fd) (a.log.map Zak.m)
theorem ZUy:ZUz wd (ZF4 wd):=by
 intro f fd a hf ha
 have h1:(wd.Feds.map λf=>(⟨f.Start,f.Init.length,[]⟩:FA))[f]?=some a:=ha
 rw[List.getElem?_map,hf] at h1
 cases h1
 exact ⟨rfl,rfl⟩
theorem ZUw (hI:ZUz wd R) (h:ZFO wd R=some (d,R')):ZUz wd R':=by
 obtain ⟨m,rest,f0,a0,hw,hE,hf0,ha0,he⟩:=ZKV h
 intro f fd a hf ha
 have hR':R'=(ZF5 wd f0 a0 m rest R).2:=congrArg Prod.snd he
 rw[hR'] at ha
 have ha:(R.feds.set m.To.toNat ⟨(ZbY f0.Rules a0.st m.Class).1,a0.sent+(ZbY f0.Rules a0.st m.Class).2.length,a0.log++[⟨m,(ZbY f0.Rules a0.st m.Class).1⟩]⟩)[f]?=some a:=ha
 rw[List.getElem?_set] at ha
 by_cases hft:m.To.toNat=f
 ·subst hft
  rw[if_pos rfl] at ha
  split at ha
  ·cases ha
   rw[hf0] at hf
   cases hf
   obtain ⟨h1,h2⟩:=hI _ _ _ hf0 ha0
   have e1:a0.st=(ZjE f0 (ZxV f0) (a0.log.map Zak.m)).1:=congrArg Prod.fst h2
   have e2:a0.sent=(ZjE f0 (ZxV f0) (a0.log.map Zak.m)).2:=congrArg Prod.snd h2
   refine ⟨?_,?_⟩
   ·show a0.log++[_]=(Zc8 wd _ f0 (ZxV f0) ((a0.log++[_]).map Zak.m)).map ZfV
    rw[List.map_append,Zi3,List.map_append,←h1]
    congr 1
    show [(⟨m,(ZbY f0.Rules a0.st m.Class).1⟩:Zak)]=[ZfV (ZoQ wd _ f0 (ZjE f0 (ZxV f0) (a0.log.map Zak.m)) m)]
    rw[e1]
    rfl
   ·show ((ZbY f0.Rules a0.st m.Class).1,a0.sent+((ZbY f0.Rules a0.st m.Class).2.length:Int))=ZjE f0 (ZxV f0) ((a0.log++[_]).map Zak.m)
    rw[List.map_append,Zi8,e1,e2]
    rfl
  ·cases ha
 ·rw[if_neg hft] at ha
  exact hI f fd a hf ha
def ZUY (wd:Wd) (R:RS) (m:Msg):Prop:=m∈Zaz wd.Parents wd.Feds wd.Feds∨∃(g:Nat) (fd:Fed),wd.Feds[g]?=some fd∧∃x∈Zc8 wd g fd (ZxV fd) (ZTq R g),m∈x.outs
def ZT8 (wd:Wd) (R:RS):Prop:=∀m,ZUY wd R m↔(m∈R.wait∨∃f:Nat,f<wd.Feds.length∧m∈ZTq R f)
theorem ZTZ (f:Nat):ZTq (ZF4 wd) f=[]:=by
 unfold ZTq ZK0
 rw[if_pos (by omega),Int.toNat_natCast]
 show ((((wd.Feds.map λf=>(⟨f.Start,f.Init.length,[]⟩:FA))[f]?).map FA.log).getD []).map Zak.m=[]
 rw[List.getElem?_map]
 cases wd.Feds[f]? <;> rfl
theorem ZUv (hR:ZLP wd R k) (h:ZFO wd R=some (d,R')):ZTq R' f=ZTq R f++if d.m.To=f then [d.m] else []:=by
 have h0:0≤d.m.To:=by
  obtain ⟨m,rest,f0,a0,hw,_,_,_,he⟩:=ZKV h
  have:d.m=m:=congrArg (λp=>p.1.m) he
  rw[this]
  exact (hR.to m (by rw[hw];exact List.mem_cons_self ..)).1
 unfold ZTq
 rw[ZLN h f h0,List.map_append]
 congr 1
 split <;> rfl
theorem ZUe:ZT8 wd (ZF4 wd):=by
 intro m
 have hp:(ZF4 wd).wait.Perm (Zaz wd.Parents wd.Feds wd.Feds++[]):=ZKK _ _
 constructor
 ·rintro (h | ⟨g,fd,_,x,hx,_⟩)
  ·exact .inl (hp.mem_iff.2 (List.mem_append_left _ h))
  ·rw[ZTZ] at hx;cases hx
 ·rintro (h | ⟨f,_,h⟩)
  ·have:=hp.mem_iff.1 h
   rw[List.append_nil] at this
   exact .inl this
  ·rw[ZTZ] at h;cases h
theorem ZUg (hR:ZLP wd R k) (hI:ZUz wd R) (hA:ZT8 wd R) (h:ZFO wd R=some (d,R')):ZT8 wd R':=by
 obtain ⟨m,rest,f0,a0,hw,hE,hf0,ha0,he⟩:=ZKV h
 have hd:d.m=m:=congrArg (λp=>p.1.m) he
 have hto:=hR.to m (by rw[hw];exact List.mem_cons_self ..)
 obtain ⟨t,ht⟩:∃t:Nat,m.To=t:=⟨m.To.toNat,by omega⟩
 rw[ht,Int.toNat_natCast] at hf0 ha0
 have htl:t<wd.Feds.length:=(List.getElem?_eq_some_iff.1 hf0).1
 have hlog:ZTq R t=a0.log.map Zak.m:=by
  unfold ZTq ZK0
  rw[if_pos (by omega),Int.toNat_natCast,ha0]
  rfl
 have hT:∀f,ZTq R' f=ZTq R f++if t=f then [m] else []:=λf=>by
  rw[ZUv hR h,hd,ht]
  congr 1
  by_cases hf:t=f
  ·rw[if_pos hf,if_pos (by omega)]
  ·rw[if_neg hf,if_neg (by omega)]
 obtain ⟨h1,h2⟩:=hI t f0 a0 hf0 ha0
 rw[←hlog] at h1 h2
 generalize hou:(ZoQ wd t f0 (ZjE f0 (ZxV f0) (ZTq R t)) m).outs=ou
 have hwait:R'.wait=putL rest ou:=by
  have e1:R'.wait=(ZF5 wd f0 a0 m rest R).2.wait:=congrArg (λp=>p.2.wait) he
  rw[e1,←hou,←h2]
  show putL rest (Zau wd.Parents wd.Feds m.To a0.sent m.key.T m.Body (ZbY f0.Rules a0.st m.Class).2)=_
  rw[ht]
  rfl
 have hM:∀y,ZUY wd R' y↔ZUY wd R y∨y∈ou:=by
  intro y
  constructor
  ·rintro (hy | ⟨g,fd,hg,x,hx,hy⟩)
   ·exact .inl (.inl hy)
   ·rw[hT,Zi3] at hx
    rcases List.mem_append.1 hx with hx | hx
    ·exact .inl (.inr ⟨g,fd,hg,x,hx,hy⟩)
    ·by_cases hgt:t=g
     ·subst hgt
      rw[hf0] at hg
      cases hg
      rw[if_pos rfl] at hx
      have:x=ZoQ wd t f0 (ZjE f0 (ZxV f0) (ZTq R t)) m:=List.mem_singleton.1 hx
      rw[this,hou] at hy
      exact .inr hy
     ·rw[if_neg hgt] at hx;cases hx
  ·rintro ((hy | ⟨g,fd,hg,x,hx,hy⟩) | hy)
   ·exact .inl hy
   ·exact .inr ⟨g,fd,hg,x,by rw[hT,Zi3];exact List.mem_append_left _ hx,hy⟩
   ·refine .inr ⟨t,f0,hf0,ZoQ wd t f0 (ZjE f0 (ZxV f0) (ZTq R t)) m,?_,by rw[hou];exact hy⟩
    rw[hT,if_pos rfl,Zi3]
    exact List.mem_append_right _ (List.mem_singleton.2 rfl)
 intro y
 rw[hM,hA y,hwait,(ZKK ou rest).mem_iff,List.mem_append,hw,List.mem_cons]
 constructor
 ·rintro (((rfl | hy) | ⟨f,hf,hy⟩) | hy)
  ·exact .inr ⟨t,htl,by rw[hT,if_pos rfl];exact List.mem_append_right _ (List.mem_singleton.2 rfl)⟩
  ·exact .inl (.inr hy)
  ·exact .inr ⟨f,hf,by rw[hT];exact List.mem_append_left _ hy⟩
  ·exact .inl (.inl hy)
 ·rintro ((hy | hy) | ⟨f,hf,hy⟩)
  ·exact .inr hy
  ·exact .inl (.inl (.inr hy))
  ·rw[hT] at hy
   rcases List.mem_append.1 hy with hy | hy
   ·exact .inl (.inr ⟨f,hf,hy⟩)
   ·split at hy
    ·exact .inl (.inl (.inl (List.mem_singleton.1 hy)))
    ·cases hy
structure ZU3 (wd:Wd) (R:RS):Prop where
 is:ZUz wd R
 all:ZT8 wd R
 no:ZFO wd R=none
 ok:∃k,ZLP wd R k
theorem ZTV (hw:ZoS wd):∀(n:Nat) {R:RS} {k:Nat},ZLP wd R k→ZUz wd R→ZT8 wd R→(Zul wd n R).1<n→ZU3 wd (Zul wd n R).2
 | 0,_,_,_,_,_,h=>absurd h (Nat.not_lt_zero _)
 | n+1,R,k,hR,hI,hA,h=>by
  rw[ZLk] at h ⊢
  cases hn:ZFO wd R with
  | none=>exact ⟨hI,hA,hn,k,hR⟩
  | some x=>
   obtain ⟨d,R'⟩:=x
   rw[hn] at h
   dsimp only at h ⊢
   exact ZTV hw n (ZLs hw hR hn) (ZUw hI hn) (ZUg hR hI hA hn) (by omega)
theorem ZU3.wait (h:ZU3 wd R) {m:Msg} (hm:m∈R.wait):wd.End≤m.key.T:=by
 obtain ⟨k,hR⟩:=h.ok
 cases hw:R.wait with
 | nil=>rw[hw] at hm;cases hm
 | cons x rest=>
  have hx:wd.End≤x.key.T:=by
   by_cases hE:wd.End≤x.key.T
   ·exact hE
   ·exfalso
    have hto:=hR.to x (by rw[hw];exact List.mem_cons_self ..)
    have hlt:x.To.toNat<wd.Feds.length:=by omega
    have hlt2:x.To.toNat<R.feds.length:=by rw[hR.len];exact hlt
    have:=ZLx hw (by omega) (List.getElem?_eq_getElem hlt) (List.getElem?_eq_getElem hlt2)
    rw[h.no] at this
    cases this
  rw[hw] at hm
  rcases List.mem_cons.1 hm with rfl | hm
  ·exact hx
  ·have h1:=hR.sorted
   rw[hw] at h1
   have h2:=(List.pairwise_cons.1 h1).1 m hm
   have h3:x.key.T≤m.key.T:=by
    unfold MLt at h2
    rcases h2 with h2 | ⟨h2,_⟩
    ·rcases h2 with h2 | ⟨h2,_⟩ <;> omega
    ·rw[h2];exact Int.le_refl _
   omega
theorem ZT7 (h:(Za4 wd).2=0) {fd:Fed} (hf:fd∈wd.Feds):1≤fd.Look∧∀r∈fd.Rules,∀o∈r.Sends,fd.Look≤o.Delay:=by
 have h0:Zre fd wd.Parents.length=0:=by
  unfold Za4 at h
  split at h
  ·rename_i h1;exact absurd h h1
  ·split at h
   ·cases h
   ·exact ZjJ h fd hf
 rw[ZjK] at h0
 split at h0
 ·cases h0
 ·split at h0
  ·cases h0
  ·rename_i h2
   rw[Classical.not_not] at h2
   split at h0
   ·cases h0
   ·split at h0
    ·cases h0
    ·split at h0
     ·cases h0
     ·split at h0
      ·rename_i h3;exact absurd h0 h3
      ·rename_i h3
       rw[Classical.not_not] at h3
       exact ⟨h2.1,λr hr o ho=>(Zl9 (ZlL h3 r hr) o ho).2⟩
theorem ZTP (h:(Za4 wd).2=0) {g:Nat} {fd:Fed} (hg:wd.Feds[g]?=some fd) {b:Int × Int} {x m:Msg} (hm:m∈(ZoQ wd g fd b x).outs):m.key.From=g∧∃dl,fd.Look≤dl∧m.key.T=ZvS x.key.T dl:=by
 obtain ⟨i,o,to,ho,_,rfl⟩:=Znf hm
 refine ⟨rfl,o.Delay,?_,rfl⟩
 have hom:=List.mem_of_getElem? ho
 obtain ⟨h1,h2⟩:=ZT7 h (List.mem_of_getElem? hg)
 rcases ZqX fd.Rules b.1 x.Class with ⟨r,hr,_,_,e⟩ | ⟨_,e⟩
 ·rw[e] at hom
  exact h2 r hr o hom
 ·rw[e] at hom
  cases hom
variable {g:Nat} {m:Msg} {p q:Prop}
abbrev It:=Int × Msg
def ZTY (m:Msg) (p:Prop) (i:It):Prop:=if i.1=0 then p∨i.2=m else if i.1=1 then p∧i.2.key≠m.key else p
def aft (m:Msg) (p:Prop) (l:List It):Prop:=l.foldl (ZTY m) p
def Pr (m:Msg):Prop→List It→Prop
 | _,[]=>True
 | p,i::l=>(i.1=2→m.key.T<i.2.key.T→p)∧Pr m (ZTY m p i) l
theorem ZUf (a b:List It):aft m p (a++b)=aft m (aft m p a) b:=List.foldl_append
theorem ZT2 (i:It) (l:List It):aft m p (i::l)=aft m (ZTY m p i) l:=rfl
theorem ZUq:∀{a b:List It} {p:Prop},Pr m p (a++b)↔Pr m p a∧Pr m (aft m p a) b
 | [],b,p=>⟨λh=>⟨trivial,h⟩,λh=>h.2⟩
 | i::a,b,p=>by
  show _∧Pr m (ZTY m p i) (a++b)↔(_∧Pr m (ZTY m p i) a)∧Pr m (aft m (ZTY m p i) a) b
  rw[ZUq,and_assoc]
theorem ZTK:∀{l:List It} {p:Prop},(∀i∈l,i.1=0∨i.1=2)→(aft m p l↔p∨∃i∈l,i.1=0∧i.2=m)
 | [],p,_=>by simp[aft]
 | i::l,p,h=>by
  rw[ZT2,ZTK λj hj=>h j (List.mem_cons_of_mem _ hj)]
  unfold ZTY
  rcases h i (List.mem_cons_self ..) with h0 | h0
  ·rw[if_pos h0]
   simp only[List.mem_cons,exists_eq_or_imp,h0,true_and,or_assoc]
  ·rw[if_neg (by omega),if_neg (by omega)]
   simp only[List.mem_cons,exists_eq_or_imp,h0]
   simp
theorem ZUn:∀{l:List It} {p:Prop},(∀i∈l,i.1=1)→(aft m p l↔p∧∀i∈l,i.2.key≠m.key)
 | [],p,_=>by simp[aft]
 | i::l,p,h=>by
  rw[ZT2,ZUn λj hj=>h j (List.mem_cons_of_mem _ hj)]
  unfold ZTY
  rw[if_neg (by have:=h i (List.mem_cons_self ..);omega),if_pos (h i (List.mem_cons_self ..)),and_assoc]
  simp only[List.mem_cons,forall_eq_or_imp]
theorem ZUr {v:Int} (hm:m.key.T<v):∀{l:List It} {p:Prop},(∀i∈l,i.1≠2→v≤i.2.key.T)→(aft m p l↔p)
 | [],p,_=>Iff.rfl
 | i::l,p,h=>by
  rw[ZT2,ZUr hm λj hj=>h j (List.mem_cons_of_mem _ hj)]
  have h1:=h i (List.mem_cons_self ..)
  unfold ZTY
  split
  ·have:¬i.2=m:=λe=>by rw[e] at h1;have:=h1 (by omega);omega
   simp[this]
  ·split
   ·have:i.2.key≠m.key:=λe=>by rw[e] at h1;have:=h1 (by omega);omega
    simp[this]
   ·rfl
theorem ZUi:∀{l:List It} {p:Prop},(∀i∈l,i.1≠2)→Pr m p l
 | [],_,_=>trivial
 | i::_,_,h=>⟨λe=>absurd e (h i (List.mem_cons_self ..)),ZUi λj hj=>h j (List.mem_cons_of_mem _ hj)⟩
def ZTs (wd:Wd) (g:Nat) (l:List Msg) (m:Msg):Prop:=(m∈Zaz wd.Parents wd.Feds wd.Feds∧m.key.From=g)∨∃x∈Zc8 wd g (Zs wd g) (ZxV (Zs wd g)) l,m∈x.outs
theorem ZTA {a c:List Msg}:ZTs wd g (a++c) m↔ZTs wd g a m∨∃x∈Zc8 wd g (Zs wd g) (ZjE (Zs wd g) (ZxV (Zs wd g)) a) c,m∈x.outs:=by
 unfold ZTs
 rw[Zi3,or_assoc]
 simp only[List.mem_append,or_and_right,exists_or]
theorem ZTM (h:m∈Zaz wd.Parents wd.Feds wd.Feds):Zrh wd.Feds.length m∧∃i<wd.Feds.length,m.key.From=(i:Nat)∧m.To≠i∧m.key.Seq<(ZxV (Zs wd i)).2:=by
 refine ⟨Zql h,?_⟩
 obtain ⟨i,fd,hi,h1⟩:=Znu h
 have h2:=Zpu h1
 have e:Zs wd i=fd:=by unfold Zs;rw[List.getD_eq_getElem?_getD,hi];rfl
 refine ⟨i,(List.getElem?_eq_some_iff.1 hi).1,h2.from',h2.to.2.2,?_⟩
 rw[e]
 have:=h2.seq
 show _<(fd.Init.length:Int)
 omega
theorem ZUt {b:Int × Int} {l:List Msg} {x:En} (hx:x∈Zc8 wd g (Zs wd g) b l) (hm:m∈x.outs):Zrh wd.Feds.length m∧m.key.From=g∧m.To≠g∧b.2≤m.key.Seq∧m.key.Seq<(ZjE (Zs wd g) b l).2:=by
 induction l generalizing b with
 | nil=>cases hx
 | cons a l ih=>
  have hb:b.2≤(Zhz (Zs wd g) b a).2:=by show b.2≤b.2+_;omega
  have hup:∀(l:List Msg) (b:Int × Int),b.2≤(ZjE (Zs wd g) b l).2:=by
   intro l
   induction l with
   | nil=>exact λb=>Int.le_refl _
   | cons y l ih=>exact λb=>Int.le_trans (by show b.2≤b.2+_;omega) (ih (Zhz (Zs wd g) b y))
  rcases List.mem_cons.1 hx with rfl | hx
  ·have h2:=Zpu hm
   have h3:=h2.seq
   have h4:=hup l (Zhz (Zs wd g) b a)
   refine ⟨Zi2 hm,h2.from',h2.to.2.2,h3.1,?_⟩
   show _<(ZjE (Zs wd g) (Zhz (Zs wd g) b a) l).2
   have h5:(Zhz (Zs wd g) b a).2=b.2+(ZbY (Zs wd g).Rules b.1 a.Class).2.length:=rfl
   omega
  ·obtain ⟨h1,h2,h3,h4,h5⟩:=ih hx
   exact ⟨h1,h2,h3,by omega,h5⟩
theorem ZT5 (hg:g<wd.Feds.length) {l:List Msg} (h:ZTs wd g l m):Zrh wd.Feds.length m∧m.key.From=g∧m.To≠g∧m.key.Seq<(ZjE (Zs wd g) (ZxV (Zs wd g)) l).2:=by
 rcases h with ⟨h,e⟩ | ⟨x,hx,hm⟩
 ·obtain ⟨h1,i,_,h3,h4,h5⟩:=ZTM h
  have:i=g:=by omega
  subst this
  refine ⟨h1,h3,h4,Int.lt_of_lt_of_le h5 ?_⟩
  have hup:∀(l:List Msg) (b:Int × Int),b.2≤(ZjE (Zs wd i) b l).2:=by
   intro l
   induction l with
   | nil=>exact λb=>Int.le_refl _
   | cons y l ih=>exact λb=>Int.le_trans (by show b.2≤b.2+_;omega) (ih (Zhz (Zs wd i) b y))
  exact hup l _
 ·obtain ⟨h1,h2,h3,h4,h5⟩:=ZUt hx hm
  exact ⟨h1,h2,h3,h5⟩
theorem ZUK (hg:g<wd.Feds.length) {a c:List Msg}:ZTs wd g a m↔ZTs wd g (a++c) m∧∀x∈Zc8 wd g (Zs wd g) (ZjE (Zs wd g) (ZxV (Zs wd g)) a) c,∀y∈x.outs,y.To=m.To→y.key≠m.key:=by
 rw[ZTA]
 constructor
 ·intro h
  refine ⟨.inl h,λx hx y hy _ e=>?_⟩
  obtain ⟨_,_,_,h1,_⟩:=ZUt hx hy
  obtain ⟨_,_,_,h2⟩:=ZT5 hg h
  rw[e] at h1
  omega
 ·rintro ⟨h | ⟨x,hx,hm⟩,h2⟩
  ·exact h
  ·exact absurd rfl (h2 x hx m hm rfl)
theorem ZUU {a b c d:Int} (h:a≤b) (h':c≤d):ZvS a c≤ZvS b d:=by
 have key:∀{x y:Int},x≤y→ZaD x≤ZaD y:=by
  intro x y hxy
  unfold ZaD Inf Zsq
  (repeat' split) <;> omega
 unfold ZvS
 have h1:=key h
 have h2:=key h'
 exact key (by omega)
theorem ZUx {t d:Int} (ht:0≤t) (hd:1≤d) (h:t≤Zsq):t<ZvS t d:=by
 unfold ZvS ZaD Inf Zsq at*
 (repeat' split) <;> omega
theorem ZUc (h:(Za4 wd).2=0) (hg:g<wd.Feds.length) {b:Int × Int} {l:List Msg} {t:Int} (hl:∀e∈l,t≤e.key.T) {x:En} (hx:x∈Zc8 wd g (Zs wd g) b l) (hm:m∈x.outs):ZvS t (Zs wd g).Look≤m.key.T:=by
 obtain ⟨h1,b',h2⟩:=Zdm hx
 rw[h2] at hm
 obtain ⟨_,dl,h3,h4⟩:=ZTP h (ZaN hg) hm
 rw[h4]
 exact ZUU (hl _ h1) h3
theorem ZUu (h:(Za4 wd).2=0) (hg:g<wd.Feds.length):1≤(Zs wd g).Look:=(ZT7 h (List.mem_of_getElem? (ZaN hg))).1
theorem ZTU (h:(Za4 wd).2=0) (hg:g<wd.Feds.length) {l:List Msg} (hl:Upk l) {t:Int} (ht:0≤t∧t≤Zsq) (hm:m.key.T≤t):ZTs wd g l m↔ZTs wd g (Zc6 t l) m:=by
 have e:=ZnE hl t
 conv=>lhs;rw[←e]
 rw[ZTA]
 refine ⟨λh0=>h0.elim id λ⟨x,hx,hmx⟩=>?_,.inl⟩
 have h1:=ZUc h hg (t:=t) (λe he=>(Zsi.1 he).2) hx hmx
 have h2:=ZUx ht.1 (ZUu h hg) ht.2
 omega
structure PI (wd:Wd) (R:RS) (g f:Nat) (bb:Bool) (sr ho:List Msg) (clk:Int) (l:List It):Prop where
 addr:∀i∈l,i.1≠2→i.2.key.From=g∧i.2.To=f
 kind:∀i∈l,i.1=0∨(i.1=1∧bb=true)∨(i.1=2∧bb=false)
 flow:∀m:Msg,m.key.From=g→m.To=f→(aft m (m∈ho) l↔ZTs wd g sr m)
 pr:∀m∈ZTq R f,m.key.From=g→(m.key.T<clk→m∈ho)∧Pr m (m∈ho) l
variable {bb:Bool} {sr sr' ho ho':List Msg} {clk clk':Int} {l:List It} {i:It}
theorem PI.congr (h:PI wd R g f bb sr ho clk l) (hh:∀m:Msg,m.key.From=g→(m∈ho'↔m∈ho)) (hc:clk'≤clk):PI wd R g f bb sr ho' clk' l:=
 ⟨h.addr,h.kind,λm h1 h2=>by rw[propext (hh m h1)];exact h.flow m h1 h2,λm h1 h2=>by
  rw[propext (hh m h2)]
  exact ⟨λh3=>(h.pr m h1 h2).1 (by omega),(h.pr m h1 h2).2⟩⟩
theorem PI.more (h:PI wd R g f bb sr ho clk l) {b:List It} (hb:∀i∈b,i.1=0∧i.2.key.From=g∧i.2.To=f) (hs:∀m:Msg,m.To=f→(ZTs wd g sr' m↔ZTs wd g sr m∨∃i∈b,i.2=m)):PI wd R g f bb sr' ho clk (l++b):=by
 refine ⟨λi hi h2=>?_,λi hi=>?_,λm h1 h2=>?_,λm h1 h2=>?_⟩
 ·rcases List.mem_append.1 hi with hi | hi
  ·exact h.addr i hi h2
  ·exact (hb i hi).2
 ·rcases List.mem_append.1 hi with hi | hi
  ·exact h.kind i hi
  ·exact .inl (hb i hi).1
 ·rw[ZUf,ZTK λi hi=>.inl (hb i hi).1,h.flow m h1 h2,hs m h2]
  refine or_congr Iff.rfl ⟨?_,?_⟩
  ·rintro ⟨i,hi,_,e⟩;exact ⟨i,hi,e⟩
  ·rintro ⟨i,hi,e⟩;exact ⟨i,hi,(hb i hi).1,e⟩
 ·refine ⟨(h.pr m h1 h2).1,ZUq.2 ⟨(h.pr m h1 h2).2,ZUi λi hi=>?_⟩⟩
  have:=(hb i hi).1
  omega
theorem PI.less (h:PI wd R g f bb sr ho clk l) (hbb:bb=true) {b:List It} (hb:∀i∈b,i.1=1∧i.2.key.From=g∧i.2.To=f) (hs:∀m:Msg,m.To=f→(ZTs wd g sr' m↔ZTs wd g sr m∧∀i∈b,i.2.key≠m.key)):PI wd R g f bb sr' ho clk (l++b):=by
 refine ⟨λi hi h2=>?_,λi hi=>?_,λm h1 h2=>?_,λm h1 h2=>?_⟩
 ·rcases List.mem_append.1 hi with hi | hi
  ·exact h.addr i hi h2
  ·exact (hb i hi).2
 ·rcases List.mem_append.1 hi with hi | hi
  ·exact h.kind i hi
  ·exact .inr (.inl ⟨(hb i hi).1,hbb⟩)
 ·rw[ZUf,ZUn λi hi=>(hb i hi).1,h.flow m h1 h2,hs m h2]
 ·refine ⟨(h.pr m h1 h2).1,ZUq.2 ⟨(h.pr m h1 h2).2,ZUi λi hi=>?_⟩⟩
  have:=(hb i hi).1
  omega
theorem PI.bound (h:PI wd R g f bb sr ho clk l) (hbb:bb=false) {x:Msg} (hs:∀m∈ZTq R f,m.key.From=g→m.To=f→m.key.T<x.key.T→ZTs wd g sr m) (hto:∀m∈ZTq R f,m.To=f):PI wd R g f bb sr ho clk (l++[((2:Int),x)]):=by
 refine ⟨λi hi h2=>?_,λi hi=>?_,λm h1 h2=>?_,λm h1 h2=>?_⟩
 ·rcases List.mem_append.1 hi with hi | hi
  ·exact h.addr i hi h2
  ·rw[List.mem_singleton.1 hi] at h2;exact absurd rfl h2
 ·rcases List.mem_append.1 hi with hi | hi
  ·exact h.kind i hi
  ·rw[List.mem_singleton.1 hi];exact .inr (.inr ⟨rfl,hbb⟩)
 ·rw[ZUf,←h.flow m h1 h2]
  exact Iff.rfl
 ·refine ⟨(h.pr m h1 h2).1,ZUq.2 ⟨(h.pr m h1 h2).2,λ_ h3=>?_,trivial⟩⟩
  exact (h.flow m h2 (hto m h1)).2 (hs m h1 h2 (hto m h1) h3)
theorem PI.recv (h:PI wd R g f bb sr ho clk (i::l)) (hh:∀m:Msg,m.key.From=g→m.To=f→(m∈ho'↔ZTY m (m∈ho) i)) (hto:∀m∈ZTq R f,m.To=f) (hc:clk'≤clk∨(i.1=2∧clk'≤i.2.key.T)) (hn:bb=true→∀m∈ZTq R f,¬m.key.T<clk'):PI wd R g f bb sr ho' clk' l:=by
 refine ⟨λj hj=>h.addr j (List.mem_cons_of_mem _ hj),λj hj=>h.kind j (List.mem_cons_of_mem _ hj),λm h1 h2=>?_,λm h1 h2=>?_⟩
 ·rw[propext (hh m h1 h2)]
  exact h.flow m h1 h2
 ·have h3:=h.pr m h1 h2
  have e:=hh m h2 (hto m h1)
  rw[propext e]
  refine ⟨λh4=>?_,h3.2.2⟩
  rcases hc with hc | ⟨hc,h5⟩
  ·have h6:=h3.1 (by omega)
   unfold ZTY
   rcases h.kind i (List.mem_cons_self ..) with h0 | ⟨h0,hb⟩ | ⟨h0,_⟩
   ·rw[if_pos h0];exact .inl h6
   ·rw[if_neg (by omega),if_pos h0]
    exact absurd h4 (hn hb m h1)
   ·rw[if_neg (by omega),if_neg (by omega)];exact h6
  ·have h6:=h3.2.1 hc (by omega)
   unfold ZTY
   rw[if_neg (by omega),if_neg (by omega)]
   exact h6
structure WF (wd:Wd) (R:RS):Prop where
 chk:(Za4 wd).2=0
 up:∀f,f<wd.Feds.length→Upk (ZTq R f)
 to:∀f,f<wd.Feds.length→∀m∈ZTq R f,m.To=f∧m.key.T<wd.End
 src:∀f,f<wd.Feds.length→∀m∈ZTq R f,∃g<wd.Feds.length,g≠f∧m.key.From=(g:Nat)∧ZTs wd g (ZTq R g) m
 all:∀g,g<wd.Feds.length→∀m:Msg,ZTs wd g (ZTq R g) m→m.key.T<wd.End→∀f:Nat,m.To=f→m∈ZTq R f
 log:∀f,f<wd.Feds.length→ZK0 R f=(Zc8 wd f (Zs wd f) (ZxV (Zs wd f)) (ZTq R f)).map ZfV
theorem WF.of (hc:(Za4 wd).2=0) (h:ZU3 wd R):WF wd R:=by
 obtain ⟨k,hR⟩:=h.ok
 have get:∀f,f<wd.Feds.length→∃a,R.feds[f]?=some a∧ZK0 R f=a.log:=λf hf=>by
  obtain ⟨a,ha⟩:=Zk (l:=R.feds) (j:=f) (by rw[hR.len];exact hf)
  refine ⟨a,ha,?_⟩
  unfold ZK0
  rw[if_pos (by omega),Int.toNat_natCast,ha]
  rfl
 have hto:∀f,f<wd.Feds.length→∀m∈ZTq R f,m.To=f∧m.key.T<wd.End:=λf hf m hm=>by
  obtain ⟨a,ha,hl⟩:=get f hf
  unfold ZTq at hm
  rw[hl] at hm
  obtain ⟨d,hd,rfl⟩:=List.mem_map.1 hm
  have:=hR.logs f a ha d hd
  exact ⟨this.1,this.2.2⟩
 have htrue:∀m,ZUY wd R m↔∃g,g<wd.Feds.length∧ZTs wd g (ZTq R g) m:=λm=>by
  constructor
  ·rintro (hm | ⟨g,fd,hg,x,hx,hm⟩)
   ·obtain ⟨_,i,hi,e,_⟩:=ZTM hm
    exact ⟨i,hi,.inl ⟨hm,e⟩⟩
   ·have hg':=(List.getElem?_eq_some_iff.1 hg).1
    have e:fd=Zs wd g:=by have:=ZaN hg';rw[hg] at this;exact Option.some.inj this
    rw[e] at hx
    exact ⟨g,hg',.inr ⟨x,hx,hm⟩⟩
  ·rintro ⟨g,hg,⟨hm,_⟩ | ⟨x,hx,hm⟩⟩
   ·exact .inl hm
   ·exact .inr ⟨g,_,ZaN hg,x,hx,hm⟩
 refine ⟨hc,λf hf=>?_,hto,λf hf m hm=>?_,λg hg m hm hE f hmf=>?_,λf hf=>?_⟩
 ·obtain ⟨a,ha,hl⟩:=get f hf
  unfold ZTq Upk
  rw[hl,List.pairwise_map]
  refine (List.Pairwise.imp_of_mem ?_ (hR.inc a (List.mem_of_getElem? ha)))
  intro x y hx hy hxy
  rcases hxy with h1 | h1
  ·exact h1
  ·have h2:=(hR.logs f a ha x hx).1
   have h3:=(hR.logs f a ha y hy).1
   omega
 ·obtain ⟨g,hg,ho⟩:=(htrue m).1 ((h.all m).2 (.inr ⟨f,hf,hm⟩))
  obtain ⟨_,h2,h3,_⟩:=ZT5 hg ho
  refine ⟨g,hg,λe=>h3 ?_,h2,ho⟩
  rw[e]
  exact (hto f hf m hm).1
 ·rcases (h.all m).1 ((htrue m).2 ⟨g,hg,hm⟩) with hw | ⟨f',hf',hm'⟩
  ·have:=h.wait hw
   omega
  ·have:=(hto f' hf' m hm').1
   have:f'=f:=by omega
   rwa [←this]
 ·obtain ⟨a,ha,hl⟩:=get f hf
  have:=(h.is f _ a (ZaN hf) ha).1
  unfold ZTq
  rw[hl]
  exact this
theorem WF.valid (w:WF wd R) (hf:f<wd.Feds.length) (hm:m∈ZTq R f):0≤m.key.T:=by
 obtain ⟨g,hg,_,_,ho⟩:=w.src f hf m hm
 exact (Zmc (ZT5 hg ho).1.2).1
def Nd.good:Nd→List Msg
 | .slow N=>N.log.map Zak.m
 | .bold N _ _=>N.old
def Nd.fast:Nd→List Msg
 | .slow N=>N.log.map Zak.m
 | .bold N _ _=>N.old++N.ms
def Nd.hold:Nd→List Msg
 | .slow N=>N.log.map Zak.m++N.q
 | .bold N _ _=>N.old++(N.ms++N.q)
def Nd.clkAt (j:Nat):Nd→Int
 | .slow N=>N.clk.get j
 | .bold N _ _=>N.at' j
def Nd.src (n:Nd) (bold:Bool):List Msg:=if bold then n.fast else n.good
structure NI (wd:Wd) (R:RS) (f:Nat) (n:Nd):Prop where
 kind:n.isBold=Zci wd f
 pre:∃l,ZTq R f=n.good++l
 held:∀m∈n.hold,m.To=f∧Yu m.key.T=true∧∃g<wd.Feds.length,g≠f∧m.key.From=(g:Nat)
 slow:∀N,n=.slow N→N.log=(Zc8 wd f (Zs wd f) (ZxV (Zs wd f)) (N.log.map Zak.m)).map ZfV∧(N.st,N.sent)=ZjE (Zs wd f) (ZxV (Zs wd f)) (N.log.map Zak.m)∧N.clk.L.length=wd.Feds.length∧N.clk.self=f
 bold:∀N r t,n=.bold N r t→∀x∈ZTq R f,x.key.T<N.fl→x∈N.old
theorem NI.logs {n:Nd} (h:NI wd R f n) (w:WF wd R) (hf:f<wd.Feds.length):∃l,ZK0 R f=n.log wd f++l:=by
 obtain ⟨l,hl⟩:=h.pre
 have e:n.log wd f=(Zc8 wd f (Zs wd f) (ZxV (Zs wd f)) n.good).map ZfV:=by
  cases n with
  | slow N=>exact (h.slow N rfl).1
  | bold N r t=>rfl
 rw[w.log f hf,hl,Zi3,List.map_append,←e]
 exact ⟨_,rfl⟩
variable {a b:Nat} {N N':Nat→Nd} {tr tr':Nat→Nat→List It}
abbrev ZTv (wd:Wd) (g f:Nat):Bool:=Zci wd g&&Zci wd f
structure FI (wd:Wd) (R:RS) (N:Nat→Nd) (tr:Nat→Nat→List It):Prop where
 ok:∀f,f<wd.Feds.length→ZAM wd f (N f)
 nd:∀f,f<wd.Feds.length→NI wd R f (N f)
 pr:∀g f,g<wd.Feds.length→f<wd.Feds.length→g≠f→PI wd R g f (ZTv wd g f) ((N g).src (Zci wd f)) (N f).hold ((N f).clkAt g) (tr g f)
theorem FI.change (h:FI wd R N tr) (ha:a<wd.Feds.length) (hN:∀f,f≠a→N' f=N f) (hok:ZAM wd a (N' a)) (hni:NI wd R a (N' a))
  (hin:∀g,g<wd.Feds.length→g≠a→∀src,PI wd R g a (ZTv wd g a) src (N a).hold ((N a).clkAt g) (tr g a)→PI wd R g a (ZTv wd g a) src (N' a).hold ((N' a).clkAt g) (tr' g a))
  (hout:∀f,f<wd.Feds.length→f≠a→∀hold clk,PI wd R a f (ZTv wd a f) ((N a).src (Zci wd f)) hold clk (tr a f)→PI wd R a f (ZTv wd a f) ((N' a).src (Zci wd f)) hold clk (tr' a f))
  (htr:∀g f,g≠a→f≠a→tr' g f=tr g f):FI wd R N' tr':=by
 refine ⟨λf hf=>?_,λf hf=>?_,λg f hg hf hgf=>?_⟩
 ·by_cases e:f=a
  ·subst e;exact hok
  ·rw[hN f e];exact h.ok f hf
 ·by_cases e:f=a
  ·subst e;exact hni
  ·rw[hN f e];exact h.nd f hf
 ·have h1:=h.pr g f hg hf hgf
  by_cases e:f=a
  ·subst e
   rw[hN g hgf]
   exact hin g hg hgf _ h1
  ·rw[hN f e]
   by_cases e2:g=a
   ·subst e2
    exact hout f hf e _ _ h1
   ·rw[hN g e2,htr g f e2 e]
    exact h1
theorem FI.grow (h:FI wd R N tr) (ha:a<wd.Feds.length) (hN:∀f,f≠a→N' f=N f) (hok:ZAM wd a (N' a)) (hni:NI wd R a (N' a)) (hh:(N' a).hold=(N a).hold) (hc:∀g,(N' a).clkAt g=(N a).clkAt g) {ext:Nat→List It}
  (htr:∀g f,tr' g f=if g=a then tr g f++ext f else tr g f)
  (hout:∀f,f<wd.Feds.length→f≠a→∀hold clk,PI wd R a f (ZTv wd a f) ((N a).src (Zci wd f)) hold clk (tr a f)→PI wd R a f (ZTv wd a f) ((N' a).src (Zci wd f)) hold clk (tr a f++ext f)):FI wd R N' tr':=
 h.change ha hN hok hni (λg _ hga src h1=>by rw[hh,hc,htr,if_neg hga];exact h1) (λf hf hfa hold clk h1=>by rw[htr,if_pos rfl];exact hout f hf hfa hold clk h1) λg f hga _=>by rw[htr,if_neg hga]
def toF (f:Nat) (l:List Zn):List It:=(l.filter λi=>decide (i.m.To=(f:Int))).map λi=>(i.Kind,i.m)
theorem ZUO (f:Nat) (a b:List Zn):toF f (a++b)=toF f a++toF f b:=by unfold toF;rw[List.filter_append,List.map_append]
theorem ZTW {i:It} {l:List Zn}:i∈toF f l↔∃x∈l,x.m.To=(f:Int)∧i=(x.Kind,x.m):=by
 unfold toF
 simp only[List.mem_map,List.mem_filter,decide_eq_true_eq]
 constructor
 ·rintro ⟨x,⟨h1,h2⟩,h3⟩;exact ⟨x,h1,h2,h3.symm⟩
 ·rintro ⟨x,h1,h2,h3⟩;exact ⟨x,⟨h1,h2⟩,h3.symm⟩
theorem FI.node_kind (h:FI wd R N tr) (ha:a<wd.Feds.length):(N a).isBold=Zci wd a:=(h.nd a ha).kind
theorem ZVa (wd:Wd) (g:Nat) (l:List Msg) (x:Msg):ZTs wd g (l++[x]) m↔ZTs wd g l m∨m∈(ZoQ wd g (Zs wd g) (ZjE (Zs wd g) (ZxV (Zs wd g)) l) x).outs:=by
 rw[ZTA]
 refine or_congr Iff.rfl ⟨?_,λh=>⟨_,List.mem_singleton.2 rfl,h⟩⟩
 rintro ⟨y,hy,h⟩
 rw[List.mem_singleton.1 hy] at h
 exact h
theorem FI.src_pre (h:FI wd R N tr) (hg:g<wd.Feds.length) (hb:ZTv wd g f=false):∃l,ZTq R g=(N g).src (Zci wd f)++l:=by
 obtain ⟨l,hl⟩:=(h.nd g hg).pre
 refine ⟨l,?_⟩
 rw[hl]
 have hk:=h.node_kind hg
 unfold Nd.src
 split
 ·rename_i hf
  cases hn:N g with
  | slow M=>rfl
  | bold M r t=>
   rw[hn] at hk
   rw[ZTv,←hk,hf] at hb
   cases hb
 ·rfl
theorem FI.sound (h:FI wd R N tr) (ha:a<wd.Feds.length) (hg:g<wd.Feds.length) (hga:g≠a) (hb:ZTv wd g a=false) (hm:m∈(N a).hold) (hf:m.key.From=g):ZTs wd g (ZTq R g) m:=by
 have h1:=h.pr g a hg ha hga
 obtain ⟨l,hl⟩:=h.src_pre (f:=a) hg hb
 rw[hl,ZTA]
 refine .inl ((h1.flow m hf ((h.nd a ha).held m hm).1).1 ?_)
 refine (ZTK λi hi=>?_).2 (.inl hm)
 rcases h1.kind i hi with k | ⟨_,k⟩ | ⟨k,_⟩
 ·exact .inl k
 ·rw[hb] at k;cases k
 ·exact .inr k
theorem ZUa {M:ND} (h:FI wd R N tr) (ha:a<wd.Feds.length) (hn:N a=.slow M) (g:Nat):ZTv wd g a=false∧ZTv wd a g=false:=by
 have:=h.node_kind ha
 rw[hn] at this
 unfold ZTv
 rw[←this]
 exact ⟨Bool.and_false _,Bool.false_and _⟩
theorem ZUL (w:WF wd R) (h:FI wd R N tr) (ha:a<wd.Feds.length) {M:ND} (hn:N a=.slow M) (hs:Zh8 wd M=true):∃l,ZTq R a=M.log.map Zak.m++hdM M.q::l:=by
 obtain ⟨y,r,hq,hh,hE,hb⟩:=Ztp hs
 have hni:=h.nd a ha
 have hok:=h.ok a ha
 rw[hn] at hni hok
 obtain ⟨l,hl⟩:=hni.pre
 change ZTq R a=M.log.map Zak.m++l at hl
 obtain ⟨_,_,hcl,hcs⟩:=hni.slow M rfl
 have hup:=w.up a ha
 rw[hl] at hup
 rw[hh]
 have got:∀x∈ZTq R a,x.key.T<M.clk.bound→x∈M.log.map Zak.m++M.q:=λx hx hxb=>by
  obtain ⟨g,hg,hga,hfr,_⟩:=w.src a ha x hx
  have h1:=(h.pr g a hg ha hga).pr x hx hfr
  rw[hn] at h1
  refine h1.1 (Int.lt_of_lt_of_le hxb ?_)
  exact Clk.bound_le_get ⟨by omega,by rw[hcl];omega,by rw[hcs];omega⟩
 have hy:y∈ZTq R a:=by
  have h1:=hni.held y (List.mem_append_right _ (by show y∈M.q;rw[hq];exact List.mem_cons_self ..))
  obtain ⟨h1,_,g,hg,hga,hfr⟩:=h1
  refine w.all g hg y (h.sound ha hg hga (ZUa h ha hn g).1 ?_ hfr) hE a h1
  rw[hn]
  exact List.mem_append_right _ (by show y∈M.q;rw[hq];exact List.mem_cons_self ..)
 rw[hl] at hy
 have hyd:y∉M.log.map Zak.m:=λhd=>by
  obtain ⟨d,hd,e⟩:=List.mem_map.1 hd
  have:=(hok.1.ahead d hd).1 y (by rw[hq];exact List.mem_cons_self ..)
  rw[e] at this
  exact Zv.irrefl _ this
 have hyl:y∈l:=(List.mem_append.1 hy).resolve_left hyd
 cases l with
 | nil=>cases hyl
 | cons x l=>
  refine ⟨l,?_⟩
  rw[hl]
  rcases List.mem_cons.1 hyl with rfl | hyl
  ·rfl
  ·exfalso
   have hxy:Zv x.key y.key:=(List.pairwise_cons.1 hup.right).1 y hyl
   have hxl:x∈M.log.map Zak.m++x::l:=List.mem_append_right _ (List.mem_cons_self ..)
   have hx:=got x (by rw[hl];exact hxl) (by unfold Zv at hxy;omega)
   rcases List.mem_append.1 hx with hx | hx
   ·exact Zv.irrefl _ (hup.mid hx (List.mem_cons_self ..))
   ·have hu:=hok.2.up
    rw[hq] at hu hx
    rcases List.mem_cons.1 hx with rfl | hx
    ·exact Zv.irrefl _ hxy
    ·exact ((List.pairwise_cons.1 hu).1 x hx).asymm hxy
theorem ZTu {l:List Msg} {i:It}:i∈toF f (l.map Zae)↔i.1=0∧i.2∈l∧i.2.To=(f:Int):=by
 rw[ZTW]
 constructor
 ·rintro ⟨x,hx,h1,rfl⟩
  obtain ⟨m,hm,rfl⟩:=List.mem_map.1 hx
  exact ⟨rfl,hm,h1⟩
 ·rintro ⟨h0,h1,h2⟩
  exact ⟨Zae i.2,List.mem_map.2 ⟨_,h1,rfl⟩,h2,Prod.ext h0 rfl⟩
theorem FI.step_slow {M:ND} (w:WF wd R) (h:FI wd R N tr) (ha:a<wd.Feds.length) (hn:N a=.slow M) (hs:Zh8 wd M=true) (hN:∀f,N' f=if f=a then .slow (Zmn (Zs wd a) M) else N f)
  (htr:∀g f,tr' g f=if g=a then tr g f++toF f ((Zo7 wd a (Zs wd a) M).map Zae) else tr g f):FI wd R N' tr':=by
 have hNa:N' a=.slow (Zmn (Zs wd a) M):=by rw[hN,if_pos rfl]
 have hni:=h.nd a ha
 have hok:=h.ok a ha
 rw[hn] at hni hok
 obtain ⟨l,hl⟩:=ZUL w h ha hn hs
 obtain ⟨y,r,hq,hh,_,_⟩:=Ztp hs
 obtain ⟨h1,h2,h3,h4⟩:=hni.slow M rfl
 have hd:(Zmn (Zs wd a) M).log.map Zak.m=M.log.map Zak.m++[hdM M.q]:=by
  show (M.log++[_]).map Zak.m=_
  rw[List.map_append]
  rfl
 have e1:M.st=(ZjE (Zs wd a) (ZxV (Zs wd a)) (M.log.map Zak.m)).1:=congrArg Prod.fst h2
 have e2:M.sent=(ZjE (Zs wd a) (ZxV (Zs wd a)) (M.log.map Zak.m)).2:=congrArg Prod.snd h2
 have hhold:(Nd.slow (Zmn (Zs wd a) M)).hold=(Nd.slow M).hold:=by
  show (Zmn (Zs wd a) M).log.map Zak.m++M.q.tail=M.log.map Zak.m++M.q
  rw[hd,hq,List.append_assoc]
  rfl
 have hbo:Zo7 wd a (Zs wd a) M=(ZoQ wd a (Zs wd a) (ZjE (Zs wd a) (ZxV (Zs wd a)) (M.log.map Zak.m)) (hdM M.q)).outs:=by
  rw[←h2]
  rfl
 refine h.grow ha (λf hf=>by rw[hN,if_neg hf]) ?_ ?_ ?_ (λg=>?_) htr λf hf hfa hold clk h5=>?_
 ·rw[hNa];exact ⟨Zps hok.1 hok.2 hs,hok.2.tail⟩
 ·rw[hNa]
  refine ⟨hni.kind,⟨l,?_⟩,λm hm=>hni.held m (by rw[←hhold];exact hm),λM' e=>?_,λM' r t e=>by cases e⟩
  ·show ZTq R a=(Zmn (Zs wd a) M).log.map Zak.m++l
   rw[hd,hl,List.append_assoc]
   rfl
  ·cases e
   rw[hd]
   refine ⟨?_,?_,h3,h4⟩
   ·show M.log++[ZmU (Zs wd a) M]=_
    rw[Zi3,List.map_append,←h1]
    congr 1
    show [ZmU (Zs wd a) M]=[ZfV (ZoQ wd a (Zs wd a) (ZjE (Zs wd a) (ZxV (Zs wd a)) (M.log.map Zak.m)) (hdM M.q))]
    rw[←h2]
    rfl
   ·show ((ZuU (Zs wd a) M).1,M.sent+((ZuU (Zs wd a) M).2.length:Int))=_
    rw[Zi8,←h2]
    rfl
 ·rw[hNa,hn,hhold]
 ·rw[hNa,hn];rfl
 ·have e:∀b,(N' a).src b=(N a).src b++[hdM M.q]:=λb=>by
   rw[hNa,hn]
   cases b
   ·exact hd
   ·exact hd
  have e':∀b,(N a).src b=M.log.map Zak.m:=λb=>by rw[hn];cases b <;> rfl
  rw[e]
  refine h5.more (λi hi=>?_) λm hm=>?_
  ·obtain ⟨k1,k2,k3⟩:=ZTu.1 hi
   refine ⟨k1,?_,k3⟩
   rw[hbo] at k2
   exact (ZTP w.chk (ZaN ha) k2).1
  ·rw[ZVa,e',←hbo]
   refine or_congr Iff.rfl ⟨λhm'=>⟨(0,m),ZTu.2 ⟨rfl,hm',hm⟩,rfl⟩,?_⟩
   rintro ⟨i,hi,rfl⟩
   exact (ZTu.1 hi).2.1
theorem ZTX (wd:Wd) (f:Nat):Zci wd (f:Int)=Zci wd f:=rfl
theorem FI.step_bold {M:WN} {r:Nat} {t:Int} (w:WF wd R) (h:FI wd R N tr) (ha:a<wd.Feds.length) (hn:N a=.bold M r t) (hs:Zcl wd a (Zs wd a) M=0) (hN:∀f,N' f=if f=a then .bold (Zcv M) r t else N f)
  (htr:∀g f,tr' g f=if g=a then tr g f++toF f (ZqQ wd (Zin wd a (Zs wd a) M)) else tr g f):FI wd R N' tr':=by
 have hNa:N' a=.bold (Zcv M) r t:=by rw[hN,if_pos rfl]
 have hni:=h.nd a ha
 have hok:=h.ok a ha
 rw[hn] at hni hok
 obtain ⟨k,hW⟩:=hok
 obtain ⟨⟨y,q,hq,_⟩,_⟩:=Zr5 hs
 have hh:hdM M.q=y:=by rw[hq];rfl
 have hhold:(Nd.bold (Zcv M) r t).hold=(Nd.bold M r t).hold:=by
  show M.old++((M.ms++[hdM M.q])++M.q.tail)=M.old++(M.ms++M.q)
  rw[hq,List.append_assoc]
  rfl
 have hab:Zci wd a=true:=hni.kind.symm
 refine h.grow ha (λf hf=>by rw[hN,if_neg hf]) ?_ ?_ ?_ (λg=>?_) htr λf hf hfa hold clk h5=>?_
 ·rw[hNa];exact ⟨k+1,hW.step hs⟩
 ·rw[hNa]
  refine ⟨hni.kind,hni.pre,λm hm=>hni.held m (by rw[←hhold];exact hm),λM' e=>(by cases e),λM' r' t' e=>?_⟩
  cases e
  exact hni.bold M r t rfl
 ·rw[hNa,hn,hhold]
 ·rw[hNa,hn];rfl
 ·cases hb:Zci wd f with
  | false=>
   have e:(N' a).src false=(N a).src false:=by rw[hNa,hn];rfl
   rw[hb] at h5
   rw[e]
   refine h5.more (λi hi=>?_) λm hm=>?_
   ·exfalso
    obtain ⟨k1,k2,k3⟩:=ZTu.1 hi
    have:=(List.mem_filter.1 k2).2
    rw[k3,ZTX,hb] at this
    cases this
   ·refine ⟨.inl,λh=>h.elim id λ⟨i,hi,_⟩=>?_⟩
    exfalso
    obtain ⟨k1,k2,k3⟩:=ZTu.1 hi
    have:=(List.mem_filter.1 k2).2
    rw[k3,ZTX,hb] at this
    cases this
  | true=>
   have e:(N' a).src true=(N a).src true++[hdM M.q]:=by
    rw[hNa,hn]
    show M.old++(M.ms++[hdM M.q])=(M.old++M.ms)++[hdM M.q]
    rw[List.append_assoc]
   have e':ZjE (Zs wd a) (ZxV (Zs wd a)) ((N a).src true)=M.now (Zs wd a):=by
    rw[hn]
    show ZjE _ _ (M.old++M.ms)=_
    rw[Zi8]
    rfl
   rw[hb] at h5
   rw[e]
   refine h5.more (λi hi=>?_) λm hm=>?_
   ·obtain ⟨k1,k2,k3⟩:=ZTu.1 hi
    exact ⟨k1,(ZTP w.chk (ZaN ha) (List.mem_filter.1 k2).1).1,k3⟩
   ·rw[ZVa,e']
    refine or_congr Iff.rfl ⟨λhm'=>⟨(0,m),ZTu.2 ⟨rfl,List.mem_filter.2 ⟨hm',by rw[hm];exact hb⟩,hm⟩,rfl⟩,?_⟩
    rintro ⟨i,hi,rfl⟩
    exact (List.mem_filter.1 (ZTu.1 hi).2.1).1
theorem ZUG {n f:Nat} {p:Nat→Bool}:((List.range n).filter λj=>decide (j=f)&&p j)=if f<n∧p f=true then [f] else []:=by
 induction n with
 | zero=>rw[if_neg (by omega)];rfl
 | succ n ih=>
  rw[List.range_succ,List.filter_append,ih,List.filter_cons,List.filter_nil]
  by_cases e:n=f
  ·subst e
   rw[if_neg (by omega)]
   cases hp:p n with
   | true=>rw[if_pos (by simp),if_pos ⟨by omega,rfl⟩];rfl
   | false=>rw[if_neg (by simp),if_neg (by simp)];rfl
  ·rw[decide_eq_false e,if_neg (show ¬(false&&p n)=true by simp)]
   by_cases h:f<n∧p f=true
   ·rw[if_pos h,if_pos ⟨by omega,h.2⟩,List.append_nil]
   ·rw[if_neg h,if_neg λh'=>h ⟨by omega,h'.2⟩,List.append_nil]
def bnd (t:Int) (f:Nat):Msg:=⟨⟨t,0,0⟩,f,0,0⟩
theorem ZUT {k:KS} {t:Int}:toF f (ZaW k a t)=if f<k.nodes.length∧(!decide (f=a)&&!((k.node a).isBold&&(k.node f).isBold))=true then [((2:Int),bnd t f)] else []:=by
 unfold toF ZaW
 rw[List.filter_map,List.filter_filter,List.map_map]
 have e:∀j:Nat,((λi:Zn=>decide (i.m.To=(f:Int)))∘λf:Nat=>(⟨2,⟨⟨t,0,0⟩,(f:Int),0,0⟩,0⟩:Zn)) j=decide (j=f):=λj=>by
  show decide ((j:Int)=f)=_
  by_cases h:j=f
  ·rw[decide_eq_true h,decide_eq_true (by omega)]
  ·rw[decide_eq_false h,decide_eq_false (by omega)]
 simp only[e]
 rw[ZUG]
 split <;> rfl
theorem FI.tell (h:FI wd R N tr) (ha:a<wd.Feds.length) (hN:∀f,f≠a→N' f=N f) (hok:ZAM wd a (N' a)) (hni:NI wd R a (N' a)) (hh:(N' a).hold=(N a).hold) (hc:∀g,(N' a).clkAt g=(N a).clkAt g) (hs:∀b,(N' a).src b=(N a).src b) (w:WF wd R) {t:Int}
  (hp:∀f,f<wd.Feds.length→f≠a→ZTv wd a f=false→∀m∈ZTq R f,m.key.From=a→m.key.T<t→ZTs wd a ((N a).src (Zci wd f)) m) {ext:Nat→List It}
  (htr:∀g f,tr' g f=if g=a then tr g f++ext f else tr g f) (hext:∀f,f<wd.Feds.length→f≠a→ext f=if ZTv wd a f=false then [((2:Int),bnd t f)] else []):FI wd R N' tr':=by
 refine h.grow ha hN hok hni hh hc htr λf hf hfa hold clk h5=>?_
 rw[hs,hext f hf hfa]
 split
 ·rename_i hb
  exact h5.bound hb (λm hm h1 _ h3=>hp f hf hfa hb m hm h1 h3) λm hm=>(w.to f hf m hm).1
 ·rw[List.append_nil];exact h5
theorem ZUb (w:WF wd R) (ha:a<wd.Feds.length) (hf:f<wd.Feds.length) {c l:List Msg} {t:Int} (hl:ZTq R a=c++l) (ht:∀x∈l,t≤x.key.T) (hm:m∈ZTq R f) (hfr:m.key.From=a) (hlt:m.key.T<ZvS t (Zs wd a).Look):ZTs wd a c m:=by
 obtain ⟨g,hg,_,h1,h2⟩:=w.src f hf m hm
 have:g=a:=by omega
 subst this
 rw[hl,ZTA] at h2
 refine h2.elim id λ⟨x,hx,hmx⟩=>?_
 have:=ZUc w.chk hg ht hx hmx
 omega
theorem FI.tell_slow {M:ND} (w:WF wd R) (h:FI wd R N tr) (ha:a<wd.Feds.length) (hn:N a=.slow M) (hN:∀f,N' f=if f=a then .slow (ZiG (Zs wd a) M) else N f) {ext:Nat→List It}
  (htr:∀g f,tr' g f=if g=a then tr g f++ext f else tr g f) (hext:∀f,f<wd.Feds.length→f≠a→ext f=if ZTv wd a f=false then [((2:Int),bnd (M.clk.tellT (Zcd M) (Zs wd a).Look) f)] else []):FI wd R N' tr':=by
 have hNa:N' a=.slow (ZiG (Zs wd a) M):=by rw[hN,if_pos rfl]
 have hni:=h.nd a ha
 have hok:=h.ok a ha
 rw[hn] at hni hok
 obtain ⟨h1,h2,h3,h4⟩:=hni.slow M rfl
 obtain ⟨l,hl⟩:=hni.pre
 change ZTq R a=M.log.map Zak.m++l at hl
 have hL:(ZiG (Zs wd a) M).clk.L=M.clk.L:=by
  show (M.clk.tell _ _).L=_
  unfold Clk.tell
  split <;> rfl
 have hS:(ZiG (Zs wd a) M).clk.self=M.clk.self:=by
  show (M.clk.tell _ _).self=_
  unfold Clk.tell
  split <;> rfl
 have hup:=w.up a ha
 rw[hl] at hup
 refine h.tell ha (λf hf=>by rw[hN,if_neg hf]) ?_ ?_ (by rw[hNa,hn];rfl) (λg=>?_) (λb=>by rw[hNa,hn];cases b <;> rfl) w ?_ htr hext
 ·rw[hNa];exact ⟨Zpg hok.1 _,hok.2⟩
 ·rw[hNa]
  refine ⟨hni.kind,hni.pre,hni.held,λM' e=>?_,λM' r t e=>by cases e⟩
  cases e
  exact ⟨h1,h2,by rw[hL];exact h3,by rw[hS];exact h4⟩
 ·rw[hNa,hn]
  show (ZiG (Zs wd a) M).clk.get g=M.clk.get g
  unfold Clk.get
  rw[hL]
 ·intro f hf hfa _ m hm hfr hlt
  have e':∀b,(N a).src b=M.log.map Zak.m:=λb=>by rw[hn];cases b <;> rfl
  rw[e']
  refine ZUb w ha hf hl (t:=ZaP [Zcd M,M.clk.bound]) (λx hx=>?_) hm hfr hlt
  have hxm:x∈ZTq R a:=by rw[hl];exact List.mem_append_right _ hx
  have hx0:=w.valid ha hxm
  have hE:=(w.to a ha x hxm).2
  have hE2:=(ZfI w.chk).en.2
  have hcl:∀y,ZaP [Zcd M,M.clk.bound]≤y∨¬ZaP [Zcd M,M.clk.bound]≤y:=λy=>Classical.em _
  rcases hcl x.key.T with hc | hc
  ·exact hc
  exfalso
  have k1:ZaP [Zcd M,M.clk.bound]≤ZaD (Zcd M):=ZoZ (List.mem_cons_self ..)
  have k2:ZaP [Zcd M,M.clk.bound]≤ZaD M.clk.bound:=ZoZ (List.mem_cons_of_mem _ (List.mem_cons_self ..))
  have cl:∀y,x.key.T<ZaD y→x.key.T<y:=λy hy=>by
   unfold ZaD Inf Zsq at hy
   (repeat' split at hy) <;> omega
  have c1:=cl (Zcd M) (by omega)
  have c2:=cl M.clk.bound (by omega)
  obtain ⟨g,hg,hga,hgf,_⟩:=w.src a ha x hxm
  have h5:=(h.pr g a hg ha hga).pr x hxm hgf
  rw[hn] at h5
  have h6:=h5.1 (Int.lt_of_lt_of_le c2 (Clk.bound_le_get ⟨by omega,by rw[h3];omega,by rw[h4];omega⟩))
  rcases List.mem_append.1 h6 with h6 | h6
  ·exact Zv.irrefl _ (hup.mid h6 hx)
  ·unfold Zcd at c1
   cases hq:M.q with
   | nil=>rw[hq] at h6;cases h6
   | cons y r=>
    rw[hq] at h6 c1
    rw[if_pos (show ZjD (y::r)=true from rfl)] at c1
    change x.key.T<y.key.T at c1
    have hu:=hok.2.up
    rw[hq] at hu
    rcases List.mem_cons.1 h6 with rfl | h6
    ·omega
    ·have:=(List.pairwise_cons.1 hu).1 x h6
     unfold Zv at this
     omega
theorem FI.tell_bold {M:WN} {r:Nat} {t:Int} (w:WF wd R) (h:FI wd R N tr) (ha:a<wd.Feds.length) (hn:N a=.bold M r t) {t':Int} (hN:∀f,N' f=if f=a then .bold M r t' else N f) {ext:Nat→List It}
  (htr:∀g f,tr' g f=if g=a then tr g f++ext f else tr g f) (hext:∀f,f<wd.Feds.length→f≠a→ext f=if ZTv wd a f=false then [((2:Int),bnd (Za6 (Zs wd a) M) f)] else []):FI wd R N' tr':=by
 have hNa:N' a=.bold M r t':=by rw[hN,if_pos rfl]
 have hni:=h.nd a ha
 have hok:=h.ok a ha
 rw[hn] at hni hok
 obtain ⟨l,hl⟩:=hni.pre
 change ZTq R a=M.old++l at hl
 have hup:=w.up a ha
 rw[hl] at hup
 refine h.tell ha (λf hf=>by rw[hN,if_neg hf]) ?_ ?_ (by rw[hNa,hn];rfl) (λg=>by rw[hNa,hn];rfl) (λb=>by rw[hNa,hn];cases b <;> rfl) w ?_ htr hext
 ·rw[hNa];exact hok
 ·rw[hNa]
  refine ⟨hni.kind,hni.pre,hni.held,λM' e=>(by cases e),λM' r t e=>?_⟩
  cases e
  exact hni.bold M _ _ rfl
 ·intro f hf hfa hb m hm hfr hlt
  have hbf:Zci wd f=false:=by
   have:Zci wd a=true:=hni.kind.symm
   unfold ZTv at hb
   rwa [this,Bool.true_and] at hb
  have e':(N a).src (Zci wd f)=M.old:=by rw[hn,hbf];rfl
  rw[e']
  refine ZUb w ha hf hl (t:=M.fl) (λx hx=>?_) hm hfr hlt
  have hcl:=Classical.em (M.fl≤x.key.T)
  refine hcl.elim id λhc=>?_
  exfalso
  have:=hni.bold M r t rfl x (by rw[hl];exact List.mem_append_right _ hx) (by omega)
  exact Zv.irrefl _ (hup.mid this hx)
variable {i:Zn}
theorem FI.recv (h:FI wd R N tr) (ha:a<wd.Feds.length) (hb:b<wd.Feds.length) (hab:a≠b) (w:WF wd R) (hq:tr a b=(i.Kind,i.m)::l) (hN:∀f,f≠b→N' f=N f) (hok:ZAM wd b (N' b)) (hni:NI wd R b (N' b))
  (hh:∀m:Msg,m.To=b→(m∈(N' b).hold↔ZTY m (m∈(N b).hold) (i.Kind,i.m)))
  (hc:∀g,(N' b).clkAt g=if g=a∧i.Kind=2 then i.m.key.T else (N b).clkAt g) (hn:ZTv wd a b=true→(N b).clkAt a<0) {ext:Nat→List It}
  (htr:∀g f,tr' g f=if g=a∧f=b then l else if g=b then tr g f++ext f else tr g f)
  (hout:∀f,f<wd.Feds.length→f≠b→∀hold clk,PI wd R b f (ZTv wd b f) ((N b).src (Zci wd f)) hold clk (tr b f)→PI wd R b f (ZTv wd b f) ((N' b).src (Zci wd f)) hold clk (tr b f++ext f)):FI wd R N' tr':=by
 have h0:=h.pr a b ha hb hab
 rw[hq] at h0
 have h1:=h0.addr _ (List.mem_cons_self ..)
 have h2:=h0.kind _ (List.mem_cons_self ..)
 refine h.change hb hN hok hni (λg hg hgb src h3=>?_) (λf hf hfb hold clk h3=>?_) λg f hgb hfb=>by rw[htr,if_neg λh=>hfb h.2,if_neg hgb]
 ·by_cases e:g=a
  ·subst e
   rw[htr,if_pos ⟨rfl,rfl⟩]
   rw[hq] at h3
   refine h3.recv (λm _ hto=>hh m hto) (λm hm=>(w.to b hb m hm).1) ?_ λhbb m hm=>?_
   ·rw[hc]
    by_cases e2:i.Kind=2
    ·rw[if_pos ⟨rfl,e2⟩];exact .inr ⟨e2,Int.le_refl _⟩
    ·rw[if_neg λh=>e2 h.2];exact .inl (Int.le_refl _)
   ·have:=w.valid hb hm
    have h4:=hn hbb
    rw[hc,if_neg λh=>?_]
    ·omega
    ·rcases h2 with h2 | ⟨h2,_⟩ | ⟨_,h2⟩
     ·have h5:=h.2;change i.Kind=0 at h2;omega
     ·have h5:=h.2;change i.Kind=1 at h2;omega
     ·rw[hbb] at h2;cases h2
  ·rw[htr,if_neg λh=>e h.1,if_neg hgb]
   by_cases e2:i.Kind=2
   ·have hw:∀m:Msg,m.To=b→(m∈(N' b).hold↔m∈(N b).hold):=λm hto=>by
     rw[hh m hto]
     unfold ZTY
     rw[if_neg (by show ¬i.Kind=0;omega),if_neg (by show ¬i.Kind=1;omega)]
    refine h3.congr (λm _=>?_) (by rw[hc,if_neg λh=>e h.1];exact Int.le_refl _)
    constructor
    ·intro hm;exact (hw m (hni.held m hm).1).1 hm
    ·intro hm;exact (hw m ((h.nd b hb).held m hm).1).2 hm
   ·have hfr:=(h1 e2).1
    have hw:∀m:Msg,m.key.From=g→m.To=b→(m∈(N' b).hold↔m∈(N b).hold):=λm hfm hto=>by
     rw[hh m hto]
     have hne:i.m.key≠m.key:=λhe=>by change i.m.key.From=a at hfr;rw[he] at hfr;omega
     unfold ZTY
     split
     ·exact ⟨λh=>h.elim id λhe=>absurd (congrArg Msg.key he) hne,.inl⟩
     ·split
      ·exact ⟨λh=>h.1,λh=>⟨h,hne⟩⟩
      ·rfl
    refine h3.congr (λm hfm=>?_) (by rw[hc,if_neg λh=>e h.1];exact Int.le_refl _)
    constructor
    ·intro hm;exact (hw m hfm (hni.held m hm).1).1 hm
    ·intro hm;exact (hw m hfm ((h.nd b hb).held m hm).1).2 hm
 ·rw[htr,if_neg λh=>hfb h.2,if_pos rfl]
  exact hout f hf hfb hold clk h3
theorem FI.hear_slow {M:ND} (w:WF wd R) (h:FI wd R N tr) (ha:a<wd.Feds.length) (hb:b<wd.Feds.length) (hab:a≠b) (hn:N b=.slow M) (he:hearE M a i=0) (hv:Yu i.m.key.T=true) (hq:tr a b=(i.Kind,i.m)::l) (hN:∀f,N' f=if f=b then .slow (Zd0 M a i) else N f)
  (htr:∀g f,tr' g f=if g=a∧f=b then l else tr g f):FI wd R N' tr':=by
 have hNb:N' b=.slow (Zd0 M a i):=by rw[hN,if_pos rfl]
 have hni:=h.nd b hb
 have hok:=h.ok b hb
 rw[hn] at hni hok
 obtain ⟨h1,h2,h3,h4⟩:=hni.slow M rfl
 have hbs:=ZUa h hb hn a
 have h5:=h.pr a b ha hb hab
 rw[hq] at h5
 have h6:=h5.addr _ (List.mem_cons_self ..)
 obtain ⟨⟨e1,e2,e3,_⟩,_⟩:=Zmf M a i
 have hcl:(Zd0 M a i).clk.L.length=M.clk.L.length∧(Zd0 M a i).clk.self=M.clk.self:=by
  unfold Zd0
  split
  ·exact ⟨Clk.hear_len _ _ _,Clk.hear_self _ _ _⟩
  ·split <;> exact ⟨rfl,rfl⟩
 have hk:i.Kind=0∨i.Kind=2:=by
  rcases h5.kind _ (List.mem_cons_self ..) with k | ⟨_,k⟩ | ⟨k,_⟩
  ·exact .inl k
  ·rw[hbs.1] at k;cases k
  ·exact .inr k
 have hmem:∀m:Msg,(m∈(Nd.slow (Zd0 M a i)).hold↔ZTY m (m∈(Nd.slow M).hold) (i.Kind,i.m)):=λm=>by
  show m∈(Zd0 M a i).log.map Zak.m++(Zd0 M a i).q↔_
  rw[e1]
  unfold ZTY
  rcases hk with k | k
  ·have hq':(Zd0 M a i).q=Zkj i.m M.q:=by
    unfold hearE at he
    rw[if_neg (by omega),if_pos k] at he
    split at he
    ·cases he
    ·rename_i g1
     split at he
     ·cases he
     ·rename_i g2
      unfold Zd0
      rw[if_neg (by omega),if_pos ⟨k,g1,g2⟩]
      show ZfX _ _=_
      unfold ZfX
      rw[if_pos he]
   rw[if_pos k,hq',List.mem_append,Zr9]
   show _↔m∈M.log.map Zak.m++M.q∨_
   rw[List.mem_append]
   constructor
   ·rintro (h | rfl | h)
    ·exact .inl (.inl h)
    ·exact .inr rfl
    ·exact .inl (.inr h)
   ·rintro ((h | h) | rfl)
    ·exact .inl h
    ·exact .inr (.inr h)
    ·exact .inr (.inl rfl)
  ·rw[if_neg (by show ¬i.Kind=0;omega),if_neg (by show ¬i.Kind=1;omega)]
   have hq':(Zd0 M a i).q=M.q:=by
    unfold Zd0
    rw[if_pos k]
   rw[hq']
   rfl
 refine h.recv ha hb hab w hq (λf hf=>by rw[hN,if_neg hf]) ?_ ?_ (λm _=>by rw[hNb,hn];exact hmem m) (λg=>?_) (λhbb=>by rw[hbs.1] at hbb;cases hbb) (ext:=λ_=>[]) (λg f=>by rw[htr,List.append_nil,ite_self]) λf hf hfb hold clk h7=>?_
 ·rw[hNb];exact ⟨Zpb hok.1 _ _,Zsl hok.2 _ _⟩
 ·rw[hNb]
  refine ⟨hni.kind,?_,λm hm=>?_,λM' e=>?_,λM' r t e=>(by cases e)⟩
  ·show ∃l,ZTq R b=(Zd0 M a i).log.map Zak.m++l
   rw[e1];exact hni.pre
  ·have:=(hmem m).1 hm
   unfold ZTY at this
   rcases hk with k | k
   ·rw[if_pos k] at this
    rcases this with h | rfl
    ·exact hni.held m h
    ·have h8:=h6 (by show i.Kind≠2;omega)
     exact ⟨h8.2,hv,a,ha,hab,h8.1⟩
   ·rw[if_neg (by show ¬i.Kind=0;omega),if_neg (by show ¬i.Kind=1;omega)] at this
    exact hni.held m this
  ·cases e
   rw[e1,e2,e3,hcl.1,hcl.2]
   exact ⟨h1,h2,h3,h4⟩
 ·rw[hNb,hn]
  show (Zd0 M a i).clk.get g=_
  by_cases k:i.Kind=2
  ·have hc:(Zd0 M a i).clk=M.clk.hear a i.m.key.T:=by
    unfold Zd0
    rw[if_pos k]
   unfold hearE at he
   rw[if_pos k] at he
   rw[hc]
   unfold Clk.hear
   rw[if_pos he,Clk.get]
   show (M.clk.L.set a i.m.key.T).getD g 0=_
   rw[ZaX]
   by_cases e:g=a
   ·subst e
    rw[if_pos ⟨rfl,by rw[h3];exact ha⟩,if_pos ⟨rfl,k⟩]
   ·rw[if_neg λh=>e h.1.symm,if_neg λh=>e h.1]
    rfl
  ·rw[if_neg λh=>k h.2]
   unfold Zd0
   rw[if_neg k]
   split <;> rfl
 ·rw[List.append_nil]
  have:(N' b).src (Zci wd f)=(N b).src (Zci wd f):=by
   rw[hNb,hn]
   unfold Nd.src Nd.fast Nd.good
   dsimp only
   rw[e1]
  rw[this]
  exact h7
theorem atN (M:WN) (g:Nat):M.at' g=M.clk.getD g (-1):=by
 unfold WN.at'
 rw[if_pos (by omega),Int.toNat_natCast]
theorem ZTE {fd:Fed} {M:WN} (he:(ZbE wd b fd M a i).e=0) :
  (i.Kind=2∧0≤M.at' a∧M.at' a≤i.m.key.T∧ZbE wd b fd M a i=⟨0,[],⟨M.old,M.ms,M.q,M.fl,M.clk.set a i.m.key.T⟩⟩)∨
  (i.Kind=0∧M.fl≤i.m.key.T∧(0≤M.at' a→M.at' a≤i.m.key.T)∧ZbE wd b fd M a i=⟨0,Zk4 wd (ZiU wd b fd M i.m.key),⟨M.old,ZbF i.m.key M.ms,Zkj i.m (Yj i.m.key M.ms++M.q),M.fl,M.clk⟩⟩)∨
  (i.Kind=1∧M.fl≤i.m.key.T∧ZeQ i.m.key M.q=true∧ZbE wd b fd M a i=⟨0,[],⟨M.old,M.ms,without M.q i.m.key,M.fl,M.clk⟩⟩)∨
  (i.Kind=1∧M.fl≤i.m.key.T∧ZbE wd b fd M a i=⟨0,Zk4 wd (ZiU wd b fd M i.m.key),⟨M.old,ZbF i.m.key M.ms,without (Yj i.m.key M.ms++M.q) i.m.key,M.fl,M.clk⟩⟩):=by
 unfold ZbE at he ⊢
 split at he
 ·cases he
 ·rename_i g0
  rw[if_neg g0]
  split at he
  ·rename_i g1
   rw[if_pos g1]
   split at he
   ·cases he
   ·rename_i g2
    rw[if_neg g2]
    split at he
    ·cases he
    ·rename_i g3
     rw[if_neg g3]
     exact .inl ⟨g1,by omega,by omega,rfl⟩
  ·rename_i g1
   rw[if_neg g1]
   split at he
   ·rename_i g2
    rw[if_pos g2]
    split at he
    ·cases he
    ·rename_i g3
     rw[if_neg g3]
     split at he
     ·cases he
     ·rename_i g4
      rw[if_neg g4]
      split at he
      ·cases he
      ·rename_i g5
       rw[if_neg g5]
       refine .inr (.inl ⟨g2,by omega,?_,rfl⟩)
       omega
   ·rename_i g2
    rw[if_neg g2]
    split at he
    ·rename_i g3
     rw[if_pos g3]
     split at he
     ·cases he
     ·rename_i g4
      rw[if_neg g4]
      split at he
      ·cases he
      ·rename_i g5
       rw[if_neg g5]
       split at he
       ·rename_i g6
        rw[if_pos g6]
        exact .inr (.inr (.inl ⟨g3,by omega,g6,rfl⟩))
       ·rename_i g6
        rw[if_neg g6]
        split at he
        ·cases he
        ·rename_i g7
         rw[if_neg g7]
         split at he
         ·cases he
         ·rename_i g8
          rw[if_neg g8]
          exact .inr (.inr (.inr ⟨g3,by omega,rfl⟩))
    ·cases he
theorem ZTQ {l:List En} {j:It}:j∈toF f (Zk4 wd l)↔j.1=1∧(∃x∈l,j.2∈x.outs)∧Zci wd f=true∧j.2.To=(f:Int):=by
 rw[ZTW]
 unfold Zk4 Zjg
 simp only[List.mem_flatMap,List.mem_reverse,List.mem_map,List.mem_filter]
 constructor
 ·rintro ⟨x,⟨y,hy,z,⟨hz,hzb⟩,rfl⟩,h1,rfl⟩
  have h1':z.To=(f:Int):=h1
  rw[h1'] at hzb
  exact ⟨rfl,⟨y,hy,hz⟩,hzb,h1⟩
 ·rintro ⟨h0,⟨x,hx,h1⟩,h2,h3⟩
  exact ⟨Zs1 j.2,⟨x,hx,j.2,⟨h1,by rw[h3];exact h2⟩,rfl⟩,h3,Prod.ext h0 rfl⟩
theorem FI.hear_bold {M:WN} {r:Nat} {t:Int} (w:WF wd R) (h:FI wd R N tr) (ha:a<wd.Feds.length) (hb:b<wd.Feds.length) (hab:a≠b) (hn:N b=.bold M r t) (he:(ZbE wd b (Zs wd b) M a i).e=0) (hv:Yu i.m.key.T=true) (hq:tr a b=(i.Kind,i.m)::l)
  (hN:∀f,N' f=if f=b then .bold (ZbE wd b (Zs wd b) M a i).N r t else N f)
  (htr:∀g f,tr' g f=if g=a∧f=b then l else if g=b then tr g f++toF f (ZbE wd b (Zs wd b) M a i).out else tr g f):FI wd R N' tr':=by
 have hNb:N' b=.bold (ZbE wd b (Zs wd b) M a i).N r t:=by rw[hN,if_pos rfl]
 have hni:=h.nd b hb
 have hok:=h.ok b hb
 rw[hn] at hni hok
 obtain ⟨k,hW⟩:=hok
 have h5:=h.pr a b ha hb hab
 rw[hq] at h5
 have h6:=h5.addr _ (List.mem_cons_self ..)
 have hline:=hW.up.right
 have hold:(ZbE wd b (Zs wd b) M a i).N.old=M.old:=ZwM ..
 have hfl:(ZbE wd b (Zs wd b) M a i).N.fl=M.fl:=by
  rcases ZTE he with ⟨_,_,_,e⟩ | ⟨_,_,_,e⟩ | ⟨_,_,_,e⟩ | ⟨_,_,e⟩ <;> rw[e]
 have hlow:∀m∈M.old,M.fl≤i.m.key.T→m.key≠i.m.key:=λm hm hf e=>by
  have:=hW.lo m hm
  rw[e] at this
  omega
 have hlh:∀m:Msg,m∈M.ms↔m∈ZbF i.m.key M.ms∨m∈Yj i.m.key M.ms:=λm=>by
  conv=>lhs;rw[←Zgf hW.ups i.m.key]
  rw[List.mem_append]
 have hlk:∀m∈ZbF i.m.key M.ms,m.key≠i.m.key:=λm hm e=>by
  have:=(Zld.1 hm).2
  rw[e] at this
  exact Zv.irrefl _ this
 have hmem:∀m:Msg,(m∈(Nd.bold (ZbE wd b (Zs wd b) M a i).N r t).hold↔ZTY m (m∈(Nd.bold M r t).hold) (i.Kind,i.m)):=λm=>by
  show m∈(ZbE wd b (Zs wd b) M a i).N.old++(_++_)↔ZTY m (m∈M.old++(M.ms++M.q)) _
  unfold ZTY
  rcases ZTE he with ⟨k,_,_,e⟩ | ⟨k,_,_,e⟩ | ⟨k,hf,hk,e⟩ | ⟨k,hf,e⟩
  ·rw[e,if_neg (by show ¬i.Kind=0;omega),if_neg (by show ¬i.Kind=1;omega)]
  ·rw[e,if_pos k]
   simp only[List.mem_append,Zr9]
   rw[hlh]
   have:i.m=m↔m=i.m:=eq_comm
   rw[this]
   simp only[or_assoc,or_left_comm,or_comm]
  ·rw[e,if_neg (by show ¬i.Kind=0;omega),if_pos k]
   simp only[List.mem_append,ZTD]
   obtain ⟨y,hy,hyk⟩:=Zgl.1 hk
   have hms:∀m∈M.ms,m.key≠i.m.key:=λm hm e=>by
    have:=hline.mid hm hy
    rw[e,hyk] at this
    exact Zv.irrefl _ this
   constructor
   ·rintro (h1 | h1 | ⟨h1,h2⟩)
    ·exact ⟨.inl h1,λe=>hlow m h1 hf e.symm⟩
    ·exact ⟨.inr (.inl h1),λe=>hms m h1 e.symm⟩
    ·exact ⟨.inr (.inr h1),λe=>h2 e.symm⟩
   ·rintro ⟨h1 | h1 | h1,h2⟩
    ·exact .inl h1
    ·exact .inr (.inl h1)
    ·exact .inr (.inr ⟨h1,λe=>h2 e.symm⟩)
  ·rw[e,if_neg (by show ¬i.Kind=0;omega),if_pos k]
   simp only[List.mem_append,ZTD]
   rw[hlh]
   constructor
   ·rintro (h1 | h1 | ⟨h1 | h1,h2⟩)
    ·exact ⟨.inl h1,λe=>hlow m h1 hf e.symm⟩
    ·exact ⟨.inr (.inl (.inl h1)),λe=>hlk m h1 e.symm⟩
    ·exact ⟨.inr (.inl (.inr h1)),λe=>h2 e.symm⟩
    ·exact ⟨.inr (.inr h1),λe=>h2 e.symm⟩
   ·rintro ⟨h1 | (h1 | h1) | h1,h2⟩
    ·exact .inl h1
    ·exact .inr (.inl h1)
    ·exact .inr (.inr ⟨.inl h1,λe=>h2 e.symm⟩)
    ·exact .inr (.inr ⟨.inr h1,λe=>h2 e.symm⟩)
 refine h.recv ha hb hab w hq (λf hf=>by rw[hN,if_neg hf]) ?_ ?_ (λm _=>by rw[hNb,hn];exact hmem m) (λg=>?_) (λhbb=>?_) htr λf hf hfb hold' clk h7=>?_
 ·rw[hNb];exact ⟨k,hW.hear _ _⟩
 ·rw[hNb]
  refine ⟨hni.kind,?_,λm hm=>?_,λM' e=>(by cases e),λM' r t e=>?_⟩
  ·show ∃l,ZTq R b=(ZbE wd b (Zs wd b) M a i).N.old++l
   rw[hold];exact hni.pre
  ·have:=(hmem m).1 hm
   unfold ZTY at this
   by_cases k0:i.Kind=0
   ·rw[if_pos k0] at this
    rcases this with h | rfl
    ·exact hni.held m h
    ·have h8:=h6 (by show i.Kind≠2;omega)
     exact ⟨h8.2,hv,a,ha,hab,h8.1⟩
   ·rw[if_neg k0] at this
    split at this
    ·exact hni.held m this.1
    ·exact hni.held m this
  ·cases e
   rw[hfl,hold]
   exact hni.bold M _ _ rfl
 ·rw[hNb,hn]
  show (ZbE wd b (Zs wd b) M a i).N.at' g=if _ then _ else M.at' g
  rcases ZTE he with ⟨k,_,_,e⟩ | ⟨k,_,_,e⟩ | ⟨k,_,_,e⟩ | ⟨k,_,e⟩
  ·rw[e]
   rw[atN,atN]
   show (M.clk.set a i.m.key.T).getD g (-1)=_
   rw[ZaX]
   by_cases e:g=a
   ·subst e
    rw[if_pos ⟨rfl,by rw[hW.clen];exact ha⟩,if_pos ⟨rfl,k⟩]
   ·rw[if_neg λh=>e h.1.symm,if_neg λh=>e h.1]
  ·rw[e,if_neg (by omega)];rfl
  ·rw[e,if_neg (by omega)];rfl
  ·rw[e,if_neg (by omega)];rfl
 ·rw[hn]
  show M.at' a<0
  obtain ⟨t',h8,h9⟩:=hW.clk a _ (ZaN ha)
  have hba:Zci wd a=true:=by unfold ZTv at hbb;rw[Bool.and_eq_true] at hbb;exact hbb.1
  have hk1:(Zs wd a).Kind=1:=by
   unfold Zci at hba
   rw[if_pos (by omega),Int.toNat_natCast,ZaN ha] at hba
   exact of_decide_eq_true hba
  unfold WN.at'
  rw[if_pos (by omega),Int.toNat_natCast,List.getD_eq_getElem?_getD,h8]
  show t'<0
  rcases h9 with ⟨h9,_⟩ | ⟨_,h9⟩ <;> omega
 ·have hbb:Zci wd b=true:=hni.kind.symm
  have key:∀(ms':List Msg) (q':List Msg) (c':List Int) (x:List En),(ZbE wd b (Zs wd b) M a i)=⟨0,Zk4 wd x,⟨M.old,ms',q',M.fl,c'⟩⟩→
    (∀m:Msg,ZTs wd b (M.old++ms') m↔ZTs wd b (M.old++M.ms) m∧∀y∈x,∀z∈y.outs,z.To=m.To→z.key≠m.key)→(∀y∈x,∀z∈y.outs,z.key.From=b)→
    PI wd R b f (ZTv wd b f) ((N' b).src (Zci wd f)) hold' clk (tr b f++toF f (ZbE wd b (Zs wd b) M a i).out):=by
   intro ms' q' c' x e hs hfr
   rw[hNb,e]
   rw[hn] at h7
   cases hbf:Zci wd f with
   | false=>
    have e0:toF f (Zk4 wd x)=[]:=List.eq_nil_iff_forall_not_mem.2 λj hj=>by
     have:=(ZTQ.1 hj).2.2.1
     rw[hbf] at this
     cases this
    show PI wd R b f (ZTv wd b f) M.old hold' clk (tr b f++toF f (Zk4 wd x))
    rw[e0,List.append_nil]
    rw[hbf] at h7
    exact h7
   | true=>
    rw[hbf] at h7
    refine PI.less h7 (by unfold ZTv;rw[hbb,hbf];rfl) (λj hj=>?_) λm hm=>?_
    ·obtain ⟨k1,⟨y,hy,k2⟩,k3,k4⟩:=ZTQ.1 hj
     exact ⟨k1,hfr y hy _ k2,k4⟩
    ·show ZTs wd b (M.old++ms') m↔ZTs wd b (M.old++M.ms) m∧_
     rw[hs m]
     refine and_congr Iff.rfl ⟨λh j hj=>?_,λh y hy z hz hzt=>?_⟩
     ·obtain ⟨_,⟨y,hy,k2⟩,_,k4⟩:=ZTQ.1 hj
      exact h y hy _ k2 (by rw[k4,hm])
     ·exact h (1,z) (ZTQ.2 ⟨rfl,⟨y,hy,hz⟩,hbf,by show z.To=_;rw[hzt,hm]⟩)
  have und:∀m:Msg,ZTs wd b (M.old++ZbF i.m.key M.ms) m↔ZTs wd b (M.old++M.ms) m∧∀y∈ZiU wd b (Zs wd b) M i.m.key,∀z∈y.outs,z.To=m.To→z.key≠m.key:=λm=>by
   rw[ZUK hb (c:=Yj i.m.key M.ms),List.append_assoc,Zgf hW.ups]
   unfold ZiU WN.base
   rw[Zi8]
  have fr:∀y∈ZiU wd b (Zs wd b) M i.m.key,∀z∈y.outs,z.key.From=b:=λy hy z hz=>(ZUt hy hz).2.1
  have no:∀m:Msg,ZTs wd b (M.old++M.ms) m↔ZTs wd b (M.old++M.ms) m∧∀y∈([]:List En),∀z∈y.outs,z.To=m.To→z.key≠m.key:=λm=>⟨λh=>⟨h,λy hy=>by cases hy⟩,λh=>h.1⟩
  rcases ZTE he with ⟨_,_,_,e⟩ | ⟨_,_,_,e⟩ | ⟨_,_,_,e⟩ | ⟨_,_,e⟩
  ·exact key _ _ _ [] e no λy hy=>by cases hy
  ·exact key _ _ _ _ e und fr
  ·exact key _ _ _ [] e no λy hy=>by cases hy
  ·exact key _ _ _ _ e und fr
variable {v:Int}
theorem ZUh:∀{a b:List Msg},Upk a→Upk b→(∀m,m∈a↔m∈b)→a=b
 | [],[],_,_,_=>rfl
 | [],y::b,_,_,h=>absurd ((h y).2 (List.mem_cons_self ..)) (by simp)
 | x::a,[],_,_,h=>absurd ((h x).1 (List.mem_cons_self ..)) (by simp)
 | x::a,y::b,ha,hb,h=>by
  obtain ⟨a1,a2⟩:=List.pairwise_cons.1 ha
  obtain ⟨b1,b2⟩:=List.pairwise_cons.1 hb
  have e:x=y:=by
   rcases List.mem_cons.1 ((h x).1 (List.mem_cons_self ..)) with e | hx
   ·exact e
   ·rcases List.mem_cons.1 ((h y).2 (List.mem_cons_self ..)) with e | hy
    ·exact e.symm
    ·exact absurd (a1 y hy) (b1 x hx).asymm
  subst e
  congr 1
  refine ZUh a2 b2 λm=>⟨λhm=>?_,λhm=>?_⟩
  ·rcases List.mem_cons.1 ((h m).1 (List.mem_cons_of_mem _ hm)) with e | h1
   ·rw[e] at hm;exact absurd (a1 x hm) (Zv.irrefl _)
   ·exact h1
  ·rcases List.mem_cons.1 ((h m).2 (List.mem_cons_of_mem _ hm)) with e | h1
   ·rw[e] at hm;exact absurd (b1 x hm) (Zv.irrefl _)
   ·exact h1
theorem Upk.early {l:List Msg} (h:Upk l) (t:Int):Upk (Zc6 t l):=h.sublist List.filter_sublist
theorem ZU7 {l l':List Msg} (h:Upk l) (h':Upk l') {t:Int} (e:∀m:Msg,m.key.T<t→(m∈l↔m∈l')):Zc6 t l=Zc6 t l':=
 ZUh (h.early t) (h'.early t) λm=>by
  rw[Zqu,Zqu]
  exact ⟨λh=>⟨(e m h.2).1 h.1,h.2⟩,λh=>⟨(e m h.2).2 h.1,h.2⟩⟩
theorem ZU5 {x y:Int} (h0:0≤x) (hx:x<Zsq) (h:x<ZaD y):x<y:=by
 unfold ZaD Inf Zsq at*
 (repeat' split at h) <;> omega
theorem ZVp (w:WF wd R) (h:FI wd R N tr) (hcom:∀f,f<wd.Feds.length→∀M r t,N f=.bold M r t→ZaB M v=0)
  (htr:∀g f,g<wd.Feds.length→f<wd.Feds.length→g≠f→ZTv wd g f=true→∀i∈tr g f,v≤i.2.key.T) :
  ∀t:Nat,(t:Int)≤v→(t:Int)≤wd.End→∀f,f<wd.Feds.length→∀M r u,N f=.bold M r u→∀m:Msg,m.key.T<t→(m∈ZTq R f↔m∈M.old++M.ms)
 | 0,_,_,f,hf,M,r,u,hn,m,hm=>by
  constructor
  ·intro h1
   have:=w.valid hf h1
   omega
  ·intro h1
   have:=(Zmc ((h.nd f hf).held m (by rw[hn];show m∈M.old++(M.ms++M.q);rw[←List.append_assoc];exact List.mem_append_left _ h1)).2.1).1
   omega
 | t+1,ht,hte,f,hf,M,r,u,hn,m,hm=>by
  have ih:=ZVp w h hcom htr t (by omega) (by omega)
  by_cases hlt:m.key.T<t
  ·exact ih f hf M r u hn m hlt
  have hmt:m.key.T=t:=by omega
  have hE:=(ZfI w.chk).en.2
  have hni:=h.nd f hf
  have hok:=h.ok f hf
  rw[hn] at hni hok
  obtain ⟨k,hW⟩:=hok
  have hc:=hcom f hf M r u hn
  have hbf:Zci wd f=true:=hni.kind.symm
  have hq:m∈M.q→False:=λhm=>by rcases hW.first_hi hc m hm with h1 | h1 <;> omega
  have bold:∀g,g<wd.Feds.length→g≠f→Zci wd g=true→m.key.From=g→m.To=f→(ZTs wd g (ZTq R g) m↔m∈(Nd.bold M r u).hold):=λg hg hgf hb hfr hto=>by
   have hkg:=h.node_kind hg
   rw[hb] at hkg
   cases hng:N g with
   | slow M'=>rw[hng] at hkg;cases hkg
   | bold M' r' u'=>
    have hokg:=h.ok g hg
    rw[hng] at hokg
    obtain ⟨k',hW'⟩:=hokg
    have hup:Upk (M'.old++M'.ms):=by
     have:=hW'.up
     rw[←List.append_assoc] at this
     exact this.left
    have hbb:ZTv wd g f=true:=by unfold ZTv;rw[hb,hbf];rfl
    have h1:=(h.pr g f hg hf hgf).flow m hfr hto
    rw[hng,hn,hbf] at h1
    rw[ZUr (v:=v) (by omega) λi hi _=>htr g f hg hf hgf hbb i hi] at h1
    rw[h1]
    show _↔ZTs wd g (M'.old++M'.ms) m
    have ht0:(0:Int)≤t∧(t:Int)≤Zsq:=⟨by omega,by unfold Zsq;omega⟩
    rw[ZTU w.chk hg (w.up g hg) ht0 (by omega),ZTU w.chk hg hup ht0 (by omega),ZU7 (w.up g hg) hup (ih g hg M' r' u' hng)]
  have slow:∀g:Nat,Zci wd g=false→ZTv wd g f=false:=λg hb=>by unfold ZTv;rw[hb];rfl
  constructor
  ·intro hm
   obtain ⟨hto,_⟩:=w.to f hf m hm
   obtain ⟨g,hg,hgf,hfr,ho⟩:=w.src f hf m hm
   have hh:m∈(Nd.bold M r u).hold:=by
    cases hb:Zci wd g with
    | true=>exact (bold g hg hgf hb hfr hto).1 ho
    | false=>
     have h1:=((h.pr g f hg hf hgf).pr m hm hfr).1
     rw[hn] at h1
     refine h1 ?_
     show m.key.T<M.at' g
     obtain ⟨t',h8,h9⟩:=hW.clk g _ (ZaN hg)
     have hk0:0≤t':=by
      rcases h9 with ⟨_,h9,_⟩ | ⟨h9,_⟩
      ·exact h9
      ·exfalso
       rcases ZlD w.chk _ (List.mem_of_getElem? (ZaN hg)) with h0 | h0
       ·exact h9 h0
       ·unfold Zci at hb
        rw[if_pos (by omega),Int.toNat_natCast,ZaN hg] at hb
        exact absurd h0 (of_decide_eq_false hb)
     have hat:M.at' g=t':=by rw[atN,List.getD_eq_getElem?_getD,h8];rfl
     rw[hat]
     have hl:ZcM M≤ZaD t':=ZoZ (List.mem_append_right _ (List.mem_filter.2 ⟨List.mem_of_getElem? h8,by rw[decide_eq_true_iff];exact hk0⟩))
     have:=(Zkb hc).2
     exact ZU5 (by omega) (by unfold Zsq;omega) (by omega)
   have hh:m∈M.old++(M.ms++M.q):=hh
   rw[←List.append_assoc] at hh
   exact (List.mem_append.1 hh).resolve_right hq
  ·intro hm
   have hh:m∈(Nd.bold M r u).hold:=by
    show m∈M.old++(M.ms++M.q)
    rw[←List.append_assoc]
    exact List.mem_append_left _ hm
   obtain ⟨hto,_,g,hg,hgf,hfr⟩:=hni.held m hh
   have ho:ZTs wd g (ZTq R g) m:=by
    cases hb:Zci wd g with
    | true=>exact (bold g hg hgf hb hfr hto).2 hh
    | false=>exact h.sound hf hg hgf (slow g hb) (by rw[hn];exact hh) hfr
   exact w.all g hg m ho (hW.en m hm) f hto
theorem ZVm (w:WF wd R) (h:FI wd R N tr) (hcom:∀f,f<wd.Feds.length→∀M r t,N f=.bold M r t→ZaB M v=0)
  (htr:∀g f,g<wd.Feds.length→f<wd.Feds.length→g≠f→ZTv wd g f=true→∀i∈tr g f,v≤i.2.key.T) (hf:f<wd.Feds.length) {M:WN} {r:Nat} {u:Int} (hn:N f=.bold M r u) (hm:m.key.T<v):m∈ZTq R f↔m∈M.old++M.ms:=by
 by_cases h0:0≤m.key.T∧m.key.T<wd.End
 ·exact ZVp w h hcom htr (m.key.T.toNat+1) (by omega) (by omega) f hf M r u hn m (by omega)
 ·constructor
  ·intro h1
   exact absurd ⟨w.valid hf h1,(w.to f hf m h1).2⟩ h0
  ·intro h1
   have hok:=h.ok f hf
   rw[hn] at hok
   obtain ⟨k,hW⟩:=hok
   have:=(Zmc ((h.nd f hf).held m (by rw[hn];show m∈M.old++(M.ms++M.q);rw[←List.append_assoc];exact List.mem_append_left _ h1)).2.1).1
   exact absurd ⟨this,hW.en m h1⟩ h0
theorem ZTJ {l:List En} {j:It}:j∈toF f (((Yq wd l).map Yz.m).map Zae)↔j.1=0∧(∃x∈l,j.2∈x.outs)∧Zci wd f=false∧j.2.To=(f:Int):=by
 rw[ZTu]
 unfold Yq ZmR
 simp only[List.mem_map,List.mem_flatMap,List.mem_filter]
 constructor
 ·rintro ⟨h0,⟨y,⟨x,hx,z,⟨hz,hzb⟩,rfl⟩,h1⟩,h2⟩
  have h1':z=j.2:=h1
  rw[h1',h2] at hzb
  exact ⟨h0,⟨x,hx,by rw[←h1'];exact hz⟩,by rw[Bool.not_eq_true'] at hzb;exact hzb,h2⟩
 ·rintro ⟨h0,⟨x,hx,h1⟩,h2,h3⟩
  exact ⟨h0,⟨⟨x.m.key,j.2⟩,⟨x,hx,j.2,⟨h1,by rw[h3,ZTX,h2];rfl⟩,rfl⟩,rfl⟩,h3⟩
theorem FI.commit {M:WN} {r:Nat} {t:Int} (w:WF wd R) (h:FI wd R N tr) (ha:a<wd.Feds.length) (hn:N a=.bold M r t) (hc:ZaB M v=0) (hag:∀m:Msg,m.key.T<v→(m∈ZTq R a↔m∈M.old++M.ms))
  (hN:∀f,N' f=if f=a then .bold (Ys M v) r t else N f) (htr:∀g f,tr' g f=if g=a then tr g f++toF f (((Yq wd (ZaC wd a (Zs wd a) M v)).map Yz.m).map Zae) else tr g f):FI wd R N' tr':=by
 have hNa:N' a=.bold (Ys M v) r t:=by rw[hN,if_pos rfl]
 have hni:=h.nd a ha
 have hok:=h.ok a ha
 rw[hn] at hni hok
 obtain ⟨k,hW⟩:=hok
 have hab:Zci wd a=true:=hni.kind.symm
 have hel:=ZnE hW.ups v
 have hhold:(Nd.bold (Ys M v) r t).hold=(Nd.bold M r t).hold:=by
  show (M.old++Zc6 v M.ms)++(ZmO v M.ms++M.q)=M.old++(M.ms++M.q)
  rw[List.append_assoc,←List.append_assoc (Zc6 v M.ms),hel]
 have hup:Upk (M.old++Zc6 v M.ms):=by
  have h1:=hW.up
  rw[←hel,List.append_assoc,←List.append_assoc] at h1
  exact h1.left
 have hmem:∀m:Msg,m∈M.old++Zc6 v M.ms↔m∈ZTq R a∧m.key.T<v:=λm=>by
  have hfl:=(Zkb hc).1
  rw[List.mem_append,Zqu]
  constructor
  ·rintro (h1 | ⟨h1,h2⟩)
   ·have:=hW.lo m h1
    exact ⟨(hag m (by omega)).2 (List.mem_append_left _ h1),by omega⟩
   ·exact ⟨(hag m h2).2 (List.mem_append_right _ h1),h2⟩
  ·rintro ⟨h1,h2⟩
   rcases List.mem_append.1 ((hag m h2).1 h1) with h3 | h3
   ·exact .inl h3
   ·exact .inr ⟨h3,h2⟩
 refine h.grow ha (λf hf=>by rw[hN,if_neg hf]) ?_ ?_ ?_ (λg=>?_) htr λf hf hfa hold clk h5=>?_
 ·rw[hNa];exact ⟨k,hW.commit hc⟩
 ·rw[hNa]
  refine ⟨hni.kind,⟨ZmO v (ZTq R a),?_⟩,λm hm=>hni.held m (by rw[←hhold];exact hm),λM' e=>(by cases e),λM' r' t' e x hx hlt=>?_⟩
  ·show ZTq R a=(M.old++Zc6 v M.ms)++_
   have:M.old++Zc6 v M.ms=Zc6 v (ZTq R a):=ZUh hup ((w.up a ha).early v) λm=>by rw[hmem,Zqu]
   rw[this,ZnE (w.up a ha)]
  ·cases e
   exact (hmem x).2 ⟨hx,hlt⟩
 ·rw[hNa,hn,hhold]
 ·rw[hNa,hn];rfl
 ·cases hb:Zci wd f with
  | true=>
   have e0:toF f (((Yq wd (ZaC wd a (Zs wd a) M v)).map Yz.m).map Zae)=[]:=List.eq_nil_iff_forall_not_mem.2 λj hj=>by
    have:=(ZTJ.1 hj).2.2.1
    rw[hb] at this
    cases this
   have e:(N' a).src true=(N a).src true:=by
    rw[hNa,hn]
    show (M.old++Zc6 v M.ms)++ZmO v M.ms=M.old++M.ms
    rw[List.append_assoc,hel]
   rw[hb] at h5
   rw[e0,List.append_nil,e]
   exact h5
  | false=>
   rw[hb] at h5
   rw[hNa]
   rw[hn] at h5
   refine PI.more h5 (λi hi=>?_) λm hm=>?_
   ·obtain ⟨k1,⟨x,hx,k2⟩,_,k3⟩:=ZTJ.1 hi
    exact ⟨k1,(ZUt hx k2).2.1,k3⟩
   ·show ZTs wd a (M.old++Zc6 v M.ms) m↔ZTs wd a M.old m∨_
    rw[ZTA]
    refine or_congr Iff.rfl ⟨?_,?_⟩
    ·rintro ⟨x,hx,hmx⟩
     exact ⟨(0,m),ZTJ.2 ⟨rfl,⟨x,hx,hmx⟩,hb,hm⟩,rfl⟩
    ·rintro ⟨i,hi,rfl⟩
     exact (ZTJ.1 hi).2.1
variable {M:WN}
theorem ZTT {x y:Int} (h:x≤y):ZaD x≤ZaD y:=by
 unfold ZaD Inf Zsq
 (repeat' split) <;> omega
theorem ZTB {t:Int} (h:Yu t=true):ZaD t=t:=by
 unfold Yu at h
 rw[decide_eq_true_iff] at h
 unfold ZaD Inf Zsq at*
 (repeat' split) <;> omega
theorem ZUA:∀{l:List Int},v≤ZaP l↔v≤Inf∧∀x∈l,v≤ZaD x:=by
 have key:∀(l:List Int) (n:Int),v≤l.foldl (λn t=>min n (ZaD t)) n↔v≤n∧∀x∈l,v≤ZaD x:=by
  intro l
  induction l with
  | nil=>intro n;simp
  | cons t l ih=>
   intro n
   rw[List.foldl_cons,ih]
   simp only[List.mem_cons,forall_eq_or_imp]
   rw[Int.le_min,and_assoc]
 exact λ{l}=>key l Inf
structure GeN (v:Int) (M:WN):Prop where
 inf:v≤Inf
 q:∀y∈M.q,v≤y.key.T
 clk:∀t∈M.clk,0≤t→v≤ZaD t
theorem ZUP (hu:Upk M.q) (hv:∀y∈M.q,Yu y.key.T=true):v≤ZcM M↔GeN v M:=by
 unfold ZcM
 rw[ZUA]
 simp only[List.mem_append,List.mem_filter,decide_eq_true_eq]
 constructor
 ·rintro ⟨h1,h2⟩
  refine ⟨h1,λy hy=>?_,λt ht h0=>h2 t (.inr ⟨ht,h0⟩)⟩
  cases hq:M.q with
  | nil=>rw[hq] at hy;cases hy
  | cons x r=>
   have h3:=h2 x.key.T (.inl (by rw[hq];exact List.mem_singleton.2 rfl))
   rw[ZTB (hv x (by rw[hq];exact List.mem_cons_self ..))] at h3
   rw[hq] at hy hu
   rcases List.mem_cons.1 hy with rfl | hy
   ·exact h3
   ·have:=(List.pairwise_cons.1 hu).1 y hy
    unfold Zv at this
    omega
 ·rintro ⟨h1,h2,h3⟩
  refine ⟨h1,λx hx=>?_⟩
  rcases hx with hx | ⟨hx,h0⟩
  ·cases hq:M.q with
   | nil=>rw[hq] at hx;cases hx
   | cons y r=>
    have hy:y∈M.q:=by rw[hq];exact List.mem_cons_self ..
    rw[hq] at hx
    have hx:x∈[y.key.T]:=hx
    rw[List.mem_singleton.1 hx,ZTB (hv y hy)]
    exact h2 y hy
  ·exact h3 x hx h0
theorem GeN.step (h:GeN v M):GeN v (Zcv M):=⟨h.inf,λy hy=>h.q y (List.mem_of_mem_tail hy),h.clk⟩
theorem GeN.commit (h:GeN v M) (t:Int):GeN v (Ys M t):=⟨h.inf,h.q,h.clk⟩
theorem ZVi {t d:Int} (ht:Yu t=true) (hd:0≤d):t≤ZvS t d:=by
 unfold Yu at ht
 rw[decide_eq_true_iff] at ht
 unfold ZvS ZaD Inf Zsq at*
 (repeat' split) <;> omega
theorem ZUF (h:(Za4 wd).2=0) (hg:g<wd.Feds.length) {l:List Msg} {b:Int × Int} (hl:∀e∈l,Yu e.key.T=true∧v≤e.key.T) {x:En} (hx:x∈Zc8 wd g (Zs wd g) b l) (hm:m∈x.outs):v≤m.key.T:=by
 obtain ⟨h1,b',h2⟩:=Zdm hx
 rw[h2] at hm
 obtain ⟨_,dl,h3,h4⟩:=ZTP h (ZaN hg) hm
 have h5:=ZUu h hg
 have h6:=hl _ h1
 have:=ZVi h6.1 (show 0≤dl by omega)
 omega
theorem GeN.hear (h:GeN v M) (hc:(Za4 wd).2=0) (hb:b<wd.Feds.length) (hW:WOk wd b (Zs wd b) M k) (hv:∀y∈M.ms,Yu y.key.T=true) (hi:i.Kind≠2→v≤i.m.key.T) (he:(ZbE wd b (Zs wd b) M a i).e=0) (ha:a<wd.Feds.length) :
  GeN v (ZbE wd b (Zs wd b) M a i).N∧∀j∈(ZbE wd b (Zs wd b) M a i).out,j.Kind=1∧v≤j.m.key.T:=by
 have hh:v≤i.m.key.T→∀y∈Yj i.m.key M.ms,v≤y.key.T:=λhi y hy=>by
  have:=(Zit.1 hy).2
  unfold Zv at this
  omega
 have hu:v≤i.m.key.T→∀j∈Zk4 wd (ZiU wd b (Zs wd b) M i.m.key),j.Kind=1∧v≤j.m.key.T:=λhi j hj=>by
  unfold Zk4 at hj
  obtain ⟨x,hx,hj⟩:=List.mem_flatMap.1 hj
  unfold Zjg at hj
  obtain ⟨m,hm,rfl⟩:=List.mem_map.1 hj
  refine ⟨rfl,?_⟩
  exact ZUF hc hb (l:=Yj i.m.key M.ms) (λe he=>⟨hv e (Zit.1 he).1,hh hi e he⟩) (List.mem_reverse.1 hx) (List.mem_filter.1 hm).1
 rcases ZTE he with ⟨k,h0,h1,e⟩ | ⟨k,_,_,e⟩ | ⟨k,_,_,e⟩ | ⟨k,_,e⟩
 ·rw[e]
  refine ⟨⟨h.inf,h.q,λt ht h2=>?_⟩,λj hj=>by cases hj⟩
  rcases List.mem_or_eq_of_mem_set ht with ht | rfl
  ·exact h.clk t ht h2
  ·rw[atN,List.getD_eq_getElem?_getD,List.getElem?_eq_getElem (by rw[hW.clen];exact ha)] at h0 h1
   have h3:=h.clk _ (List.getElem_mem (by rw[hW.clen];exact ha)) h0
   have:=ZTT h1
   have h4:ZaD ((some (M.clk[a]'(by rw[hW.clen];exact ha))).getD (-1))=ZaD (M.clk[a]'(by rw[hW.clen];exact ha)):=rfl
   omega
 ·rw[e]
  have hi:=hi (by omega)
  refine ⟨⟨h.inf,λy hy=>?_,h.clk⟩,hu hi⟩
  rcases Zr9.1 hy with rfl | hy
  ·exact hi
  ·rcases List.mem_append.1 hy with hy | hy
   ·exact hh hi y hy
   ·exact h.q y hy
 ·rw[e]
  exact ⟨⟨h.inf,λy hy=>h.q y (ZTD.1 hy).1,h.clk⟩,λj hj=>by cases hj⟩
 ·rw[e]
  have hi:=hi (by omega)
  refine ⟨⟨h.inf,λy hy=>?_,h.clk⟩,hu hi⟩
  rcases List.mem_append.1 (ZTD.1 hy).1 with hy | hy
  ·exact hh hi y hy
  ·exact h.q y hy
theorem GeN.slow (h:GeN v M) (hW:WOk wd b (Zs wd b) M k) (ha:a<wd.Feds.length) (hk:(Zs wd a).Kind=0) (hv:Yu i.m.key.T=true) (he:(ZbE wd b (Zs wd b) M a i).e=0) (h1:i.Kind≠1):i.Kind≠2→v≤i.m.key.T:=by
 intro h2
 obtain ⟨t,h8,h9⟩:=hW.clk a _ (ZaN ha)
 have hat:M.at' a=t:=by rw[atN,List.getD_eq_getElem?_getD,h8];rfl
 have h0:0≤t:=by
  rcases h9 with ⟨_,h9,_⟩ | ⟨h9,_⟩
  ·exact h9
  ·exact absurd hk h9
 rcases ZTE he with ⟨k,_⟩ | ⟨_,_,h3,_⟩ | ⟨k,_⟩ | ⟨k,_⟩
 ·exact absurd k h2
 ·rw[hat] at h3
  have h4:=h.clk t (List.mem_of_getElem? h8) h0
  have h5:=ZTT (h3 h0)
  rw[ZTB hv] at h5
  omega
 ·exact absurd k h1
 ·exact absurd k h1
variable {k k':KS} {c c':CL} {s:Nat}
def trK (k:KS) (g f:Nat):List It:=((k.q g f).map λi=>(i.Kind,i.m))++toF f (k.box g)
theorem ZUI (hb:a<k.boxes.length) (l:List Zn):trK (k.put a l) g f=if g=a then trK k g f++toF f l else trK k g f:=by
 have hq:(k.put a l).q g f=k.q g f:=rfl
 unfold trK
 rw[hq,Zmr]
 by_cases e:g=a
 ·subst e
  rw[if_pos ⟨rfl,hb⟩,if_pos rfl,ZUO,List.append_assoc]
 ·rw[if_neg λh=>e h.1.symm,if_neg e]
theorem ZUj (i:Zn) (l:List Zn):toF f (i::l)=if i.m.To=(f:Int) then (i.Kind,i.m)::toF f l else toF f l:=by
 unfold toF
 rw[List.filter_cons]
 by_cases h:i.m.To=(f:Int)
 ·rw[if_pos (decide_eq_true h),if_pos h];rfl
 ·rw[if_neg (by rw[decide_eq_false h];decide),if_neg h]
structure Ge (wd:Wd) (k:KS) (v:Int) (f:Nat):Prop where
 nd:∀M r t,k.node f=.bold M r t→GeN v M
 box:∀b:Nat,Zci wd b=true→b≠f→∀i∈k.box f,i.m.To=b→v≤i.m.key.T
def cn1 (wd:Wd) (k:KS) (x:Int) (a b:Nat):Nat:=if ZTv wd a b=true then ((k.q a b).filter λi=>decide (i.Colour=x)).length else 0
def cnK (wd:Wd) (k:KS) (x:Int):Nat:=((List.range wd.Feds.length).map λa=>((List.range wd.Feds.length).map λb=>cn1 wd k x a b).sum).sum
theorem ZUW {n a:Nat} {F F':Nat→Nat} (h:∀j,j≠a→F' j=F j) (ha:a<n):((List.range n).map F').sum+F a=((List.range n).map F).sum+F' a:=by
 have same:∀n,n≤a→(List.range n).map F'=(List.range n).map F:=λn hn=>List.map_congr_left λj hj=>h j (by have:=List.mem_range.1 hj;omega)
 induction n with
 | zero=>omega
 | succ n ih=>
  rw[List.range_succ,List.map_append,List.map_append,List.sum_append,List.sum_append]
  by_cases e:a=n
  ·subst e
   rw[same a (Nat.le_refl _)]
   simp
   omega
  ·have:=ih (by omega)
   have:=h n λh=>e h.symm
   simp
   omega
theorem ZUQ {x:Int} (h:∀g f,¬(g=a∧f=b)→cn1 wd k' x g f=cn1 wd k x g f) (ha:a<wd.Feds.length) (hb:b<wd.Feds.length):cnK wd k' x+cn1 wd k x a b=cnK wd k x+cn1 wd k' x a b:=by
 unfold cnK
 have h1:=ZUW (n:=wd.Feds.length) (a:=b) (F:=λb=>cn1 wd k x a b) (F':=λb=>cn1 wd k' x a b) (λj hj=>h a j λh=>hj h.2) hb
 have h2:=ZUW (n:=wd.Feds.length) (a:=a) (F:=λa=>((List.range wd.Feds.length).map λb=>cn1 wd k x a b).sum) (F':=λa=>((List.range wd.Feds.length).map λb=>cn1 wd k' x a b).sum) (λj hj=>by
  congr 1
  exact List.map_congr_left λb _=>h j b λh=>hj h.1) ha
 omega
theorem ZT6 {x:Int} (h:∀g f,ZTv wd g f=true→k'.q g f=k.q g f):cnK wd k' x=cnK wd k x:=by
 have h1:∀g f,cn1 wd k' x g f=cn1 wd k x g f:=λg f=>by
  unfold cn1
  split
  ·rename_i hb;rw[h g f hb]
  ·rfl
 unfold cnK
 simp only[h1]
theorem ZVe {x:Int} (h:cnK wd k x=0) (ha:a<wd.Feds.length) (hb:b<wd.Feds.length) (hab:ZTv wd a b=true) (hi:i∈k.q a b):i.Colour≠x:=by
 intro e
 have h1:∀(l:List Nat) (y:Nat),y∈l→l.sum=0→y=0:=by
  intro l
  induction l with
  | nil=>intro y hy;cases hy
  | cons z l ih=>
   intro y hy h0
   rw[List.sum_cons] at h0
   rcases List.mem_cons.1 hy with rfl | hy
   ·omega
   ·exact ih y hy (by omega)
 have h2:=h1 _ _ (List.mem_map.2 ⟨a,List.mem_range.2 ha,rfl⟩) h
 have h3:=h1 _ _ (List.mem_map.2 ⟨b,List.mem_range.2 hb,rfl⟩) h2
 unfold cn1 at h3
 rw[if_pos hab,List.length_eq_zero_iff] at h3
 have:i∈(k.q a b).filter λi=>decide (i.Colour=x):=List.mem_filter.2 ⟨hi,decide_eq_true e⟩
 rw[h3] at this
 cases this
theorem ZTt (h:Zci wd a=true):a<wd.Feds.length:=by
 unfold Zci at h
 rw[if_pos (by omega),Int.toNat_natCast] at h
 cases hf:wd.Feds[a]? with
 | none=>rw[hf] at h;cases h
 | some x=>exact (List.getElem?_eq_some_iff.1 hf).1
structure CI (wd:Wd) (k:KS) (c:CL):Prop where
 rk:∀f g:Nat,Zci wd f=true→Zci wd g=true→(k.node f).rank=(k.node g).rank→f=g
 ph:c.begun=c.over∨c.begun=c.over+1
 t:∀r,r<Zai wd→c.t r=c.begun∨c.t r=c.over
 rp:∀r,r<Zai wd→c.Rp.getD r 0≤c.begun
 fl:∀f M r u,k.node f=.bold M r u→M.fl≤c.value
 cnt:∀x,x=0∨x=1→(cnK wd k x:Int)≤c.on x
 old:c.over=c.begun→∀a b,ZTv wd a b=true→∀i∈k.q a b,i.Colour=c.begun % 2
 val:∀f:Nat,Zci wd f=true→Ge wd k c.value f
 lnk:∀a b,ZTv wd a b=true→∀i∈k.q a b,c.value≤i.m.key.T
 new:c.over<c.begun→∀a b,ZTv wd a b=true→∀i∈k.q a b,i.Colour=c.begun % 2→c.least≤i.m.key.T
 rep:c.over<c.begun→∀f:Nat,Zci wd f=true→c.Rp.getD (k.node f).rank 0=c.begun→(∀r,r<Zai wd→c.t r=c.begun)∧(∀a b,ZTv wd a b=true→∀i∈k.q a b,i.Colour=c.begun % 2)∧Ge wd k c.least f
theorem CI.keep (h:CI wd k c) (e1:c'.begun=c.begun) (e2:c'.over=c.over) (e3:c'.T=c.T) (e4:c'.Rp=c.Rp) (e5:c'.least=c.least) (e6:c'.value=c.value) (hr:∀f,(k'.node f).rank=(k.node f).rank)
  (hfl:∀f M r u,k'.node f=.bold M r u→M.fl≤c.value) (hcnt:∀x,x=0∨x=1→(cnK wd k' x:Int)≤c'.on x) (hq:∀a b,ZTv wd a b=true→∀i∈k'.q a b,i∈k.q a b)
  (hge:∀(v:Int) (f:Nat),Zci wd f=true→(∀a b,ZTv wd a b=true→∀i∈k.q a b,v≤i.m.key.T)→Ge wd k v f→Ge wd k' v f):CI wd k' c':=by
 have et:∀r,c'.t r=c.t r:=λr=>by unfold CL.t;rw[e3]
 refine ⟨λf g hf hg e=>h.rk f g hf hg (by rw[←hr,←hr];exact e),by rw[e1,e2];exact h.ph,λr hr'=>by rw[et,e1,e2];exact h.t r hr',λr hr'=>by rw[e4,e1];exact h.rp r hr',λf M r u hn=>by rw[e6];exact hfl f M r u hn,hcnt,
  λhp a b hab i hi=>by rw[e1];exact h.old (by rw[←e1,←e2];exact hp) a b hab i (hq a b hab i hi),λf hf=>by rw[e6];exact hge _ f hf h.lnk (h.val f hf),λa b hab i hi=>by rw[e6];exact h.lnk a b hab i (hq a b hab i hi),λhp a b hab i hi hc=>?_,λhp f hf he=>?_⟩
 ·rw[e5]
  rw[e1,e2] at hp
  rw[e1] at hc
  exact h.new hp a b hab i (hq a b hab i hi) hc
 ·rw[e1,e2] at hp
  rw[e4,hr,e1] at he
  obtain ⟨h1,h2,h3⟩:=h.rep hp f hf he
  refine ⟨λr hr'=>by rw[et,e1];exact h1 r hr',λa b hab i hi=>by rw[e1];exact h2 a b hab i (hq a b hab i hi),?_⟩
  rw[e5]
  exact hge _ f hf (λa b hab i hi=>h.new hp a b hab i hi (h2 a b hab i hi)) h3
structure FK (wd:Wd) (R:RS) (k:KS):Prop where
 inv:∃s,Ze1 wd k s
 fi:FI wd R k.node (trK k)
 ci:∀c,k.cut=some c→CI wd k c
theorem FK.bx (h:FK wd R k) (ha:a<wd.Feds.length):a<k.boxes.length:=by
 obtain ⟨s,hs⟩:=h.inv
 rw[hs.bl];exact ha
theorem FK.nx (h:FK wd R k) (ha:a<wd.Feds.length):a<k.nodes.length:=by
 obtain ⟨s,hs⟩:=h.inv
 rw[hs.nl];exact ha
theorem ZT0 (h:FK wd R k) (ha:a<wd.Feds.length) (n:Nd) (f:Nat):(k.setN a n).node f=if f=a then n else k.node f:=by
 rw[ZaK]
 by_cases e:f=a
 ·rw[if_pos ⟨e.symm,h.nx ha⟩,if_pos e]
 ·rw[if_neg λh=>e h.1.symm,if_neg e]
theorem FK.okB (h:FK wd R k) (ha:a<wd.Feds.length) {M:WN} {r:Nat} {u:Int} (hn:k.node a=.bold M r u):∃n,WOk wd a (Zs wd a) M n:=by
 have:=h.fi.ok a ha
 rwa [hn] at this
theorem FK.isB (h:FK wd R k) (ha:a<wd.Feds.length) {M:WN} {r:Nat} {u:Int} (hn:k.node a=.bold M r u):Zci wd a=true:=by
 have:=h.fi.node_kind ha
 rw[hn] at this
 exact this.symm
theorem FK.isS (h:FK wd R k) (ha:a<wd.Feds.length) {M:ND} (hn:k.node a=.slow M):Zci wd a=false:=by
 have:=h.fi.node_kind ha
 rw[hn] at this
 exact this.symm
theorem FK.val (h:FK wd R k) (ha:a<wd.Feds.length) (hm:m∈(k.node a).hold):Yu m.key.T=true:=((h.fi.nd a ha).held m hm).2.1
theorem CI.node (hF:FK wd R k) (h:CI wd k c) (ha:a<wd.Feds.length) {n:Nd} (hr:n.rank=(k.node a).rank) (hfl:∀M r u,n=.bold M r u→M.fl≤c.value) {l:List Zn}
  (hge:∀v,(∀a b,ZTv wd a b=true→∀i∈k.q a b,v≤i.m.key.T)→Zci wd a=true→Ge wd k v a→(∀M r t,n=.bold M r t→GeN v M)∧∀b:Nat,Zci wd b=true→∀i∈l,i.m.To=b→v≤i.m.key.T):CI wd ((k.setN a n).put a l) c:=by
 have hnd:∀f,((k.setN a n).put a l).node f=if f=a then n else k.node f:=λf=>ZT0 hF ha n f
 have hbx:∀f,((k.setN a n).put a l).box f=if f=a then k.box a++l else k.box f:=λf=>by
  rw[Zmr]
  by_cases e:f=a
  ·rw[if_pos ⟨e.symm,hF.bx ha⟩,if_pos e];rfl
  ·rw[if_neg λh=>e h.1.symm,if_neg e];rfl
 refine h.keep rfl rfl rfl rfl rfl rfl (λf=>?_) (λf M r u hn=>?_) (λx hx=>h.cnt x hx) (λ_ _ _ i hi=>hi) λv f hf hl hg=>?_
 ·rw[hnd]
  split
  ·rename_i e;rw[e];exact hr
  ·rfl
 ·rw[hnd] at hn
  split at hn
  ·exact hfl M r u hn
  ·exact h.fl f M r u hn
 ·by_cases e:f=a
  ·subst e
   obtain ⟨h1,h2⟩:=hge v hl hf hg
   refine ⟨λM r t hn=>?_,λb hb hbf i hi=>?_⟩
   ·rw[hnd,if_pos rfl] at hn
    exact h1 M r t hn
   ·rw[hbx,if_pos rfl] at hi
    rcases List.mem_append.1 hi with hi | hi
    ·exact hg.box b hb hbf i hi
    ·exact h2 b hb i hi
  ·refine ⟨λM r t hn=>?_,λb hb hbf i hi=>?_⟩
   ·rw[hnd,if_neg e] at hn
    exact hg.nd M r t hn
   ·rw[hbx,if_neg e] at hi
    exact hg.box b hb hbf i hi
theorem FK.fiT (h:FK wd R k) (w:WF wd R) (ha:a<wd.Feds.length) {n:Nd} {l:List Zn}
  (hf:∀{N':Nat→Nd} {tr':Nat→Nat→List It},(∀f,N' f=if f=a then n else k.node f)→(∀g f,tr' g f=if g=a then trK k g f++toF f l else trK k g f)→FI wd R N' tr')
  (hr:n.rank=(k.node a).rank) (hfl:∀c,k.cut=some c→CI wd k c→∀M r u,n=.bold M r u→M.fl≤c.value)
  (hge:∀v,Zci wd a=true→Ge wd k v a→(∀M r t,n=.bold M r t→GeN v M)∧∀b:Nat,Zci wd b=true→∀i∈l,i.m.To=b→v≤i.m.key.T)
  (hi:∃s,Ze1 wd ((k.setN a n).put a l) s):FK wd R ((k.setN a n).put a l):=by
 have:=w.chk
 refine ⟨hi,hf (λf=>ZT0 h ha n f) (λg f=>ZUI (k:=k.setN a n) (h.bx ha) l),λc hc=>?_⟩
 have h1:=h.ci c hc
 exact h1.node h ha hr (hfl c hc h1) λv _ hb hg=>hge v hb hg
theorem FK.step (h:FK wd R k) (w:WF wd R) (ha:a<wd.Feds.length) (hi:∃s,Ze1 wd (k.step wd a).2 s):FK wd R (k.step wd a).2:=by
 unfold KS.step at hi ⊢
 split
 ·exact h
 ·rename_i h0
  rw[if_neg h0] at hi
  split
  ·rename_i N hn
   rw[hn] at hi
   dsimp only at hi
   split
   ·rename_i hs
    rw[if_pos hs] at hi
    refine h.fiT w ha (λhN htr=>h.fi.step_slow w ha hn hs hN htr) (by rw[hn];rfl) (λ_ _ _ M r u e=>by cases e) (λv hb _=>?_) hi
    rw[h.isS ha hn] at hb
    cases hb
   ·exact h
  ·rename_i N r t hn
   rw[hn] at hi
   dsimp only at hi
   split
   ·rename_i hs
    rw[if_pos hs] at hi
    obtain ⟨n,hW⟩:=h.okB ha hn
    refine h.fiT w ha (λhN htr=>h.fi.step_bold w ha hn hs hN htr) (by rw[hn];rfl) (λc hc h1 M r u e=>?_) (λv hb hg=>⟨λM r t e=>?_,λb hb i hi _=>?_⟩) hi
    ·cases e
     exact h1.fl a N _ _ hn
    ·cases e
     exact (hg.nd N _ _ hn).step
    ·unfold ZqQ at hi
     obtain ⟨m,hm,rfl⟩:=List.mem_map.1 hi
     obtain ⟨⟨y,q,hq,_⟩,_⟩:=Zr5 hs
     have hy:hdM N.q=y:=by rw[hq];rfl
     have hyq:y∈N.q:=by rw[hq];exact List.mem_cons_self ..
     refine ZUF (v:=v) w.chk ha (l:=[hdM N.q]) (b:=N.now (Zs wd a)) (λe he=>?_) (List.mem_singleton.2 rfl) (List.mem_filter.1 hm).1
     rw[List.mem_singleton.1 he,hy]
     refine ⟨h.val ha ?_,(hg.nd N _ _ hn).q y hyq⟩
     rw[hn]
     exact List.mem_append_right _ (List.mem_append_right _ hyq)
   ·exact h
theorem FK.tell (h:FK wd R k) (w:WF wd R) (ha:a<wd.Feds.length) (hi:∃s,Ze1 wd (k.tell wd a).2 s):FK wd R (k.tell wd a).2:=by
 have hn8:k.nodes.length=wd.Feds.length:=by obtain ⟨s,hs⟩:=h.inv;exact hs.nl
 have hext:∀(k':KS),k'.nodes.length=k.nodes.length→(∀f,(k'.node f).isBold=(k.node f).isBold)→∀(t:Int) (f:Nat),f<wd.Feds.length→f≠a→toF f (ZaW k a t)=if ZTv wd a f=false then [((2:Int),bnd t f)] else []:=by
  intro k' _ _ t f hf hfa
  rw[ZUT]
  have e1:=h.fi.node_kind ha
  have e2:=h.fi.node_kind hf
  rw[e1,e2,decide_eq_false hfa]
  unfold ZTv
  by_cases hb:(Zci wd a&&Zci wd f)=true
  ·rw[hb,if_neg (by simp),if_neg (by simp)]
  ·have hb:=Bool.eq_false_iff.2 hb
   rw[hb,if_pos ⟨by omega,rfl⟩,if_pos rfl]
 have hbi:∀t v,Zci wd a=true→∀b:Nat,Zci wd b=true→∀i∈ZaW k a t,i.m.To=b→v≤i.m.key.T:=by
  intro t v hba b hb i hi hto
  exfalso
  obtain ⟨f,hf,rfl⟩:=List.mem_map.1 hi
  have h1:=(List.mem_filter.1 hf).2
  have hto:(f:Int)=b:=hto
  have:f=b:=by omega
  subst this
  rw[h.fi.node_kind ha,h.fi.node_kind (ZTt hb),hba,hb,Bool.and_eq_true] at h1
  cases h1.2
 unfold KS.tell at hi ⊢
 split
 ·exact h
 ·rename_i h0
  rw[if_neg h0] at hi
  split
  ·rename_i N hn
   rw[hn] at hi
   dsimp only at hi
   split
   ·rename_i hs
    rw[if_pos hs] at hi
    refine h.fiT w ha (λhN htr=>h.fi.tell_slow w ha hn hN htr (hext k rfl (λ_=>rfl) _)) (by rw[hn];rfl) (λ_ _ _ M r u e=>by cases e) (λv hb _=>?_) hi
    rw[h.isS ha hn] at hb
    cases hb
   ·exact h
  ·rename_i N r t hn
   rw[hn] at hi
   dsimp only at hi
   split
   ·exact h
   ·rename_i hs
    rw[if_neg hs] at hi
    refine h.fiT w ha (λhN htr=>h.fi.tell_bold w ha hn hN htr (hext k rfl (λ_=>rfl) _)) (by rw[hn];rfl) (λc hc h1 M r u e=>?_) (λv hb hg=>⟨λM r t e=>?_,hbi _ v hb⟩) hi
    ·cases e
     exact h1.fl a N _ _ hn
    ·cases e
     exact hg.nd N _ _ hn
theorem ZUl {x y z:Int} (hx:x=0∨x=1) (hy:y=0∨y=1):(c.setOn x z).on y=if y=x then z else c.on y:=by
 unfold CL.setOn CL.on
 rcases hx with rfl | rfl <;> rcases hy with rfl | rfl <;> rfl
theorem ZUJ (x:Int):x % 2=0∨x % 2=1:=by omega
theorem ZU2 (h:FK wd R k) (ha:a<wd.Feds.length) (hb:b<wd.Feds.length) (k':KS) (hk:k'.net=k.net) (l:List Zn) (g f:Nat):(k'.setQ a b l).q g f=if g=a∧f=b then l else k.q g f:=by
 obtain ⟨s,hs⟩:=h.inv
 rw[Zy1,hk,hs.netl,hs.rowl a ha]
 have:k'.q g f=k.q g f:=by unfold KS.q;rw[hk]
 rw[this]
 by_cases e:g=a∧f=b
 ·rw[if_pos ⟨e.1.symm,e.2.symm,ha,hb⟩,if_pos e]
 ·rw[if_neg λh=>e ⟨h.1.symm,h.2.1.symm⟩,if_neg e]
theorem FK.flush (h:FK wd R k) (_w:WF wd R) (ha:a<wd.Feds.length) (hi:∃s,Ze1 wd (k.flush a).2 s):FK wd R (k.flush a).2:=by
 obtain ⟨s,hs⟩:=h.inv
 unfold KS.flush at hi ⊢
 split
 ·exact h
 ·rename_i i r hbx
  rw[hbx] at hi
  dsimp only at hi
  have hib:=hs.box a i (by rw[hbx];exact List.mem_cons_self ..)
  split
  ·exact h
  ·rename_i hro
   rw[if_neg hro] at hi
   obtain ⟨b,hto⟩:∃b:Nat,i.m.To=b:=⟨i.m.To.toNat,by have:=hib.to;omega⟩
   have hb:b<wd.Feds.length:=by have:=hib.to;omega
   have hab:a≠b:=λe=>hro (if_neg λh'=>h'.2.2.2 (by omega))
   have e0:i.m.To.toNat=b:=by omega
   rw[e0] at hi ⊢
   dsimp only
   have hcb:k.counted a b i=(!decide (i.Kind=2)&&Zci wd a&&Zci wd b):=by
    unfold KS.counted
    rw[h.fi.node_kind ha,h.fi.node_kind hb]
   have hbox:∀(k':KS) f,k'.boxes=k.boxes.set a r→k'.box f=if f=a then r else k.box f:=λk' f e=>by
    unfold KS.box
    rw[e,ZaX]
    by_cases e:f=a
    ·rw[if_pos ⟨e.symm,h.bx ha⟩,if_pos e]
    ·rw[if_neg λh=>e h.1.symm,if_neg e]
   have same:∀(k':KS) (x:Int),k'.boxes=k.boxes.set a r→k'.net=k.net→k'.nodes=k.nodes→FI wd R (k'.setQ a b (k.q a b++[⟨i.Kind,i.m,x⟩])).node (trK (k'.setQ a b (k.q a b++[⟨i.Kind,i.m,x⟩]))):=by
    intro k' x e1 e2 e3
    have ht:∀g f,trK (k'.setQ a b (k.q a b++[⟨i.Kind,i.m,x⟩])) g f=trK k g f:=λg f=>by
     unfold trK
     rw[ZU2 h ha hb k' e2]
     have:(k'.setQ a b (k.q a b++[⟨i.Kind,i.m,x⟩])).box g=if g=a then r else k.box g:=hbox _ g e1
     rw[this]
     by_cases e:g=a
     ·subst e
      rw[if_pos rfl,hbx,ZUj,hto]
      by_cases ef:f=b
      ·subst ef
       rw[if_pos ⟨rfl,rfl⟩,if_pos rfl,List.map_append,List.append_assoc]
       rfl
      ·rw[if_neg λh=>ef h.2,if_neg (by omega)]
     ·rw[if_neg λh=>e h.1,if_neg e]
    have hn:(k'.setQ a b (k.q a b++[⟨i.Kind,i.m,x⟩])).node=k.node:=by
     funext f
     show k'.nodes.getD f _=k.nodes.getD f _
     rw[e3]
    rw[hn]
    have:trK (k'.setQ a b (k.q a b++[⟨i.Kind,i.m,x⟩]))=trK k:=by funext g f;exact ht g f
    rw[this]
    exact h.fi
   have hge:∀(k':KS) (v:Int) (f:Nat),k'.boxes=k.boxes.set a r→k'.nodes=k.nodes→Ge wd k v f→Ge wd k' v f:=by
    intro k' v f e1 e2 hg
    refine ⟨λM r u hn=>hg.nd M r u ?_,λb' hb' hbf j hj hjt=>?_⟩
    ·unfold KS.node at hn ⊢
     rw[←e2];exact hn
    ·rw[hbox k' f e1] at hj
     split at hj
     ·rename_i e
      rw[e] at hg
      exact hg.box b' hb' (e▸hbf) j (by rw[hbx];exact List.mem_cons_of_mem _ hj) hjt
     ·exact hg.box b' hb' hbf j hj hjt
   by_cases hc:ZTv wd a b=true
   ·-- counted
    have hk:=(h.fi.pr a b ha hb hab).kind (i.Kind,i.m) (by
     unfold trK
     rw[hbx,ZUj,if_pos hto]
     exact List.mem_append_right _ (List.mem_cons_self ..))
    have hk2:i.Kind≠2:=by
     rcases hk with hk | ⟨hk,_⟩ | ⟨_,hk⟩
     ·have hk:i.Kind=0:=hk
      omega
     ·have hk:i.Kind=1:=hk
      omega
     ·rw[hc] at hk;cases hk
    have hc2:=hc
    unfold ZTv at hc2
    rw[Bool.and_eq_true] at hc2
    have hct:k.counted a b i=true:=by
     rw[hcb,decide_eq_false hk2,hc2.1,hc2.2];rfl
    have hcut:∃c,k.cut=some c:=by
     have:=hs.cut
     have hb0:Zai wd≠0:=Zpf hs ha (by rw[h.fi.node_kind ha];exact hc2.1)
     rw[if_neg hb0] at this
     obtain ⟨c,hc,_⟩:=this
     exact ⟨c,hc⟩
    obtain ⟨c,hcut⟩:=hcut
    rw[hct,hcut] at hi ⊢
    dsimp only at hi ⊢
    refine ⟨hi,same _ _ rfl rfl rfl,λc' hc'=>?_⟩
    have hc':c.sent (k.node a).rank i.m.key.T=c':=Option.some.inj hc'
    have h1:=h.ci c hcut
    generalize hcol:c.t (k.node a).rank % 2=col at hi ⊢
    have hr:(k.node a).rank<Zai wd:=hs.rank a ha (by rw[h.fi.node_kind ha];exact hc2.1)
    have hct:=h1.t _ hr
    have hcol2:col=0∨col=1:=by rw[←hcol];exact ZUJ _
    have hval:c.value≤i.m.key.T:=(h1.val a hc2.1).box b hc2.2 (Ne.symm hab) i (by rw[hbx];exact List.mem_cons_self ..) hto
    generalize hk':({ k with boxes:=k.boxes.set a r,cut:=some (c.sent (k.node a).rank i.m.key.T) }:KS)=k1
    have e1:k1.boxes=k.boxes.set a r:=by rw[←hk']
    have e2:k1.nodes=k.nodes:=by rw[←hk']
    have e3:k1.net=k.net:=by rw[←hk']
    generalize hk2':k1.setQ a b (k.q a b++[⟨i.Kind,i.m,col⟩])=k2
    have e1':k2.boxes=k.boxes.set a r:=by rw[←hk2'];exact e1
    have e2':k2.nodes=k.nodes:=by rw[←hk2'];exact e2
    have hnode:∀f,k2.node f=k.node f:=λf=>by unfold KS.node;rw[e2']
    have hq:∀g f,k2.q g f=if g=a∧f=b then k.q a b++[⟨i.Kind,i.m,col⟩] else k.q g f:=λg f=>by rw[←hk2'];exact ZU2 h ha hb k1 e3 _ g f
    have hqm:∀g f j,j∈k2.q g f→j∈k.q g f∨(g=a∧f=b∧j=⟨i.Kind,i.m,col⟩):=λg f j hj=>by
     rw[hq] at hj
     split at hj
     ·rename_i e
      rcases List.mem_append.1 hj with hj | hj
      ·exact .inl (by rw[e.1,e.2];exact hj)
      ·exact .inr ⟨e.1,e.2,List.mem_singleton.1 hj⟩
     ·exact .inl hj
    have on:∀x,x=0∨x=1→c'.on x=if x=col then c.on x+1 else c.on x:=λx hx=>by
     rw[←hc']
     unfold CL.sent
     rw[hcol]
     have:(c.setOn col (c.on col+1)).on x=if x=col then c.on x+1 else c.on x:=by
      rw[ZUl hcol2 hx]
      split
      ·rename_i e;rw[e]
      ·rfl
     split
     ·exact this
     ·exact this
    have hsame:c'.begun=c.begun∧c'.over=c.over∧c'.T=c.T∧c'.Rp=c.Rp∧c'.value=c.value∧c'.least≤c.least∧(c.over<c.begun→c.t (k.node a).rank=c.begun→c'.least≤i.m.key.T)∧(c.over<c.begun→c.t (k.node a).rank=c.begun→∀v,v≤c.least→v≤i.m.key.T→v≤c'.least)∧(¬(c.over<c.begun∧c.t (k.node a).rank=c.begun)→c'.least=c.least):=by
     rw[←hc']
     unfold CL.sent
     have hs0:∀y z,(c.setOn y z).begun=c.begun∧(c.setOn y z).over=c.over∧(c.setOn y z).T=c.T∧(c.setOn y z).Rp=c.Rp∧(c.setOn y z).value=c.value∧(c.setOn y z).least=c.least:=λy z=>by
      unfold CL.setOn
      split <;> exact ⟨rfl,rfl,rfl,rfl,rfl,rfl⟩
     obtain ⟨g1,g2,g3,g4,g5,g6⟩:=hs0 (c.t (k.node a).rank % 2) (c.on (c.t (k.node a).rank % 2)+1)
     split
     ·rename_i hcc
      refine ⟨g1,g2,g3,g4,g5,?_,λ_ _=>?_,λ_ _ v h1 h2=>?_,λhn=>absurd hcc hn⟩
      ·show min c.least i.m.key.T≤_;omega
      ·show min c.least i.m.key.T≤_;omega
      ·show v≤min c.least i.m.key.T;omega
     ·rename_i hcc
      exact ⟨g1,g2,g3,g4,g5,by rw[g6];exact Int.le_refl _,λh1 h2=>absurd ⟨h1,h2⟩ hcc,λh1 h2=>absurd ⟨h1,h2⟩ hcc,λ_=>g6⟩
    obtain ⟨f1,f2,f3,f4,f5,f6,f7,f8,f9⟩:=hsame
    have ft:∀r,c'.t r=c.t r:=λr=>by unfold CL.t;rw[f3]
    refine ⟨λf g hf hg e=>h1.rk f g hf hg (by rw[←hnode,←hnode];exact e),by rw[f1,f2];exact h1.ph,λr hr'=>by rw[ft,f1,f2];exact h1.t r hr',λr hr'=>by rw[f4,f1];exact h1.rp r hr',λf M r u hn=>by rw[f5];exact h1.fl f M r u (by rw[←hnode];exact hn),λx hx=>?_,λhp g f hgf j hj=>?_,λf hf=>by rw[f5];exact hge k2 _ f e1' e2' (h1.val f hf),λg f hgf j hj=>?_,λhp g f hgf j hj hjc=>?_,λhp f hf he=>?_⟩
    ·have h2:=ZUQ (wd:=wd) (k:=k) (k':=k2) (a:=a) (b:=b) (x:=x) (λg f hgf=>by unfold cn1;rw[hq,if_neg hgf]) ha hb
     have h3:cn1 wd k2 x a b=cn1 wd k x a b+if x=col then 1 else 0:=by
      unfold cn1
      rw[if_pos hc,if_pos hc,hq,if_pos ⟨rfl,rfl⟩,List.filter_append,List.length_append]
      congr 1
      by_cases e:x=col
      ·rw[if_pos e,List.filter_cons,if_pos (decide_eq_true e.symm)];rfl
      ·rw[if_neg e,List.filter_cons,if_neg (by rw[decide_eq_false λh=>e h.symm];decide)];rfl
     have h4:=h1.cnt x hx
     rw[on x hx]
     split <;> rename_i e
     ·rw[if_pos e] at h3;omega
     ·rw[if_neg e] at h3;omega
    ·rw[f1]
     rw[f1,f2] at hp
     rcases hqm g f j hj with hj | ⟨_,_,rfl⟩
     ·exact h1.old hp g f hgf j hj
     ·show col=_
      rw[←hcol]
      rcases hct with e | e <;> rw[e]
      rw[hp]
    ·rw[f5]
     rcases hqm g f j hj with hj | ⟨_,_,rfl⟩
     ·exact h1.lnk g f hgf j hj
     ·exact hval
    ·rw[f1,f2] at hp
     rw[f1] at hjc
     rcases hqm g f j hj with hj | ⟨_,_,rfl⟩
     ·have:=h1.new hp g f hgf j hj hjc
      omega
     ·refine f7 hp ?_
      rcases hct with e | e
      ·exact e
      ·exfalso
       have hjc:col=c.begun % 2:=hjc
       have:=h1.ph
       omega
    ·rw[f1,f2] at hp
     rw[f4,hnode,f1] at he
     obtain ⟨g1,g2,g3⟩:=h1.rep hp f hf he
     refine ⟨λr hr'=>by rw[ft,f1];exact g1 r hr',λg f hgf j hj=>?_,?_⟩
     ·rw[f1]
      rcases hqm g f j hj with hj | ⟨_,_,rfl⟩
      ·exact g2 g f hgf j hj
      ·show col=_
       rw[←hcol,g1 _ hr]
     ·have:Ge wd k2 c.least f:=hge k2 _ f e1' e2' g3
      refine ⟨λM r u hn=>?_,λb' hb' hbf j hj hjt=>?_⟩
      ·have h5:=this.nd M r u hn
       exact ⟨by have:=h5.inf;omega,λy hy=>by have:=h5.q y hy;omega,λt ht h0=>by have:=h5.clk t ht h0;omega⟩
      ·have:=this.box b' hb' hbf j hj hjt
       omega
   ·-- not counted
    have hct:k.counted a b i=false:=by
     rw[hcb]
     unfold ZTv at hc
     rw[Bool.and_assoc,Bool.eq_false_iff.2 hc,Bool.and_false]
    rw[hct] at hi ⊢
    have hi:∃s,Ze1 wd (({ k with boxes:=k.boxes.set a r }:KS).setQ a b (k.q a b++[i])) s:=hi
    show FK wd R (({ k with boxes:=k.boxes.set a r }:KS).setQ a b (k.q a b++[i]))
    refine ⟨hi,same _ i.Colour rfl rfl rfl,λc hcut=>?_⟩
    have hcut:k.cut=some c:=hcut
    have h1:=h.ci c hcut
    have hq:∀g f,ZTv wd g f=true→(({ k with boxes:=k.boxes.set a r }:KS).setQ a b (k.q a b++[i])).q g f=k.q g f:=λg f hgf=>by
     rw[ZU2 h ha hb { k with boxes:=k.boxes.set a r } rfl,if_neg λe=>hc (by rw[←e.1,←e.2];exact hgf)]
    refine h1.keep rfl rfl rfl rfl rfl rfl (λ_=>rfl) (λf M r u hn=>h1.fl f M r u hn) (λx hx=>by rw[ZT6 hq];exact h1.cnt x hx) (λg f hgf j hj=>by rw[hq g f hgf] at hj;exact hj) λv f _ _ hg=>hge _ v f rfl rfl hg
theorem ZUH {r out:List Zn} {n:Nd} (h:FK wd R k) (ha:a<wd.Feds.length) (hb:b<wd.Feds.length) (hab:a≠b) (hq:k.q a b=i::r) :
  (∀f,(((k.setN b n).setQ a b r).put b out).node f=if f=b then n else k.node f)∧(∀f,(((k.setN b n).setQ a b r).put b out).box f=if f=b then k.box b++out else k.box f)∧(∀g f,(((k.setN b n).setQ a b r).put b out).q g f=if g=a∧f=b then r else k.q g f)∧
  (∀g f,trK (((k.setN b n).setQ a b r).put b out) g f=if g=a∧f=b then r.map (λi=>(i.Kind,i.m))++toF b (k.box a) else if g=b then trK k g f++toF f out else trK k g f)∧trK k a b=(i.Kind,i.m)::(r.map (λi=>(i.Kind,i.m))++toF b (k.box a)):=by
 have h1:∀f,(((k.setN b n).setQ a b r).put b out).box f=if f=b then k.box b++out else k.box f:=λf=>by
  rw[Zmr]
  by_cases e:f=b
  ·rw[if_pos ⟨e.symm,h.bx hb⟩,if_pos e];rfl
  ·rw[if_neg λh=>e h.1.symm,if_neg e];rfl
 have h2:∀g f,(((k.setN b n).setQ a b r).put b out).q g f=if g=a∧f=b then r else k.q g f:=λg f=>ZU2 h ha hb (k.setN b n) rfl r g f
 refine ⟨λf=>ZT0 h hb n f,h1,h2,λg f=>?_,by unfold trK;rw[hq];rfl⟩
 unfold trK
 rw[h1,h2]
 by_cases e:g=a∧f=b
 ·rw[if_pos e,if_pos e,e.1,e.2,if_neg hab]
 ·rw[if_neg e,if_neg e]
  by_cases e2:g=b
  ·rw[if_pos e2,if_pos e2,ZUO,List.append_assoc,e2]
  ·rw[if_neg e2,if_neg e2]
theorem FK.deliver (h:FK wd R k) (w:WF wd R) (ha:a<wd.Feds.length) (hb:b<wd.Feds.length) (hi:∃s,Ze1 wd (k.deliver wd a b).2 s):FK wd R (k.deliver wd a b).2:=by
 obtain ⟨s,hs⟩:=h.inv
 unfold KS.deliver at hi ⊢
 split
 ·exact h
 ·rename_i i r hq
  rw[hq] at hi
  dsimp only at hi ⊢
  have hab:a≠b:=λe=>by
   subst e
   have:=hs.self a
   rw[this] at hq
   cases hq
  have hio:=hs.q a b i (by rw[hq];exact List.mem_cons_self ..)
  split
  ·exact h
  ·rename_i he
   rw[if_neg he] at hi
   have he:=Classical.not_not.1 he
   obtain ⟨d1,d2,d3,d4,d5⟩:=ZUH (n:=(k.hears wd a b i).2.2) (out:=(k.hears wd a b i).2.1) h ha hb hab hq
   generalize hk1:((k.setN b (k.hears wd a b i).2.2).setQ a b r).put b (k.hears wd a b i).2.1=k1 at hi d1 d2 d3 d4 ⊢
   have hcb:k.counted a b i=(!decide (i.Kind=2)&&ZTv wd a b):=by
    unfold KS.counted ZTv
    rw[h.fi.node_kind ha,h.fi.node_kind hb,Bool.and_assoc]
   have hkind:=(h.fi.pr a b ha hb hab).kind (i.Kind,i.m) (by rw[d5];exact List.mem_cons_self ..)
   have hfi:FI wd R k1.node (trK k1):=by
    cases hn:k.node b with
    | slow M=>
     have hh:k.hears wd a b i=(hearE M a i,[],.slow (Zd0 M a i)):=by unfold KS.hears;rw[hn]
     rw[hh] at d1 d4 he
     refine h.fi.hear_slow w ha hb hab hn he hio.time d5 d1 λg f=>?_
     rw[d4]
     have:toF f []=[]:=rfl
     rw[this,List.append_nil,ite_self]
    | bold M rk t=>
     have hh:k.hears wd a b i=((ZbE wd b (Zs wd b) M a i).e,(ZbE wd b (Zs wd b) M a i).out,.bold (ZbE wd b (Zs wd b) M a i).N rk t):=by unfold KS.hears;rw[hn]
     rw[hh] at d1 d4 he
     exact h.fi.hear_bold w ha hb hab hn he hio.time d5 d1 d4
   have hrk:(k.hears wd a b i).2.2.rank=(k.node b).rank:=by
    unfold KS.hears
    cases k.node b <;> rfl
   have hge:∀(k2:KS) (v:Int) (f:Nat),k2.nodes=k1.nodes→k2.boxes=k1.boxes→Zci wd f=true→(∀a b,ZTv wd a b=true→∀i∈k.q a b,v≤i.m.key.T)→Ge wd k v f→Ge wd k2 v f:=by
    intro k2 v f e1 e2 hf hl hg
    have n2:k2.node f=k1.node f:=by unfold KS.node;rw[e1]
    have b2:k2.box f=k1.box f:=by unfold KS.box;rw[e2]
    by_cases e:f=b
    ·subst e
     cases hn:k.node f with
     | slow M=>rw[h.isS hb hn] at hf;cases hf
     | bold M rk t=>
      have hh:k.hears wd a f i=((ZbE wd f (Zs wd f) M a i).e,(ZbE wd f (Zs wd f) M a i).out,.bold (ZbE wd f (Zs wd f) M a i).N rk t):=by unfold KS.hears;rw[hn]
      rw[hh] at d1 d2 he
      obtain ⟨n,hW⟩:=h.okB hb hn
      have hgn:=hg.nd M rk t hn
      have hiv:i.Kind≠2→v≤i.m.key.T:=by
       cases hba:Zci wd a with
       | true=>exact λ_=>hl a f (by unfold ZTv;rw[hba,hf];rfl) i (by rw[hq];exact List.mem_cons_self ..)
       | false=>
        have hb0:ZTv wd a f=false:=by unfold ZTv;rw[hba];rfl
        refine hgn.slow hW ha ?_ hio.time he ?_
        ·have h1:=h.fi.node_kind ha
         have h2:=hs.kind a ha
         rw[h1,hba] at h2
         by_cases hk:(Zs wd a).Kind=0
         ·exact hk
         ·rw[decide_eq_false hk] at h2;cases h2
        ·rcases hkind with hk | ⟨_,hk⟩ | ⟨hk,_⟩
         ·have hk:i.Kind=0:=hk
          omega
         ·rw[hb0] at hk;cases hk
         ·have hk:i.Kind=2:=hk
          omega
      obtain ⟨h1,h2⟩:=hgn.hear w.chk hb hW (λy hy=>h.val hb (by rw[hn];exact List.mem_append_right _ (List.mem_append_left _ hy))) hiv he ha
      refine ⟨λM' r' u' hn'=>?_,λb' hb' hbf j hj hjt=>?_⟩
      ·rw[n2,d1,if_pos rfl] at hn'
       cases hn'
       exact h1
      ·rw[b2,d2,if_pos rfl] at hj
       rcases List.mem_append.1 hj with hj | hj
       ·exact hg.box b' hb' hbf j hj hjt
       ·exact (h2 j hj).2
    ·refine ⟨λM' r' u' hn'=>?_,λb' hb' hbf j hj hjt=>?_⟩
     ·rw[n2,d1,if_neg e] at hn'
      exact hg.nd M' r' u' hn'
     ·rw[b2,d2,if_neg e] at hj
      exact hg.box b' hb' hbf j hj hjt
   have hfl:∀c,CI wd k c→∀f M r u,k1.node f=.bold M r u→M.fl≤c.value:=λc hc f M r' u hn'=>by
    rw[d1] at hn'
    split at hn'
    ·rename_i e
     cases hn:k.node b with
     | slow M'=>unfold KS.hears at hn';rw[hn] at hn';cases hn'
     | bold M' rk t=>
      have hh:k.hears wd a b i=((ZbE wd b (Zs wd b) M' a i).e,(ZbE wd b (Zs wd b) M' a i).out,.bold (ZbE wd b (Zs wd b) M' a i).N rk t):=by unfold KS.hears;rw[hn]
      rw[hh] at hn' he
      cases hn'
      have:=hc.fl b M' _ _ hn
      rcases ZTE he with ⟨_,_,_,e⟩ | ⟨_,_,_,e⟩ | ⟨_,_,_,e⟩ | ⟨_,_,e⟩ <;> rw[e] <;> exact this
    ·exact hc.fl f M r' u hn'
   have hrank:∀f,(k1.node f).rank=(k.node f).rank:=λf=>by
    rw[d1]
    split
    ·rename_i e;rw[e];exact hrk
    ·rfl
   have hqs:∀g f,∀j∈k1.q g f,j∈k.q g f:=λg f j hj=>by
    rw[d3] at hj
    split at hj
    ·rename_i e
     rw[e.1,e.2,hq]
     exact List.mem_cons_of_mem _ hj
    ·exact hj
   split
   ·rename_i c hct hcut
    rw[hct,hcut] at hi
    refine ⟨hi,hfi,λc' hc'=>?_⟩
    have hc':c.got i.Colour=c':=Option.some.inj hc'
    have h1:=h.ci c hcut
    rw[hcb,Bool.and_eq_true] at hct
    have hcol:i.Colour=0∨i.Colour=1:=by have:=hio.col;omega
    have hcnt:∀x,cnK wd k1 x+(if x=i.Colour then 1 else 0)=cnK wd k x:=λx=>by
     have h2:=ZUQ (wd:=wd) (k:=k) (k':=k1) (a:=a) (b:=b) (x:=x) (λg f hgf=>by unfold cn1;rw[d3,if_neg hgf]) ha hb
     have h3:cn1 wd k x a b=cn1 wd k1 x a b+if x=i.Colour then 1 else 0:=by
      unfold cn1
      rw[if_pos hct.2,if_pos hct.2,hq,d3,if_pos ⟨rfl,rfl⟩,List.filter_cons]
      by_cases e:x=i.Colour
      ·rw[if_pos e,if_pos (decide_eq_true e.symm)];rfl
      ·rw[if_neg e,if_neg (by rw[decide_eq_false λh=>e h.symm];decide)];rfl
     omega
    have hs0:∀y z,(c.setOn y z).begun=c.begun∧(c.setOn y z).over=c.over∧(c.setOn y z).T=c.T∧(c.setOn y z).Rp=c.Rp∧(c.setOn y z).least=c.least∧(c.setOn y z).value=c.value:=λy z=>by
     unfold CL.setOn
     split <;> exact ⟨rfl,rfl,rfl,rfl,rfl,rfl⟩
    have hgot:c'=c.setOn i.Colour (c.on i.Colour - 1):=by
     rw[←hc']
     unfold CL.got
     have:=h1.cnt _ hcol
     have h4:=hcnt i.Colour
     rw[if_pos rfl] at h4
     rw[if_neg]
     rintro (h5 | h5)
     ·have:=hio.col;omega
     ·omega
    obtain ⟨g1,g2,g3,g4,g5,g6⟩:=hs0 i.Colour (c.on i.Colour - 1)
    rw[←hgot] at g1 g2 g3 g4 g5 g6
    refine h1.keep g1 g2 g3 g4 g5 g6 hrank (hfl c h1) (λx hx=>?_) (λg f _ j hj=>hqs g f j hj) λv f hf hl hg=>hge _ v f rfl rfl hf hl hg
    rw[hgot,ZUl hcol hx]
    have h4:=hcnt x
    have h5:=h1.cnt x hx
    show (cnK wd k1 x:Int)≤_
    split
    ·rename_i e
     rw[if_pos e] at h4
     rw[←e]
     omega
    ·rename_i e
     rw[if_neg e] at h4
     omega
   ·rename_i x1 x2 hx
    have hi':∃s,Ze1 wd k1 s:=by
     obtain ⟨s,hs'⟩:=hi
     refine ⟨s,?_⟩
     revert hs'
     split
     ·rename_i c h3 h4;exact absurd h4 (by intro h5;exact hx c h3 h5)
     ·exact id
    refine ⟨hi',hfi,λc hcut=>?_⟩
    have hcut:k.cut=some c:=by
     have:k1.cut=k.cut:=by rw[←hk1];rfl
     rw[←this];exact hcut
    have h1:=h.ci c hcut
    have hnb:ZTv wd a b=false:=by
     cases hbb:ZTv wd a b with
     | false=>rfl
     | true=>
      exfalso
      refine hx c ?_ hcut
      rw[hcb,hbb,Bool.and_true]
      rcases hkind with hk | ⟨hk,_⟩ | ⟨_,hk⟩
      ·have hk:i.Kind=0:=hk
       rw[hk];rfl
      ·have hk:i.Kind=1:=hk
       rw[hk];rfl
      ·rw[hbb] at hk;cases hk
    refine h1.keep rfl rfl rfl rfl rfl rfl hrank (hfl c h1) (λx hx=>?_) (λg f _ j hj=>hqs g f j hj) λv f hf hl hg=>hge _ v f rfl rfl hf hl hg
    rw[ZT6 (k:=k) λg f hgf=>by rw[d3,if_neg λe=>by rw[e.1,e.2,hnb] at hgf;cases hgf]]
    exact h1.cnt x hx
theorem FK.begin (h:FK wd R k) (hi:∃s,Ze1 wd k.begin'.2 s):FK wd R k.begin'.2:=by
 unfold KS.begin' at hi ⊢
 split
 ·exact h
 ·rename_i c hc
  rw[hc] at hi
  dsimp only at hi
  split
  ·exact h
  ·rename_i ho
   rw[if_neg ho] at hi
   have h1:=h.ci c hc
   have hb:c.begun=c.over:=by have:=h1.ph;omega
   refine ⟨hi,h.fi,λc' hc'=>?_⟩
   have hc':=Option.some.inj hc'
   subst hc'
   refine ⟨h1.rk,.inr (by show c.begun+1=c.over+1;omega),λr hr=>.inr ?_,λr hr=>?_,h1.fl,h1.cnt,λhp=>?_,λf hf=>⟨(h1.val f hf).nd,(h1.val f hf).box⟩,h1.lnk,λ_ g f hgf j hj hjc=>?_,λ_ f hf he=>?_⟩
   ·show c.t r=c.over
    rcases h1.t r hr with e | e <;> omega
   ·have:=h1.rp r hr
    show c.Rp.getD r 0≤c.begun+1
    omega
   ·have hp:c.over=c.begun+1:=hp
    omega
   ·exfalso
    have h2:=h1.old hb.symm g f hgf j hj
    have hjc:j.Colour=(c.begun+1) % 2:=hjc
    omega
   ·exfalso
    have he:c.Rp.getD (k.node f).rank 0=c.begun+1:=he
    obtain ⟨s,hs⟩:=h.inv
    have h3:=h1.rp (k.node f).rank (hs.rank f (ZTt hf) (by rw[h.fi.node_kind (ZTt hf)];exact hf))
    omega
theorem FK.turn (h:FK wd R k) (ha:a<wd.Feds.length) (hi:∃s,Ze1 wd (k.turn a).2 s):FK wd R (k.turn a).2:=by
 obtain ⟨s,hs⟩:=h.inv
 unfold KS.turn at hi ⊢
 split
 ·rename_i N r t c hn hc
  rw[hn,hc] at hi
  dsimp only at hi
  split
  ·exact h
  ·rename_i ho
   rw[if_neg ho] at hi
   have h1:=h.ci c hc
   have hco:=(hs.cutIs hc).2
   have hba:=h.isB ha hn
   have hr:r<Zai wd:=by
    have:=hs.rank a ha (by rw[hn];rfl)
    rw[hn] at this
    exact this
   refine ⟨hi,h.fi,λc' hc'=>?_⟩
   have hc':=Option.some.inj hc'
   subst hc'
   have ht:∀x,CL.t { c with T:=c.T.set r c.begun } x=if x=r then c.begun else c.t x:=λx=>by
    show (c.T.set r c.begun).getD x 0=_
    rw[ZaX]
    by_cases e:x=r
    ·rw[if_pos ⟨e.symm,by rw[hco.t];exact hr⟩,if_pos e]
    ·rw[if_neg λh=>e h.1.symm,if_neg e];rfl
   have hp:c.over<c.begun:=by
    by_cases h2:c.over<c.begun
    ·exact h2
    ·exact absurd (.inl h2) ho
   have hnt:c.t r≠c.begun:=λe=>ho (.inr e)
   refine ⟨h1.rk,h1.ph,λx hx=>?_,h1.rp,h1.fl,h1.cnt,h1.old,λf hf=>⟨(h1.val f hf).nd,(h1.val f hf).box⟩,h1.lnk,h1.new,λhp f hf he=>?_⟩
   ·rw[ht]
    split
    ·exact .inl rfl
    ·exact h1.t x hx
   ·exact absurd ((h1.rep hp f hf he).1 r hr) hnt
 ·exact h
theorem ZTI (w:WF wd R):∀(l:List Nat) {k:KS},l.Nodup→(∀f∈l,f<wd.Feds.length)→k.nodes.length=wd.Feds.length→k.boxes.length=wd.Feds.length→FI wd R k.node (trK k)→
  (∀f∈l,∀M r u,k.node f=.bold M r u→ZaB M v=0∧∀m:Msg,m.key.T<v→(m∈ZTq R f↔m∈M.old++M.ms))→
  FI wd R (l.foldl (settle1 wd v) k).node (trK (l.foldl (settle1 wd v) k))∧(l.foldl (settle1 wd v) k).net=k.net∧
  (∀f M,k.node f=.slow M→(l.foldl (settle1 wd v) k).node f=.slow M)∧(∀f M r u,k.node f=.bold M r u→(l.foldl (settle1 wd v) k).node f=if f∈l then .bold (Ys M v) r u else .bold M r u)∧
  ∀f b:Nat,Zci wd b=true→∀i∈(l.foldl (settle1 wd v) k).box f,i.m.To=b→i∈k.box f
 | [],k,_,_,_,_,hfi,_=>⟨hfi,rfl,λ_ _ h=>h,λf M r u h=>by rw[if_neg (by simp)];exact h,λ_ _ _ _ h _=>h⟩
 | a::l,k,hnd,hl,hn,hb,hfi,hc=>by
  obtain ⟨n1,n2⟩:=List.nodup_cons.1 hnd
  have ha:=hl a (List.mem_cons_self ..)
  rw[List.foldl_cons]
  cases hna:k.node a with
  | slow M=>
   have e:settle1 wd v k a=k:=by unfold settle1;rw[hna]
   rw[e]
   obtain ⟨h1,h2,h3,h4,h5⟩:=ZTI w l n2 (λf hf=>hl f (List.mem_cons_of_mem _ hf)) hn hb hfi λf hf=>hc f (List.mem_cons_of_mem _ hf)
   refine ⟨h1,h2,h3,λf M' r u hf=>?_,h5⟩
   rw[h4 f M' r u hf]
   have:f≠a:=λe=>by rw[e,hna] at hf;cases hf
   by_cases hm:f∈l
   ·rw[if_pos hm,if_pos (List.mem_cons_of_mem _ hm)]
   ·rw[if_neg hm,if_neg λh=>(List.mem_cons.1 h).elim this hm]
  | bold M r u=>
   obtain ⟨he,hag⟩:=hc a (List.mem_cons_self ..) M r u hna
   have e:settle1 wd v k a=(k.setN a (.bold (Ys M v) r u)).put a (((Yq wd (ZaC wd a (Zs wd a) M v)).map Yz.m).map Zae):=by
    unfold settle1
    rw[hna]
    exact if_pos he
   generalize hk1:settle1 wd v k a=k1 at e ⊢
   have hnode:∀f,k1.node f=if f=a then .bold (Ys M v) r u else k.node f:=λf=>by
    rw[e]
    show (k.setN a _).node f=_
    rw[ZaK]
    by_cases e:f=a
    ·rw[if_pos ⟨e.symm,by omega⟩,if_pos e]
    ·rw[if_neg λh=>e h.1.symm,if_neg e]
   have htr:∀g f,trK k1 g f=if g=a then trK k g f++toF f (((Yq wd (ZaC wd a (Zs wd a) M v)).map Yz.m).map Zae) else trK k g f:=λg f=>by
    rw[e]
    exact ZUI (k:=k.setN a _) (by show a<k.boxes.length;omega) _
   have hbx:∀f b:Nat,Zci wd b=true→∀i∈k1.box f,i.m.To=b→i∈k.box f:=λf b hb i hi hto=>by
    rw[e,Zmr] at hi
    split at hi
    ·rename_i hfa
     rw[←hfa.1]
     rcases List.mem_append.1 hi with hi | hi
     ·exact hi
     ·exfalso
      have:((i.Kind,i.m):It)∈toF b (((Yq wd (ZaC wd a (Zs wd a) M v)).map Yz.m).map Zae):=ZTW.2 ⟨i,hi,hto,rfl⟩
      have:=(ZTJ.1 this).2.2.1
      rw[hb] at this
      cases this
    ·exact hi
   obtain ⟨h1,h2,h3,h4,h5⟩:=ZTI w l n2 (λf hf=>hl f (List.mem_cons_of_mem _ hf)) (k:=k1) (by rw[e];show (k.nodes.set a _).length=_;rw[List.length_set];exact hn) (by rw[e];show ((k.setN a _).boxes.set a _).length=_;rw[List.length_set];exact hb) (hfi.commit w ha hna he hag hnode htr) λf hf M' r' u' hf'=>by
    have hfa:f≠a:=λe=>n1 (e▸hf)
    rw[hnode,if_neg hfa] at hf'
    exact hc f (List.mem_cons_of_mem _ hf) M' r' u' hf'
   refine ⟨h1,by rw[h2,e];rfl,λf M' hf=>h3 f M' ?_,λf M' r' u' hf=>?_,λf b hb i hi hto=>hbx f b hb i (h5 f b hb i hi hto) hto⟩
   ·rw[hnode,if_neg λe=>by rw[e,hna] at hf;cases hf]
    exact hf
   ·by_cases hfa:f=a
    ·subst hfa
     rw[hna] at hf
     cases hf
     rw[h4 f (Ys M v) r u (by rw[hnode,if_pos rfl]),if_neg n1,if_pos (List.mem_cons_self ..)]
    ·rw[h4 f M' r' u' (by rw[hnode,if_neg hfa];exact hf)]
     by_cases hm:f∈l
     ·rw[if_pos hm,if_pos (List.mem_cons_of_mem _ hm)]
     ·rw[if_neg hm,if_neg λh=>(List.mem_cons.1 h).elim hfa hm]
theorem Ge.mono {v':Int} (h:Ge wd k v f) (hv:v'≤v):Ge wd k v' f:=⟨λM r u hn=>by
 have:=h.nd M r u hn
 exact ⟨by have:=this.inf;omega,λy hy=>by have:=this.q y hy;omega,λt ht h0=>by have:=this.clk t ht h0;omega⟩,λb hb hbf i hi hto=>by have:=h.box b hb hbf i hi hto;omega⟩
theorem Ge.max {v':Int} (h:Ge wd k v f) (h':Ge wd k v' f):Ge wd k (max v v') f:=⟨λM r u hn=>by
 have h1:=h.nd M r u hn
 have h2:=h'.nd M r u hn
 exact ⟨by have:=h1.inf;have:=h2.inf;omega,λy hy=>by have:=h1.q y hy;have:=h2.q y hy;omega,λt ht h0=>by have:=h1.clk t ht h0;have:=h2.clk t ht h0;omega⟩,λb hb hbf i hi hto=>by
  have:=h.box b hb hbf i hi hto
  have:=h'.box b hb hbf i hi hto
  omega⟩
theorem FK.local (h:FK wd R k) (hf:f<wd.Feds.length) {M:WN} {r:Nat} {u:Int} (hn:k.node f=.bold M r u):v≤ZcM M↔GeN v M:=by
 obtain ⟨n,hW⟩:=h.okB hf hn
 exact ZUP hW.upq λy hy=>h.val hf (by rw[hn];exact List.mem_append_right _ (List.mem_append_right _ hy))
theorem FK.report (h:FK wd R k) (w:WF wd R) (ha:a<wd.Feds.length) (hi:∃s,Ze1 wd (k.report wd a).2 s):FK wd R (k.report wd a).2:=by
 obtain ⟨s,hs⟩:=h.inv
 unfold KS.report at hi ⊢
 split
 ·rename_i N r u c hn hc
  rw[hn,hc] at hi
  dsimp only at hi
  split
  ·exact h
  ·rename_i ho
   rw[if_neg ho] at hi
   split
   ·exact h
   ·rename_i hon
    rw[if_neg hon] at hi
    have h1:=h.ci c hc
    have hco:=(hs.cutIs hc).2
    have hba:=h.isB ha hn
    have hr:r<Zai wd:=by
     have:=hs.rank a ha (by rw[hn];rfl)
     rw[hn] at this
     exact this
    have hp:c.over<c.begun:=by
     by_cases h2:c.over<c.begun
     ·exact h2
     ·exact absurd (.inl h2) ho
    have hT:∀x,x<Zai wd→c.t x=c.begun:=λx hx=>by
     have h2:(c.T.all λt=>decide (t=c.begun))=true:=by
      cases h3:c.T.all λt=>decide (t=c.begun) with
      | true=>rfl
      | false=>exact absurd (.inr (.inl h3)) ho
     obtain ⟨y,hy⟩:=Zk (l:=c.T) (j:=x) (by rw[hco.t];exact hx)
     have:=of_decide_eq_true (List.all_eq_true.1 h2 y (List.mem_of_getElem? hy))
     unfold CL.t
     rw[List.getD_eq_getElem?_getD,hy]
     exact this
    have hon0:c.on (c.over % 2)=0:=Classical.not_not.1 hon
    have hcol:∀g f:Nat,ZTv wd g f=true→∀j∈k.q g f,j.Colour=c.begun % 2:=λg f hgf j hj=>by
     have h2:=h1.cnt (c.over % 2) (ZUJ _)
     have hgf':=hgf
     unfold ZTv at hgf'
     rw[Bool.and_eq_true] at hgf'
     have h3:=ZVe (wd:=wd) (k:=k) (x:=c.over % 2) (by omega) (ZTt hgf'.1) (ZTt hgf'.2) hgf hj
     have h4:=(hs.q g f j hj).col
     have:=h1.ph
     omega
    generalize hx:ZaP (ZcM N::((k.box a).filter λi=>k.counted a i.m.To.toNat i).map λi=>i.m.key.T)=x at hi ⊢
    have hga:Ge wd k x a:=by
     refine ⟨λM r' u' hn'=>?_,λb hb hbf i hib hto=>?_⟩
     ·rw[hn] at hn'
      cases hn'
      refine (h.local ha hn).1 ?_
      have h2:x≤ZaD (ZcM N):=by rw[←hx];exact ZoZ (List.mem_cons_self ..)
      rwa [ZTB (show Yu (ZcM N)=true from Zo9 _)] at h2
     ·have hio:=hs.box a i hib
      have hbl:=ZTt hb
      have e:i.m.To.toNat=b:=by omega
      have hab:a≠b:=Ne.symm hbf
      have hk:=(h.fi.pr a b ha hbl hab).kind (i.Kind,i.m) (by
       unfold trK
       exact List.mem_append_right _ (ZTW.2 ⟨i,hib,hto,rfl⟩))
      have hk2:i.Kind≠2:=by
       rcases hk with hk | ⟨hk,_⟩ | ⟨_,hk⟩
       ·have hk:i.Kind=0:=hk
        omega
       ·have hk:i.Kind=1:=hk
        omega
       ·unfold ZTv at hk
        rw[hba,hb] at hk;cases hk
      have h2:x≤ZaD i.m.key.T:=by
       rw[←hx]
       refine ZoZ (List.mem_cons_of_mem _ (List.mem_map.2 ⟨i,List.mem_filter.2 ⟨hib,?_⟩,rfl⟩))
       unfold KS.counted
       rw[e,h.fi.node_kind ha,h.fi.node_kind hbl,hba,hb,decide_eq_false hk2]
       rfl
      rwa [ZTB hio.time] at h2
    have hall:∀f:Nat,Zci wd f=true→(c.Rp.set r c.begun).getD (k.node f).rank 0=c.begun→Ge wd k (min c.least x) f:=λf hf he=>by
     by_cases e:f=a
     ·rw[e];exact hga.mono (by omega)
     ·rw[ZaX,if_neg λh2=>e (h1.rk f a hf hba (by rw[hn];exact h2.1.symm))] at he
      exact (h1.rep hp f hf he).2.2.mono (by omega)
    dsimp only
    split
    ·rename_i hal
     rw[if_pos hal] at hi
     have hal':∀f:Nat,Zci wd f=true→Ge wd k (max c.value (min c.least x)) f:=λf hf=>by
      refine (h1.val f hf).max (hall f hf ?_)
      have h2:=hs.rank f (ZTt hf) (by rw[h.fi.node_kind (ZTt hf)];exact hf)
      obtain ⟨y,hy⟩:=Zk (l:=c.Rp.set r c.begun) (j:=(k.node f).rank) (by rw[List.length_set,hco.r];exact h2)
      have:=of_decide_eq_true (List.all_eq_true.1 hal y (List.mem_of_getElem? hy))
      rw[List.getD_eq_getElem?_getD,hy]
      exact this
     have hlk:∀g f:Nat,ZTv wd g f=true→∀j∈k.q g f,max c.value (min c.least x)≤j.m.key.T:=λg f hgf j hj=>by
      have h2:=h1.lnk g f hgf j hj
      have h3:=h1.new hp g f hgf j hj (hcol g f hgf j hj)
      omega
     generalize hv:max c.value (min c.least x)=v at hi hal' hlk ⊢
     have hvc:c.value≤v:=by omega
     have hcom:∀f,f<wd.Feds.length→∀M r u,k.node f=.bold M r u→ZaB M v=0:=λf hf M r u hn=>by
      have h2:=h1.fl f M r u hn
      have h3:=(h.local hf hn).2 ((hal' f (h.isB hf hn)).nd M r u hn)
      unfold ZaB
      rw[if_neg (by omega),if_neg (by omega)]
     have hlate:∀g f,g<wd.Feds.length→f<wd.Feds.length→g≠f→ZTv wd g f=true→∀i∈trK k g f,v≤i.2.key.T:=λg f hg hf hgf hb i hit=>by
      have hb':=hb
      unfold ZTv at hb'
      rw[Bool.and_eq_true] at hb'
      unfold trK at hit
      rcases List.mem_append.1 hit with hit | hit
      ·obtain ⟨j,hj,rfl⟩:=List.mem_map.1 hit
       exact hlk g f hb j hj
      ·obtain ⟨j,hj,hjt,rfl⟩:=ZTW.1 hit
       exact (hal' g hb'.1).box f hb'.2 (Ne.symm hgf) j hj hjt
     have hset:=ZTI w (v:=v) (List.range k.nodes.length) (k:={ k with cut:=some { c with Rp:=c.Rp.set r c.begun,least:=min c.least x,over:=c.begun,value:=v } }) List.nodup_range (λf hf=>by have:=List.mem_range.1 hf;rw[hs.nl] at this;exact this) hs.nl hs.bl h.fi λf hf M r u hn=>by
      have hf':f<wd.Feds.length:=by have:=List.mem_range.1 hf;rw[hs.nl] at this;exact this
      exact ⟨hcom f hf' M r u hn,λm hm=>ZVm w h.fi hcom hlate hf' hn hm⟩
     have hcut:=ZNA (wd:=wd) { k with cut:=some { c with Rp:=c.Rp.set r c.begun,least:=min c.least x,over:=c.begun,value:=v } } v
     rw[ZlS] at hcut
     have hi:∃s,Ze1 wd (KS.settle wd { k with cut:=some { c with Rp:=c.Rp.set r c.begun,least:=min c.least x,over:=c.begun,value:=v } } v) s:=hi
     show FK wd R (KS.settle wd { k with cut:=some { c with Rp:=c.Rp.set r c.begun,least:=min c.least x,over:=c.begun,value:=v } } v)
     rw[ZlS] at hi ⊢
     change (∃s,Ze1 wd ((List.range k.nodes.length).foldl (settle1 wd v) _) s) at hi
     change FK wd R ((List.range k.nodes.length).foldl (settle1 wd v) _)
     change ((List.range k.nodes.length).foldl (settle1 wd v) _).cut=_ at hcut
     generalize hk2:(List.range k.nodes.length).foldl (settle1 wd v) { k with cut:=some { c with Rp:=c.Rp.set r c.begun,least:=min c.least x,over:=c.begun,value:=v } }=k2 at hi hset hcut ⊢
     obtain ⟨s1,s2,s3,s4,s5⟩:=hset
     refine ⟨hi,s1,λc' hc'=>?_⟩
     rw[hcut] at hc'
     have hc':=Option.some.inj hc'
     have hq:∀g f,k2.q g f=k.q g f:=λg f=>by unfold KS.q;rw[s2]
     have hnd:∀f M r u,k.node f=.bold M r u→f<wd.Feds.length→k2.node f=.bold (Ys M v) r u:=λf M r u hn hf=>by
      rw[s4 f M r u hn,if_pos (List.mem_range.2 (by rw[hs.nl];exact hf))]
     have hrank:∀f,f<wd.Feds.length→(k2.node f).rank=(k.node f).rank:=λf hf=>by
      cases hn:k.node f with
      | slow M=>rw[s3 f M hn]
      | bold M r u=>rw[hnd f M r u hn hf];rfl
     have hfl:∀f M r u,k2.node f=.bold M r u→M.fl≤v:=λf M r u hn'=>by
      cases hn:k.node f with
      | slow M'=>rw[s3 f M' hn] at hn';cases hn'
      | bold M' r' u'=>
       rw[s4 f M' r' u' hn] at hn'
       split at hn'
       ·cases hn';exact Int.le_refl _
       ·cases hn'
        have:=h1.fl f M _ _ hn
        omega
     subst hc'
     refine ⟨λf g hf hg e=>h1.rk f g hf hg (by rw[←hrank f (ZTt hf),←hrank g (ZTt hg)];exact e),.inl rfl,λx hx=>.inl (hT x hx),λy hy=>?_,hfl,λx hx=>?_,λ_ g f hgf j hj=>?_,λf hf=>?_,λg f hgf j hj=>?_,λhp=>?_,λhp=>?_⟩
     ·show (c.Rp.set r c.begun).getD y 0≤c.begun
      rw[ZaX]
      split
      ·exact Int.le_refl _
      ·exact h1.rp y hy
     ·rw[ZT6 (k:=k) λg f _=>hq g f]
      exact h1.cnt x hx
     ·rw[hq] at hj
      exact hcol g f hgf j hj
     ·refine ⟨λM' r' u' hn'=>?_,λb hb hbf j hj hto=>(hal' f hf).box b hb hbf j (s5 f b hb j hj hto) hto⟩
      cases hn:k.node f with
      | slow M=>rw[s3 f M hn] at hn';cases hn'
      | bold M r'' u''=>
       rw[hnd f M r'' u'' hn (ZTt hf)] at hn'
       cases hn'
       exact ((hal' f hf).nd M _ _ hn).commit v
     ·rw[hq] at hj
      exact hlk g f hgf j hj
     ·exact absurd hp (by show ¬c.begun<c.begun;omega)
     ·exact absurd hp (by show ¬c.begun<c.begun;omega)
    ·rename_i hal
     rw[if_neg hal] at hi
     refine ⟨hi,h.fi,λc' hc'=>?_⟩
     have hc':=Option.some.inj hc'
     subst hc'
     refine ⟨h1.rk,h1.ph,h1.t,λy hy=>?_,h1.fl,h1.cnt,h1.old,λf hf=>⟨(h1.val f hf).nd,(h1.val f hf).box⟩,h1.lnk,λhp g f hgf j hj hjc=>?_,λhp f hf he=>⟨hT,hcol,(hall f hf he).nd,(hall f hf he).box⟩⟩
     ·show (c.Rp.set r c.begun).getD y 0≤c.begun
      rw[ZaX]
      split
      ·exact Int.le_refl _
      ·exact h1.rp y hy
     ·have:=h1.new hp g f hgf j hj hjc
      show min c.least x≤_
      omega
 ·exact h
end Go.Proofs.YtnhaekgogppbiaaGreat
end
