/- Texts of the proof, joined. Conditions: none. -/
import Derived.Test.YtkpdpddmaoablaaGreatK5
import Derived.KernelRfl
section
namespace Go.Proofs.YtkpdpddmaoablaaGreat
open Go Go.E
set_option maxRecDepth 100000
variable {e w:World} {L Q R:List HP} {K:KV} {S S2:HP}
variable {n f k:Nat} {wd:Wd} {fd:Fed} {N:WN}
theorem ZlJ (t:Int):(Ys N t).base fd=ZjE fd (N.base fd) (Zc6 t N.ms):=Zi8 fd N.old _ _
theorem Ztl (h:WOk wd f fd N k) (t:Int):(Ys N t).now fd=N.now fd:=by
 unfold WN.now
 rw[ZlJ]
 show ZjE fd (ZjE fd (N.base fd) (Zc6 t N.ms)) (ZmO t N.ms)=_
 rw[←Zi8,ZnE h.ups]
theorem Zl5 (h:WOk wd f fd N k) (t:Int):(Ys N t).past wd f fd=ZzN t (N.past wd f fd):=by
 unfold WN.past
 rw[ZlJ]
 exact (Zlk (ZpI h.ups t)).2.symm
theorem Zky (h:WOk wd f fd N k) (t:Int):Zx0 t (N.past wd f fd)=ZaC wd f fd N t:=(Zlk (ZpI h.ups t)).1
theorem ZnH (t:Int):(Ys N t).log wd f fd=N.log wd f fd++(ZaC wd f fd N t).map ZfV:=by
 show (Zc8 wd f fd (ZxV fd) (N.old++Zc6 t N.ms)).map ZfV=_
 rw[Zi3,List.map_append]
 rfl
theorem ZBr (h:WOk wd f fd N k):(N.past wd f fd).Pairwise λa b=>Zv a.m.key b.m.key:=ZvE h.ups
def Zek (wd:Wd) (f:Nat) (fd:Fed) (N:WN) (t:Int):List Msg:=(Yq wd (ZaC wd f fd N t)).map Yz.m
theorem ZAT (h:WOk wd f fd N k):(N.log wd f fd).length≤k:=by
 have:=h.cnt
 unfold WN.log
 rw[List.length_map,ZbA]
 omega
theorem Zoe {t:Int} (hk0:k≤1000) (hS:Sat e w (Ya n wd f fd N k::Q))
  (hno:ZaB N t≠0→∀w',Sat e w' (Ya n wd f fd N k::Q)→K (.tuple #[.slice none 0 0,.slice none 0 0,.int .i64 (ZaB N t)]) w')
  (hyes:ZaB N t=0→∀v u w',Sat e w' (DD v ((ZaC wd f fd N t).map ZfV)::Zz 40 6 Msg.cs u (Zek wd f fd N t)::Ya n wd f fd (Ys N t) k::Q)→K (.tuple #[v,u,.int .i64 0]) w') :
  Cl prog 91 #[.pointer (some ⟨n,0,none⟩),.int .i64 t] w K:=by
 refine ZeP ?_
 unfold ZeF
 obtain ⟨X,q,p,g,b,m,lv,hX,h1⟩:=Zb4 hS
 refine Zh (Za (Zb h1 0 rfl (v:=.pointer (some ⟨p,0,none⟩)) rfl ?_))
 refine Zfi (h1.pick 2 rfl) ?_
 refine Za7 (λc=>Zi ?_) (λc=>Zf ?_)
 ·have he:ZaB N t=110:=if_pos c
  rw[he] at hno
  exact hno (by decide) _ hS
 refine ZkN hS λw2 h2=>?_
 refine Ztu (λc2=>Zi ?_) (λc2=>Zf ?_)
 ·have he:ZaB N t=130:=by unfold ZaB;rw[if_neg c,if_pos c2]
  rw[he] at hno
  exact hno (by decide) _ h2
 have he:ZaB N t=0:=by unfold ZaB;rw[if_neg c,if_neg c2]
 clear h1
 obtain ⟨X,q,p,g,b,m,lv,hX,h1⟩:=Zb4 h2
 have hok:=hX.ok
 refine Zh (Za (Zb h1 0 rfl (v:=.pointer (some ⟨p,0,none⟩)) rfl ?_))
 refine Zoq (h1.pick 2 rfl) λv w3 h3=>?_
 rw[Zky hok,←Zl5 hok] at h3
 obtain ⟨xs,hxs,h4⟩:=ZxO h3
 generalize hse:ZaC wd f fd N t=se at hxs hyes
 have hsl:se.length≤64:=by
  rw[←hse]
  unfold ZaC
  rw[ZbA]
  exact Nat.le_trans (List.length_filter_le _ _) hok.ml
 have hxl:xs.length=se.length:=by rw[←hxs,List.length_map]
 refine Zt h4 0 rfl (λ_=>Zp) ?_
 rw[ZN8]
 replace h4:Sat e w3 (DE v xs::Yh (xs.map ZcP)::Yf p (max N.fl t) ((Ys N t).past wd f fd)::BW n X f (N.now fd).1 (N.now fd).2 q p g b lv::IsQ q N.q::Yo g N.fl (Yq wd (N.past wd f fd))::Zag X::Zaj kI kI b m::DD lv (N.log wd f fd)::Q):=h4
 refine ZjF (λmm t7 t30 w=>∃j:Nat,j≤se.length∧t30=.int .i64 j∧mm=se.length - j∧Sat e w (DD t7 ((se.take j).map ZfV)::DE v xs::Yh (xs.map ZcP)::Yf p (max N.fl t) ((Ys N t).past wd f fd)::BW n X f (N.now fd).1 (N.now fd).2 q p g b lv::IsQ q N.q::Yo g N.fl (Yq wd (N.past wd f fd))::Zag X::Zaj kI kI b m::DD lv (N.log wd f fd)::Q)) se.length
  ⟨0,Nat.zero_le _,rfl,rfl,h4.own_nil 42 7 Zak.cs⟩ ?_
 rintro mm t7 _ w g1 ⟨j,hj,rfl,rfl,h5⟩ hg1
 rw[hxl]
 refine Za7 (λc3=>Zi ?_) (λc3=>Zf ?_)
 ·obtain ⟨x,hx⟩:=Zk (l:=xs) (j:=j) (by omega)
  have hxe:se[j]?=some x.e:=by rw[←hxs,List.getElem?_map,hx];rfl
  refine Zw h5 1 rfl (λ_=>Zp) (λ_=>rfl) hx λa ha=>Ym h5 1 rfl ha rfl ?_
  refine Yp (cs:=EnX.zero.cs) h5 rfl λt9 w6 h6=>?_
  refine Zq h6 0 rfl (vs:=x.cs) rfl rfl (by simp[EnX.zero,EnX.cs]) (EnX.flat (ZlV 3 h6 rfl (List.mem_of_getElem? hx))) (cs':=x.cs) (by rfl) λw7 h7=>?_
  refine Za (Zo h7 0 (vs:=x.m.cs) rfl (by rfl) rfl (Za (Zb h7 0 rfl (v:=.int .i64 x.st) rfl ?_)))
  refine Zaf (ZfV x.e).cs (by kernel_rfl) ?_
  refine Zj7 ZPl (f:=Zak.cs) (λ_=>rfl) (λ_=>Zg _) (h7.pick 1 rfl) (x:=ZfV x.e) rfl (by rw[List.length_map,List.length_take];omega) λv' w8 h8=>?_
  refine Yr (by omega) ?_
  refine hg1 _ _ _ _ (by omega) ⟨j+1,by omega,rfl,rfl,?_⟩
  rw[Zx hxe,List.map_append]
  exact h8.selR [_,_] [_] [0] (by decide) rfl
 ·have ej:j=se.length:=by omega
  rw[ej,List.take_length] at h5
  refine Zh (Za (Zb h5 4 rfl (v:=lv) rfl ?_))
  have hlf:=ZAT hok
  refine Zeo ZPl ZPl.und (f:=Zak.cs) (l:=N.log wd f fd) (m:=se.map ZfV) (λ_=>rfl) (λ_=>Zg _) (h5.selR [_,_,_,_,_,_,_,_,_,_] [_,_,_,_,_,_,_,_,_,_] [9,0,1,2,3,4,5,6,7,8] (by decide) rfl) (λ_=>Zp) (by rw[List.length_map];omega) λlv' w6 h6=>?_
  have q1:=h6.own_cells 0 rfl
  refine Zh (Za (Zq h6 5 rfl (vs:=[lv']) q1.1 rfl (Nat.le_of_ble_eq_true rfl) (λc hc=>by rw[List.mem_singleton.1 hc];exact q1.2) (cs':=wcs X f (N.now fd).1 (N.now fd).2 q p g b lv') (by rfl) λw7 h7=>?_))
  replace h7:Sat e w7 (DD lv' (N.log wd f fd++se.map ZfV)::DD t7 (se.map ZfV)::DE v xs::Yh (xs.map ZcP)::Yf p (max N.fl t) ((Ys N t).past wd f fd)::BW n X f (N.now fd).1 (N.now fd).2 q p g b lv'::IsQ q N.q::Yo g N.fl (Yq wd (N.past wd f fd))::Zag X::Zaj kI kI b m::Q):=h7
  refine Zh (Za (Zb h7 5 rfl (v:=.pointer (some ⟨g,0,none⟩)) rfl ?_))
  refine ZqO t (h7.pick 7 rfl) (ZiV hok) λu w8 h8=>?_
  obtain ⟨hft,_⟩:=Zkb he
  have hmax:max N.fl t=t:=by omega
  have hop:Zs6 (Yq wd (N.past wd f fd)) t=Yq wd se:=by
   rw[ZrI (ZBr hok),←hse,←Zky hok]
   rfl
  have hleft:ZwV (Yq wd (N.past wd f fd)) t=Yq wd ((Ys N t).past wd f fd):=by
   rw[Zuu,Zl5 hok]
   rfl
  rw[hmax,hop,hleft] at h8
  have hlog:N.log wd f fd++se.map ZfV=(Ys N t).log wd f fd:=by rw[ZnH,hse]
  rw[hlog] at h8
  have hnow:=Ztl hok t
  rw[←hnow] at h8
  have hop2:Zek wd f fd N t=(Yq wd se).map Yz.m:=by unfold Zek;rw[hse]
  rw[hop2] at hyes
  have h9:=ZbQ (N:=Ys N t) (X:=X) (q:=q) (p:=p) (g:=g) (b:=b) (m:=m) (lv:=lv') ⟨hX.eq,hX.short,hok.commit he,hX.map⟩ (h8.selR [_,_,_,_,_,_,_,_,_,_,_] [_,_,_,_,_,_,_,_,_] [7,8,6,1,9,10,2,3,0] (by decide) rfl)
  exact hyes he t7 u _ (h9.selR [_,_,_] [_,_,_] [1,2,0] (by decide) rfl)
theorem Zyo {l:List Msg} {b:Int × Int} {m:Msg} (h:Upk (l++[m])):Zx4 (Zc8 wd f fd b l) m.key:=by
 intro x hx
 have h1:=List.mem_of_getLast? hx
 exact h.mid (Zdm h1).1 (by simp)
theorem Zqd {m:Msg} {r:List Msg} (hq:N.q=m::r):(Zcv N).past wd f fd=N.past wd f fd++[ZoQ wd f fd (N.now fd) m]:=by
 rw[ZiD hq]
 show Zc8 wd f fd (N.base fd) (N.ms++[m])=_
 rw[Zi3]
 rfl
theorem Zwi {m:Msg} {r:List Msg} (hq:N.q=m::r):(Zcv N).now fd=Zhz fd (N.now fd) m:=by
 rw[ZiD hq]
 show ZjE fd (N.base fd) (N.ms++[m])=_
 rw[Zi8]
 rfl
theorem ZtN {m:Msg} {r:List Msg} (hq:N.q=m::r):Yq wd ((Zcv N).past wd f fd)=Yq wd (N.past wd f fd)++ZmR wd (ZoQ wd f fd (N.now fd) m):=by
 rw[Zqd hq,Zw5]
 congr 1
 exact List.flatMap_singleton ..
theorem Zrp (hk0:k≤1000) (hS:Sat e w (Ya n wd f fd N k::Q))
  (hno:Zcl wd f fd N≠0→∀w',Sat e w' (Ya n wd f fd N k::Q)→K (.tuple #[.agg Zak.zero.cs.toArray,.slice none 0 0,.int .i64 (Zcl wd f fd N)]) w')
  (hyes:Zcl wd f fd N=0→∀v w',Sat e w' (DI v (ZqQ wd (Zin wd f fd N))::Ya n wd f fd (Zcv N) (k+1)::Q)→K (.tuple #[.agg (ZfV (Zin wd f fd N)).cs.toArray,v,.int .i64 0]) w') :
  Cl prog 211 #[.pointer (some ⟨n,0,none⟩)] w K:=by
 refine ZgF ?_
 unfold ZgX
 rw[ZOu,ZNN]
 refine Yp (cs:=Zak.zero.cs) hS rfl λt2 w1 h1=>?_
 obtain ⟨X,q,p,g,b,mm,lv,hX,h2⟩:=Zb4 h1.swap
 have hok:=hX.ok
 have hEnd:X.End=wd.End:=congrArg Wd.End hX.eq
 refine Zh (Za (Zb h2 0 rfl (v:=.pointer (some ⟨q,0,none⟩)) rfl ?_))
 refine Zlv (h2.pick 1 rfl) λw3 h3=>?_
 refine Zam (Zal ?_)
 refine Yp (cs:=Msg.zero.cs) h3 rfl λt5 w4 h4=>?_
 refine Zq h4 0 rfl (vs:=(hdM N.q).cs) rfl rfl (by decide) (Zg _) (cs':=(hdM N.q).cs) (by rfl) λw5 h5=>?_
 replace h5:Sat e w5 (blk t5 40 (hdM N.q).cs::IsQ q N.q::BW n X f (N.now fd).1 (N.now fd).2 q p g b lv::Yf p N.fl (N.past wd f fd)::Yo g N.fl (Yq wd (N.past wd f fd))::Zag X::Zaj kI kI b mm::DD lv (N.log wd f fd)::blk t2 42 Zak.zero.cs::Q):=h5
 refine ZaY h5 λw6 h6=>?_
 have refuse:∀(er:Int) (w':World),Zcl wd f fd N=er→er≠0→Sat e w' (blk t5 40 (hdM N.q).cs::IsQ q N.q::BW n X f (N.now fd).1 (N.now fd).2 q p g b lv::Yf p N.fl (N.past wd f fd)::Yo g N.fl (Yq wd (N.past wd f fd))::Zag X::Zaj kI kI b mm::DD lv (N.log wd f fd)::blk t2 42 Zak.zero.cs::Q)→
   bld (Zl prog 42) #[(0,6),(6,1)] [] w' λt35 w=>stN 7 (.pointer (some ⟨t2,0,none⟩)) t35 w λ_ w=>ldN 7 (.pointer (some ⟨t2,0,none⟩)) w λr0 _=>K (Value.tuple #[r0,(Value.slice none 0 0),(Value.int IntKind.i64 er)]) w:=by
  intro er w' he hne h
  refine Zaf Zak.zero.cs (by kernel_rfl) ?_
  refine Zq h 8 rfl (vs:=Zak.zero.cs) rfl rfl (by decide) (Zg _) (cs':=Zak.zero.cs) (by kernel_rfl) λw7 h7=>?_
  refine Zo h7 8 (vs:=Zak.zero.cs) rfl (by rfl) rfl ?_
  subst he
  exact hno hne _ (ZbQ hX (h7.selR [_,_,_,_,_,_,_,_,_] [_,_,_,_,_,_,_] [2,1,3,4,5,6,7] (by decide) rfl))
 cases hq:ZjD N.q with
 | false=>
  refine Zch (Zd (Zd (Zd (Zd (Zd (Zd (Zd (Zd (Zd (Yv (Zi ?_)))))))))))
  exact refuse 150 _ (if_pos (λh=>by rw[hq] at h;cases h.1)) (by decide) h6
 | true=>
  refine ZaJ (Zj (Za (Zj (Za (Zj (Zb h6 0 rfl (v:=.int .i64 (hdM N.q).key.T) rfl ?_))))))
  refine Zj (Zj (Zwz (Zj (Za (Zj (Za (Zj (Zb h6 2 rfl (v:=.int .i64 X.End) rfl (Zj ?_)))))))))
  refine Zu5 (λc1=>Yd (Zi ?_)) (λc1=>Yd (Zf ?_))
  ·exact refuse 150 _ (if_pos (λh=>by have:=h.2;omega)) (by decide) h6
  have hc:¬¬(ZjD N.q=true∧(hdM N.q).key.T<wd.End):=λh=>h ⟨hq,by omega⟩
  refine Zh (Za (Zb h6 2 rfl (v:=.pointer (some ⟨p,0,none⟩)) rfl ?_))
  refine Znx (h6.pick 3 rfl) ?_
  have hpl:(N.past wd f fd).length=N.ms.length:=ZbA ..
  rw[hpl]
  have hml:=hok.ml
  by_cases c2:(64:Int)≤N.ms.length
  ·refine Zqv c2 (Zd (Zd (Zd (Zd (Zd (Zd (Zd (Yv (Zi ?_)))))))))
   exact refuse 2 _ (by unfold Zcl;rw[if_neg hc,if_pos (.inl (by omega))]) (by decide) h6
  refine ZnR c2 (Zj (Zj (Zwz (Zj (Za (Zj (Zb h6 2 rfl (v:=.pointer (some ⟨g,0,none⟩)) rfl (Zj ?_))))))))
  refine Zrw (h6.pick 4 rfl) (ZiV hok) λv48 w7 h7=>?_
  have hgl:=ZiV hok
  refine Zj (Zt h7 0 rfl (λ_=>Zp) (Zj ?_))
  rw[List.length_map]
  replace h7:Sat e w7 (Zz 40 6 Msg.cs v48 ((Yq wd (N.past wd f fd)).map Yz.m)::Yo g N.fl (Yq wd (N.past wd f fd))::blk t5 40 (hdM N.q).cs::IsQ q N.q::BW n X f (N.now fd).1 (N.now fd).2 q p g b lv::Yf p N.fl (N.past wd f fd)::Zag X::Zaj kI kI b mm::DD lv (N.log wd f fd)::blk t2 42 Zak.zero.cs::Q):=h7
  have h8:Sat e w7 (blk t5 40 (hdM N.q).cs::IsQ q N.q::BW n X f (N.now fd).1 (N.now fd).2 q p g b lv::Yf p N.fl (N.past wd f fd)::Yo g N.fl (Yq wd (N.past wd f fd))::Zag X::Zaj kI kI b mm::DD lv (N.log wd f fd)::blk t2 42 Zak.zero.cs::Q):=h7.selR [_,_,_,_,_,_,_,_,_,_] [_,_,_,_,_,_,_,_,_] [2,3,4,5,1,6,7,8,9] (by decide) rfl
  refine Ztu (λc3=>Yd (Zi ?_)) (λc3=>Yd (Zf ?_))
  ·exact refuse 2 _ (by unfold Zcl;rw[if_neg hc,if_pos (.inr (by omega))]) (by decide) h8
  have he:Zcl wd f fd N=0:=by unfold Zcl;rw[if_neg hc,if_neg (by omega)]
  obtain ⟨m,r,hmr⟩:=ZoL hq
  have hhd:hdM N.q=m:=by rw[hmr];rfl
  rw[hhd] at h8
  obtain ⟨⟨m',r',hmr',hmt⟩,_,_⟩:=Zr5 he
  rw[hmr] at hmr'
  obtain ⟨rfl,rfl⟩:=List.cons.inj hmr'
  clear h1 h2 h3 h4 h5 h6 h7 refuse hmr' hno
  obtain ⟨fx,hfx,rfl⟩:=hX.fed
  have hfxm:=List.mem_of_getElem? hfx
  have hsf:=hX.short.fed fx hfxm
  have hXp:X.Parents=wd.Parents:=congrArg Wd.Parents hX.eq
  refine Zh (Za (Zb h8 2 rfl (v:=.pointer (some ⟨q,0,none⟩)) rfl ?_))
  refine Zvc (h8.pick 1 rfl) λw9 h9=>?_
  rw[show N.q.tail=r from by rw[hmr];rfl] at h9
  replace h9:Sat e w9 (IsQ q r::blk t5 40 m.cs::BW n X f (N.now fx.f).1 (N.now fx.f).2 q p g b lv::Yf p N.fl (N.past wd f fx.f)::Yo g N.fl (Yq wd (N.past wd f fx.f))::Zag X::Zaj kI kI b mm::DD lv (N.log wd f fx.f)::blk t2 42 Zak.zero.cs::Q):=h9
  refine ZaY h9 λw10 h10=>?_
  refine Zh (Za (Za (Zb h10 2 rfl (v:=X.fv) rfl ?_)))
  refine Zh (Za (Zb h10 2 rfl (v:=.int .i64 f) rfl ?_))
  refine Zw h10 5 rfl (λg hg=>(Zct hg).feds) (λ_=>rfl) hfx λa ha=>?_
  refine Zbd ha λa1 ha1=>Yt h10 5 rfl ha1 (v:=fx.rv) rfl ?_
  refine Zh (Za (Zb h10 2 rfl (v:=.int .i64 (N.now fx.f).1) rfl ?_))
  refine Za (Zb h10 1 rfl (v:=.int .i64 m.Class) rfl ?_)
  refine Zkr (l:=fx.Rules) (s:=(N.now fx.f).1) (c:=m.Class) (h10.pick 5 rfl) (λg hg=>((Zct hg).fed fx hfxm).rules) hsf.rules hsf.sends λov w11 h11=>?_
  obtain ⟨so,hso⟩:∃so,so=ZbY fx.f.Rules (N.now fx.f).1 m.Class:=⟨_,rfl⟩
  have hso2:ZbY (fx.Rules.map Yg.r) (N.now fx.f).1 m.Class=so:=hso.symm
  rw[hso2] at h11 ⊢
  have houts:=ZlA hok.may (List.mem_of_getElem? hok.hfd) (N.now fx.f).1 m.Class
  rw[←hso] at houts
  refine Zam (Zal ?_)
  replace h11:Sat e w11 (Zz 55 3 Out.cs ov so.2::Zag X::IsQ q r::blk t5 40 m.cs::BW n X f (N.now fx.f).1 (N.now fx.f).2 q p g b lv::Yf p N.fl (N.past wd f fx.f)::Yo g N.fl (Yq wd (N.past wd f fx.f))::Zaj kI kI b mm::DD lv (N.log wd f fx.f)::blk t2 42 Zak.zero.cs::Q):=h11
  refine ZaY h11 λw12 h12=>?_
  refine Zh (Za (Zo h12 4 (vs:=X.cs) rfl (by rfl) rfl ?_))
  refine Zh (Za (Zb h12 4 rfl (v:=.int .i64 f) rfl ?_))
  refine Zh (Za (Zb h12 4 rfl (v:=.int .i64 (N.now fx.f).2) rfl ?_))
  refine Za (Za (Zb h12 3 rfl (v:=.int .i64 m.key.T) rfl ?_))
  refine Za (Zb h12 3 rfl (v:=.int .i64 m.Body) rfl ?_)
  have hsu:=hok.sent
  refine Zog (x:=X) (outs:=so.2) 1 0 rfl rfl h12 (λg hg=>Zct hg) (λ_=>Zp) hX.short (by rw[hXp];exact hok.may.tree) (λo ho=>by rw[hXp];exact (houts.2 o ho).1) (by omega) ⟨by omega,by omega⟩ λmv w13 h13=>?_
  obtain ⟨en,hen⟩:∃en,en=ZoQ wd f fx.f (N.now fx.f) m:=⟨_,rfl⟩
  have hsp:Zau X.w.Parents X.w.Feds f (N.now fx.f).2 m.key.T m.Body so.2=en.outs:=by rw[hX.eq,hso,hen];rfl
  rw[hsp] at h13
  have hent:=ZnV hok.may hok.hfd (N.now fx.f) m
  rw[←hen] at hent
  refine ZaY h13 λw14 h14=>?_
  refine Zh (Za (Zb h14 5 rfl (v:=.pointer (some ⟨p,0,none⟩)) rfl ?_))
  refine Zo h14 4 (vs:=m.cs) rfl (by rfl) rfl ?_
  refine Zh (Za (Zb h14 5 rfl (v:=.int .i64 (N.now fx.f).1) rfl ?_))
  refine Zh (Za (Zb h14 5 rfl (v:=.int .i64 (N.now fx.f).2) rfl ?_))
  obtain ⟨A,cp,hmv,_⟩:=h14.shape 0 rfl (λ_=>Zp)
  subst hmv
  generalize hmv:Value.slice A en.outs.length cp=mv at h14
  refine Zaf (EnX.cs ⟨m,(N.now fx.f).1,(N.now fx.f).2,so.1,.slice A en.outs.length cp,en.outs⟩) (by kernel_rfl) ?_
  rw[hmv]
  have qm:=h14.own_cells 0 rfl
  refine ⟨Zb h14 5 rfl (v:=.pointer (some ⟨p,0,none⟩)) rfl ⟨rfl,rfl⟩,?_⟩
  replace h14:Sat e w14 (Zz 40 6 Msg.cs mv en.outs::Zz 55 3 Out.cs ov so.2::Zag X::IsQ q r::blk t5 40 m.cs::BW n X f (N.now fx.f).1 (N.now fx.f).2 q p g b lv::Yf p N.fl (N.past wd f fx.f)::Yo g N.fl (Yq wd (N.past wd f fx.f))::Zaj kI kI b mm::DD lv (N.log wd f fx.f)::blk t2 42 Zak.zero.cs::Q):=h14
  have hfl:¬m.key.T<N.fl:=by
   have:=hok.hi m (by rw[hmr];simp)
   omega
  have hup:Upk (N.ms++[m]):=by
   have:=hok.line
   rw[hmr,show N.ms++m::r=(N.ms++[m])++r from by simp] at this
   exact this.left
  refine Zri (x:=⟨m,(N.now fx.f).1,(N.now fx.f).2,so.1,mv,en.outs⟩) 0 rfl (show en.outs.length≤1000 by omega) (λ_=>Zp) hfl (Zyo hup) (show (N.past wd f fx.f).length<64 by omega) (h14.pick 6 rfl) λw15 h15=>?_
  rw[show EnX.e ⟨m,(N.now fx.f).1,(N.now fx.f).2,so.1,mv,en.outs⟩=en from by rw[hso,hen];rfl] at h15
  replace h15:Sat e w15 (Yf p N.fl (N.past wd f fx.f++[en])::Zz 40 6 Msg.cs mv en.outs::Zz 55 3 Out.cs ov so.2::Zag X::IsQ q r::blk t5 40 m.cs::BW n X f (N.now fx.f).1 (N.now fx.f).2 q p g b lv::Yo g N.fl (Yq wd (N.past wd f fx.f))::Zaj kI kI b mm::DD lv (N.log wd f fx.f)::blk t2 42 Zak.zero.cs::Q):=h15
  refine Zh (Za (Zb h15 6 rfl (v:=.int .i64 (N.now fx.f).2) rfl ?_))
  refine Zt h15 2 rfl (λ_=>Zp) (ZcD (by omega) (by omega) ?_)
  have hnb:Zhz fx.f (N.now fx.f) m=(so.1,(N.now fx.f).2+so.2.length):=by rw[hso];rfl
  refine Zh (Za (Zq h15 6 rfl (vs:=Yi [so.1]) rfl rfl (Nat.le_of_ble_eq_true rfl) (Zg _) (cs':=wcs X f so.1 (N.now fx.f).2 q p g b lv) (by rfl) λw16 h16=>?_))
  refine Zh (Za (Zq h16 6 rfl (vs:=Yi [(N.now fx.f).2+so.2.length]) rfl rfl (Nat.le_of_ble_eq_true rfl) (Zg _) (cs':=wcs X f so.1 ((N.now fx.f).2+so.2.length) q p g b lv) (by rfl) λw17 h17=>?_))
  replace h17:Sat e w17 (Yf p N.fl (N.past wd f fx.f++[en])::Zz 40 6 Msg.cs mv en.outs::Zz 55 3 Out.cs ov so.2::Zag X::IsQ q r::blk t5 40 m.cs::BW n X f so.1 ((N.now fx.f).2+so.2.length) q p g b lv::Yo g N.fl (Yq wd (N.past wd f fx.f))::Zaj kI kI b mm::DD lv (N.log wd f fx.f)::blk t2 42 Zak.zero.cs::Q):=h17
  refine Zt h17 1 rfl (λ_=>Zp) ?_
  refine ZjF (λq' t10 t132 w=>∃i:Nat,i≤en.outs.length∧t132=.int .i64 i∧q'=en.outs.length - i∧Sat e w (DI t10 (((en.outs.take i).filter λm=>Zci wd m.To).map Zae)::Yo g N.fl (Yq wd (N.past wd f fx.f)++((en.outs.take i).filter λm=>!Zci wd m.To).map λo=>⟨m.key,o⟩)::Yf p N.fl (N.past wd f fx.f++[en])::Zz 40 6 Msg.cs mv en.outs::Zag X::IsQ q r::blk t5 40 m.cs::BW n X f so.1 ((N.now fx.f).2+so.2.length) q p g b lv::Zaj kI kI b mm::DD lv (N.log wd f fx.f)::blk t2 42 Zak.zero.cs::Q)) en.outs.length
   ⟨0,Nat.zero_le _,rfl,rfl,?_⟩ ?_
  ·rw[List.take_zero,List.filter_nil,List.filter_nil,List.map_nil,List.map_nil,List.append_nil]
   exact (h17.selR [_,_,_,_,_,_,_,_,_,_,_] [_,_,_,_,_,_,_,_,_,_] [7,0,1,3,4,5,6,8,9,10] (by decide) rfl).own_nil 85 8 Zn.cs
  rintro q' t10 _ w g1 ⟨i,hi,rfl,rfl,h18⟩ hg1
  refine Za7 (λd=>Zi ?_) (λd=>Zf ?_)
  ·obtain ⟨o,ho⟩:=Zk (l:=en.outs) (j:=i) (by omega)
   have hot:=hent.2 o (List.mem_of_getElem? ho)
   have hfs1:=Zdw (p:=λm=>Zci wd m.To) ho
   have hfs2:=Zdw (p:=λm=>!Zci wd m.To) ho
   have hl1:=List.length_filter_le (λm=>Zci wd m.To) (en.outs.take i)
   have hl2:=List.length_filter_le (λm=>!Zci wd m.To) (en.outs.take i)
   rw[List.length_take] at hl1 hl2
   refine J1.cut (λt10' w=>Sat e w (DI t10' (((en.outs.take (i+1)).filter λm=>Zci wd m.To).map Zae)::Yo g N.fl (Yq wd (N.past wd f fx.f)++((en.outs.take (i+1)).filter λm=>!Zci wd m.To).map λo=>⟨m.key,o⟩)::Yf p N.fl (N.past wd f fx.f++[en])::Zz 40 6 Msg.cs mv en.outs::Zag X::IsQ q r::blk t5 40 m.cs::BW n X f so.1 ((N.now fx.f).2+so.2.length) q p g b lv::Zaj kI kI b mm::DD lv (N.log wd f fx.f)::blk t2 42 Zak.zero.cs::Q)) (λk2 hk2=>?_) ?_
   ·refine Zw h18 3 rfl (λ_=>Zp) (λ_=>rfl) ho λa ha=>Ym h18 3 rfl ha rfl ?_
    refine Yp (cs:=Msg.zero.cs) h18 rfl λt12 w19 h19=>?_
    refine Zq h19 0 rfl (vs:=o.cs) rfl rfl (by decide) (Zg _) (cs':=o.cs) (by rfl) λw20 h20=>?_
    replace h20:Sat e w20 (blk t12 40 o.cs::DI t10 (((en.outs.take i).filter λm=>Zci wd m.To).map Zae)::Yo g N.fl (Yq wd (N.past wd f fx.f)++((en.outs.take i).filter λm=>!Zci wd m.To).map λo=>⟨m.key,o⟩)::Yf p N.fl (N.past wd f fx.f++[en])::Zz 40 6 Msg.cs mv en.outs::Zag X::IsQ q r::blk t5 40 m.cs::BW n X f so.1 ((N.now fx.f).2+so.2.length) q p g b lv::Zaj kI kI b mm::DD lv (N.log wd f fx.f)::blk t2 42 Zak.zero.cs::Q):=h20
    refine Za (Zb h20 0 rfl (v:=.int .i64 o.To) rfl ?_)
    refine ZxA ⟨hot.1,by rw[hX.len];exact hot.2.1⟩ 8 5 rfl rfl h20 ?_
    rw[hX.eq]
    cases hb:Zci wd o.To with
    | true=>
     refine Zi (Zo h20 0 (vs:=o.cs) rfl (by rfl) rfl ?_)
     refine Zaf (Zae o).cs (by kernel_rfl) ?_
     refine Zj7 ZO0 (f:=Zn.cs) (λ_=>rfl) (λ_=>Zg _) (h20.pick 1 rfl) (x:=Zae o) rfl (by rw[List.length_map];omega) λv' w21 h21=>?_
     refine hk2 _ _ ?_
     rw[hfs1,hfs2,hb]
     simp only[if_true,List.map_append,List.map_singleton,Bool.not_true,Bool.false_eq_true,if_false,List.append_nil]
     exact h21.selR [_,_,_,_,_,_,_,_,_,_,_,_] [_,_,_,_,_,_,_,_,_,_,_] [0,2,3,4,5,6,7,8,9,10,11] (by decide) rfl
    | false=>
     refine Zf (ZaY h20 λw21 h21=>?_)
     refine Zh (Za (Zb h21 8 rfl (v:=.pointer (some ⟨g,0,none⟩)) rfl ?_))
     refine Za (Zo h21 7 (vs:=m.key.cs) rfl (by rfl) rfl (Zo h21 0 (vs:=o.cs) rfl (by rfl) rfl ?_))
     have hgl2:(Yq wd (N.past wd f fx.f)++((en.outs.take i).filter λm=>!Zci wd m.To).map λo=>(⟨m.key,o⟩:Yz)).length<256:=by
      rw[List.length_append,List.length_map]
      omega
     refine Zrq m.key o (h21.pick 2 rfl) (by omega) λw22 h22=>?_
     have hhold:ZsN N.fl (Yq wd (N.past wd f fx.f)++((en.outs.take i).filter λm=>!Zci wd m.To).map λo=>(⟨m.key,o⟩:Yz)) m.key o=Yq wd (N.past wd f fx.f)++(((en.outs.take i).filter λm=>!Zci wd m.To).map λo=>(⟨m.key,o⟩:Yz))++[⟨m.key,o⟩]:=by
      unfold ZsN
      rw[if_neg hfl,if_neg (by omega)]
     rw[hhold] at h22
     refine hk2 _ _ ?_
     rw[hfs1,hfs2,hb]
     simp only[Bool.not_false,if_true,List.map_append,List.map_singleton,Bool.false_eq_true,if_false,List.append_nil]
     rw[←List.append_assoc]
     exact h22.selR [_,_,_,_,_,_,_,_,_,_,_,_] [_,_,_,_,_,_,_,_,_,_,_] [2,0,3,4,5,6,7,8,9,10,11] (by decide) rfl
   ·intro t10' w19 h19
    refine Yr (by omega) ?_
    exact hg1 _ _ _ _ (by omega) ⟨i+1,by omega,rfl,rfl,h19⟩
  ·have ei:i=en.outs.length:=by omega
   rw[ei,List.take_length] at h18
   refine Zo h18 6 (vs:=m.cs) rfl (by rfl) rfl ?_
   refine Zaf (⟨m,so.1⟩:Zak).cs (by kernel_rfl) ?_
   refine Zq h18 10 rfl (vs:=(⟨m,so.1⟩:Zak).cs) rfl rfl (Nat.le_of_ble_eq_true rfl) (Zg _) (cs':=(⟨m,so.1⟩:Zak).cs) (by rfl) λw19 h19=>?_
   refine Zo h19 10 (vs:=(⟨m,so.1⟩:Zak).cs) rfl (by rfl) rfl ?_
   have hsE:Zin wd f fx.f N=en:=by rw[hen];unfold Zin;rw[hhd]
   have hdE:ZfV en=⟨m,so.1⟩:=by rw[hen,hso];rfl
   rw[hsE,hdE] at hyes
   refine hyes he t10 _ ?_
   have hn2:(Zcv N).now fx.f=(so.1,(N.now fx.f).2+so.2.length):=by rw[Zwi hmr,hnb]
   have hp2:(Zcv N).past wd f fx.f=N.past wd f fx.f++[en]:=by rw[Zqd hmr,hen]
   have hg2:Yq wd ((Zcv N).past wd f fx.f)=Yq wd (N.past wd f fx.f)++(en.outs.filter λm=>!Zci wd m.To).map λo=>⟨m.key,o⟩:=by rw[ZtN hmr,←hen];congr 1;unfold ZmR;rw[hen];rfl
   have hq2:(Zcv N).q=r:=by rw[ZiD hmr]
   have h20:=ZbQ (N:=Zcv N) (X:=X) (q:=q) (p:=p) (g:=g) (b:=b) (m:=mm) (lv:=lv) (k:=k+1) (n:=n) (f:=f) (wd:=wd) (fd:=fx.f) ⟨hX.eq,hX.short,hok.step he,hX.map⟩ (Q:=DI t10 ((en.outs.filter λm=>Zci wd m.To).map Zae)::Q) (e:=e) (w:=w19) (by
    rw[hn2,hg2,hp2,hq2]
    exact h19.selR [_,_,_,_,_,_,_,_,_,_,_] [_,_,_,_,_,_,_,_] [7,5,2,1,4,8,9,0] (by decide) rfl)
   exact h20.swap
def ZAM (wd:Wd) (f:Nat):Nd→Prop
 | .slow N=>Zzg N∧QOk N.q
 | .bold N _ _=>∃k,WOk wd f (Zs wd f) N k
def ZtC (wd:Wd) (f:Nat) (n n':Nd):Prop:=∃l,n'.log wd f=n.log wd f++l
def KOk (wd:Wd) (k:KS):Prop:=∀f,f<k.nodes.length→ZAM wd f (k.node f)
def ZdM (wd:Wd) (k k':KS):Prop:=k'.nodes.length=k.nodes.length∧∀f,ZtC wd f (k.node f) (k'.node f)
theorem ZtC.refl (f:Nat) (n:Nd):ZtC wd f n n:=⟨[],(List.append_nil _).symm⟩
theorem ZdM.refl (k:KS):ZdM wd k k:=⟨rfl,λf=>ZtC.refl f _⟩
theorem ZdM.trans {a b c:KS} (h:ZdM wd a b) (h':ZdM wd b c):ZdM wd a c:=⟨h'.1.trans h.1,λf=>by
 obtain ⟨l,hl⟩:=h.2 f
 obtain ⟨l',hl'⟩:=h'.2 f
 exact ⟨l++l',by rw[hl',hl,List.append_assoc]⟩⟩
theorem KOk.setN {k:KS} (h:KOk wd k) {a:Nat} {n:Nd} (hn:a<k.nodes.length→ZAM wd a n∧ZtC wd a (k.node a) n):KOk wd (k.setN a n)∧ZdM wd k (k.setN a n):=by
 have hlen:(k.setN a n).nodes.length=k.nodes.length:=List.length_set
 refine ⟨λf hf=>?_,hlen,λf=>?_⟩
 ·rw[hlen] at hf
  rw[ZaK]
  split
  ·rename_i h1
   rw[←h1.1]
   exact (hn h1.2).1
  ·exact h f hf
 ·rw[ZaK]
  split
  ·rename_i h1
   rw[←h1.1]
   exact (hn h1.2).2
  ·exact ZtC.refl f _
theorem ZwM (wd:Wd) (f:Nat) (fd:Fed) (N:WN) (j:Int) (i:Zn):(ZbE wd f fd N j i).N.old=N.old:=by
 have h6:∀{c:Prop} [Decidable c] {a b:HR},a.N.old=N.old→b.N.old=N.old→(if c then a else b).N.old=N.old:=by
  intro c _ a b ha hb
  split
  ·exact ha
  ·exact hb
 unfold ZbE
 exact h6 rfl (h6 (h6 rfl (h6 rfl rfl)) (h6 (h6 rfl (h6 rfl (h6 rfl rfl))) (h6 (h6 rfl (h6 rfl (h6 rfl (h6 rfl (h6 rfl rfl))))) rfl)))
theorem Zsl {N:ND} (h:QOk N.q) (j:Int) (i:Zn):QOk (Zd0 N j i).q:=by
 unfold Zd0
 split
 ·exact h
 ·split
  ·exact h.push _
  ·exact h
theorem Ztf (c:Clk) (a b:Int):(c.tell a b).bound=c.bound:=by
 unfold Clk.tell
 split <;> rfl
theorem Zpg {N:ND} (h:Zzg N) (fd:Fed):Zzg (ZiG fd N):=⟨h.up,λd hd=>by
 show _∧_<(N.clk.tell (Zcd N) fd.Look).bound
 rw[Ztf]
 exact h.ahead d hd⟩
theorem ZlX {k:KS} (h:KOk wd k) (t:Int):KOk wd (k.settle wd t)∧ZdM wd k (k.settle wd t):=by
 unfold KS.settle
 generalize List.range k.nodes.length=l
 induction l generalizing k with
 | nil=>exact ⟨h,ZdM.refl k⟩
 | cons f l ih=>
  have one:∀k':KS,KOk wd k'→ZdM wd k k'→KOk wd (l.foldl (λk f=>match k.node f with
   | .slow _=>k
   | .bold N r told=>if ZaB N t=0 then (k.setN f (.bold (Ys N t) r told)).put f (((Yq wd (ZaC wd f (Zs wd f) N t)).map Yz.m).map Zae) else k) k')∧ZdM wd k (l.foldl (λk f=>match k.node f with
   | .slow _=>k
   | .bold N r told=>if ZaB N t=0 then (k.setN f (.bold (Ys N t) r told)).put f (((Yq wd (ZaC wd f (Zs wd f) N t)).map Yz.m).map Zae) else k) k'):=λk' h1 h2=>by
   obtain ⟨h3,h4⟩:=ih h1
   exact ⟨h3,h2.trans h4⟩
  rw[List.foldl_cons]
  cases hn:k.node f with
  | slow N=>exact one _ h (ZdM.refl k)
  | bold N r told=>
   dsimp only
   split
   ·rename_i he
    obtain ⟨g1,g2⟩:=h.setN (a:=f) (n:=.bold (Ys N t) r told) λhf=>by
     have h1:=h f hf
     rw[hn] at h1
     obtain ⟨m,hW⟩:=h1
     refine ⟨⟨m,hW.commit he⟩,(ZaC wd f (Zs wd f) N t).map ZfV,?_⟩
     rw[hn]
     exact ZnH t
    exact one _ g1 g2
   ·exact one _ h (ZdM.refl k)
theorem ZrD {k k':KS} (h1:KOk wd k') (h2:ZdM wd k k') (t:Int):KOk wd (k'.settle wd t)∧ZdM wd k (k'.settle wd t):=⟨(ZlX h1 t).1,h2.trans (ZlX h1 t).2⟩
theorem ZzL {k:KS} (h:KOk wd k) (kind a b:Nat):KOk wd (k.do' wd kind a b).2∧ZdM wd k (k.do' wd kind a b).2:=by
 have same:KOk wd k∧ZdM wd k k:=⟨h,ZdM.refl k⟩
 unfold KS.do'
 split
 ·unfold KS.step
  split
  ·exact same
  ·split
   ·rename_i N hn
    split
    ·rename_i hs
     exact h.setN (a:=a) (n:=.slow (Zmn (Zs wd a) N)) λha=>by
      have h1:=h a ha
      rw[hn] at h1 ⊢
      exact ⟨⟨Zps h1.1 h1.2 hs,h1.2.tail⟩,[ZmU (Zs wd a) N],rfl⟩
    ·exact same
   ·rename_i N r t hn
    split
    ·rename_i he
     exact h.setN (a:=a) (n:=.bold (Zcv N) r t) λha=>by
      have h1:=h a ha
      rw[hn] at h1 ⊢
      obtain ⟨m,hW⟩:=h1
      exact ⟨⟨m+1,hW.step he⟩,[],(List.append_nil _).symm⟩
    ·exact same
 ·unfold KS.flush
  split
  ·exact same
  ·split
   ·exact same
   ·dsimp only
    split
    ·exact same
    ·exact same
 ·unfold KS.deliver
  split
  ·exact same
  ·rename_i i r hb
   dsimp only
   split
   ·exact same
   ·have hs:KOk wd (k.setN b (k.hears wd a b i).2.2)∧ZdM wd k (k.setN b (k.hears wd a b i).2.2):=h.setN λhbl=>by
     have h1:=h b hbl
     unfold KS.hears
     cases hn:k.node b with
     | slow N=>
      rw[hn] at h1
      obtain ⟨⟨e1,_⟩,_⟩:=Zmf N a i
      exact ⟨⟨Zpb h1.1 _ _,Zsl h1.2 _ _⟩,[],by rw[List.append_nil];exact e1⟩
     | bold N rk t=>
      rw[hn] at h1
      obtain ⟨m,hW⟩:=h1
      refine ⟨⟨m,hW.hear _ _⟩,[],?_⟩
      rw[List.append_nil]
      show (Zc8 wd b (Zs wd b) (ZxV (Zs wd b)) (ZbE wd b (Zs wd b) N a i).N.old).map ZfV=_
      rw[ZwM]
      rfl
    split
    ·exact hs
    ·exact hs
 ·unfold KS.tell
  split
  ·exact same
  ·split
   ·rename_i N hn
    split
    ·exact h.setN (a:=a) (n:=.slow (ZiG (Zs wd a) N)) λha=>by
      have h1:=h a ha
      rw[hn] at h1 ⊢
      exact ⟨⟨Zpg h1.1 _,h1.2⟩,[],(List.append_nil _).symm⟩
    ·exact same
   ·rename_i N r t hn
    split
    ·exact same
    ·exact h.setN (a:=a) (n:=.bold N r (Za6 (Zs wd a) N)) λha=>by
      have h1:=h a ha
      rw[hn] at h1 ⊢
      exact ⟨h1,[],(List.append_nil _).symm⟩
 ·unfold KS.begin'
  split
  ·exact same
  ·split
   ·exact same
   ·exact same
 ·unfold KS.turn
  split
  ·split
   ·exact same
   ·exact same
  ·exact same
 ·unfold KS.report
  split
  ·split
   ·exact same
   ·split
    ·exact same
    ·dsimp only
     split
     ·show KOk wd (KS.settle wd _ _)∧ZdM wd k (KS.settle wd _ _)
      refine ZrD ?_ ?_ _
      ·exact h
      ·exact ZdM.refl k
     ·exact same
  ·exact same
theorem Zya (t:Int):Yu (ZaD t)=true:=by
 unfold Yu
 rw[decide_eq_true_iff]
 unfold ZaD Inf Zsq
 (repeat' split) <;> omega
theorem ZjT (a b:Int):Yu (ZvS a b)=true:=Zya _
theorem ZsR {a b:Int} (ha:Yu a=true) (hb:Yu b=true):Yu (min a b)=true:=by
 unfold Yu at*
 rw[decide_eq_true_iff] at*
 unfold Inf Zsq at*
 omega
theorem Zo9:∀l:List Int,Yu (ZaP l)=true:=by
 have key:∀(l:List Int) (n:Int),Yu n=true→Yu (l.foldl (λn t=>min n (ZaD t)) n)=true:=by
  intro l
  induction l with
  | nil=>exact λn h=>h
  | cons t l ih=>exact λn h=>ih _ (ZsR h (Zya t))
 exact λl=>key l Inf (by decide)
theorem Zmc {t:Int} (h:Yu t=true):0≤t∧t≤Inf∧ZmY t:=by
 unfold Yu at h
 rw[decide_eq_true_iff] at h
 unfold ZmY
 unfold Inf Zsq at*
 omega
structure Zb8 (n:Nat) (i:Zn):Prop where
 kind:0≤i.Kind∧i.Kind≤2
 col:0≤i.Colour∧i.Colour≤1
 to:0≤i.m.To∧i.m.To<n
 time:Yu i.m.key.T=true
def Zrh (n:Nat) (m:Msg):Prop:=(0≤m.To∧m.To<n)∧Yu m.key.T=true
structure ZeV (c:CL) (m s:Nat):Prop where
 t:c.T.length=m
 r:c.Rp.length=m
 begun:0≤c.begun∧c.begun≤s
 over:0≤c.over∧c.over≤c.begun
 on:(0≤c.on0∧c.on0≤s)∧0≤c.on1∧c.on1≤s
def Zai (wd:Wd):Nat:=(wd.Feds.filter λf=>!decide (f.Kind=0)).length
structure Ze1 (wd:Wd) (k:KS) (s:Nat):Prop where
 may:ZoS wd
 ok:KOk wd k
 nl:k.nodes.length=wd.Feds.length
 bl:k.boxes.length=wd.Feds.length
 netl:k.net.length=wd.Feds.length
 rowl:∀a,a<wd.Feds.length→(k.net.getD a []).length=wd.Feds.length
 box:∀a,∀i∈k.box a,Zb8 wd.Feds.length i
 q:∀a b,∀i∈k.q a b,Zb8 wd.Feds.length i
 self:∀a,k.q a a=[]
 rank:∀a,a<wd.Feds.length→(k.node a).isBold=true→(k.node a).rank<Zai wd
 kind:∀a,a<wd.Feds.length→(k.node a).isBold=!decide ((Zs wd a).Kind=0)
 cut:if Zai wd=0 then k.cut=none else ∃c,k.cut=some c∧ZeV c (Zai wd) s
 len:∀a,(k.box a).length≤40000*(s+1)
theorem Zi2 {ps:List Int} {feds:List Fed} {f seq now body:Int} {outs:List Out} {m:Msg} (h:m∈Zau ps feds f seq now body outs):Zrh feds.length m:=by
 obtain ⟨i,o,to,_,h2,rfl⟩:=Znf h
 exact ⟨⟨(ZhA h2).1,(ZhA h2).2.1⟩,ZjT _ _⟩
theorem Zb8.plain {n:Nat} {m:Msg} (h:Zrh n m):Zb8 n (Zae m):=⟨⟨Int.le_refl 0,show (0:Int)≤2 by decide⟩,⟨Int.le_refl 0,show (0:Int)≤1 by decide⟩,h.1,h.2⟩
theorem Zb8.anti {n:Nat} {m:Msg} (h:Zrh n m):Zb8 n (Zs1 m):=⟨⟨show (0:Int)≤1 by decide,show (1:Int)≤2 by decide⟩,⟨Int.le_refl 0,show (0:Int)≤1 by decide⟩,h.1,h.2⟩
theorem ZxX {f:Nat} {fd:Fed} {b:Int × Int} {l:List Msg} {x:En} (h:x∈Zc8 wd f fd b l) {m:Msg} (hm:m∈x.outs):Zrh wd.Feds.length m:=by
 obtain ⟨_,b',hx⟩:=Zdm h
 rw[hx] at hm
 exact Zi2 hm
theorem Zz9 {f:Nat} {fd:Fed} {b:Int × Int} {x:Msg} {m:Msg} (hm:m∈(ZoQ wd f fd b x).outs):Zrh wd.Feds.length m:=Zi2 hm
theorem ZzU {f:Nat} {fd:Fed} {b:Int × Int} {l:List Msg} {i:Zn} (h:i∈Zk4 wd (Zc8 wd f fd b l)):Zb8 wd.Feds.length i:=by
 unfold Zk4 at h
 obtain ⟨x,hx,hi⟩:=List.mem_flatMap.1 h
 unfold Zjg at hi
 obtain ⟨m,hm,rfl⟩:=List.mem_map.1 hi
 exact .anti (ZxX (List.mem_reverse.1 hx) (List.mem_filter.1 hm).1)
theorem ZAj {f:Nat} {fd:Fed} {b:Int × Int} {l:List Msg} {i:Zn} (h:i∈((Yq wd (Zc8 wd f fd b l)).map Yz.m).map Zae):Zb8 wd.Feds.length i:=by
 obtain ⟨m,hm,rfl⟩:=List.mem_map.1 h
 obtain ⟨y,hy,rfl⟩:=List.mem_map.1 hm
 unfold Yq at hy
 obtain ⟨x,hx,hy⟩:=List.mem_flatMap.1 hy
 exact .plain (ZxX hx (ZbU hy).2.1)
theorem Zls {f:Nat} {fd:Fed} {N:WN} {j:Int} {i:Zn}:(ZbE wd f fd N j i).out=[]∨(ZbE wd f fd N j i).out=Zk4 wd (ZiU wd f fd N i.m.key):=by
 have h6:∀{c:Prop} [Decidable c] {a b:HR} {l:List Zn},(a.out=[]∨a.out=l)→(b.out=[]∨b.out=l)→((if c then a else b).out=[]∨(if c then a else b).out=l):=by
  intro c _ a b l ha hb
  split
  ·exact ha
  ·exact hb
 have o:∀{a:HR} {l:List Zn},a.out=[]→(a.out=[]∨a.out=l):=λh=>.inl h
 unfold ZbE
 exact h6 (o rfl) (h6 (h6 (o rfl) (h6 (o rfl) (o rfl))) (h6 (h6 (o rfl) (h6 (o rfl) (h6 (o rfl) (.inr rfl)))) (h6 (h6 (o rfl) (h6 (o rfl) (h6 (o rfl) (h6 (o rfl) (h6 (o rfl) (.inr rfl)))))) (o rfl))))
theorem Zn5 {α β:Type} (g:α→List β) (c:Nat):∀l:List α,(∀a∈l,(g a).length≤c)→(l.flatMap g).length≤l.length*c
 | [],_=>by simp
 | a::l,h=>by
  rw[List.flatMap_cons,List.length_append,List.length_cons,Nat.add_mul]
  have h1:=h a (List.mem_cons_self ..)
  have h2:=Zn5 g c l λx hx=>h x (List.mem_cons_of_mem _ hx)
  omega
theorem Zge (h:ZoS wd) {f:Nat} {fd:Fed} (hfd:wd.Feds[f]?=some fd) {b:Int × Int} {x:Msg}:(ZoQ wd f fd b x).outs.length≤24:=by
 have h1:=Zoj h hfd b.1 x.Class
 have h2:=ZcU wd.Parents wd.Feds f b.2 x.key.T x.Body (ZbY fd.Rules b.1 x.Class).2
 have h3:=Nat.mul_le_mul h1 h.n.2
 exact Nat.le_trans h2 h3
theorem Zuf (h:ZoS wd) {f:Nat} {fd:Fed} (hfd:wd.Feds[f]?=some fd) {b:Int × Int} {l:List Msg} {x:En} (hx:x∈Zc8 wd f fd b l):x.outs.length≤24:=by
 obtain ⟨_,b',hx'⟩:=Zdm hx
 rw[hx']
 exact Zge h hfd
theorem ZrY (h:ZoS wd) {f:Nat} {fd:Fed} (hfd:wd.Feds[f]?=some fd) {b:Int × Int} {l:List Msg}:(Zk4 wd (Zc8 wd f fd b l)).length≤l.length*24:=by
 unfold Zk4
 have:=Zn5 (Zjg wd) 24 (Zc8 wd f fd b l).reverse λx hx=>by
  unfold Zjg
  rw[List.length_map]
  exact Nat.le_trans (List.length_filter_le _ _) (Zuf h hfd (List.mem_reverse.1 hx))
 rwa [List.length_reverse,ZbA] at this
theorem Zxq (h:ZoS wd) {f:Nat} {fd:Fed} (hfd:wd.Feds[f]?=some fd) {b:Int × Int} {l:List Msg}:(Yq wd (Zc8 wd f fd b l)).length≤l.length*24:=by
 unfold Yq
 have:=Zn5 (ZmR wd) 24 (Zc8 wd f fd b l) λx hx=>by
  unfold ZmR
  rw[List.length_map]
  exact Nat.le_trans (List.length_filter_le _ _) (Zuf h hfd hx)
 rwa [ZbA] at this
theorem ZaN {a:Nat} (ha:a<wd.Feds.length):wd.Feds[a]?=some (Zs wd a):=by
 unfold Zs
 rw[List.getD_eq_getElem?_getD,List.getElem?_eq_getElem ha]
 rfl
theorem Ze1.mono {k:KS} {s t:Nat} (h:Ze1 wd k s) (hs:s≤t):Ze1 wd k t:=by
 refine ⟨h.may,h.ok,h.nl,h.bl,h.netl,h.rowl,h.box,h.q,h.self,h.rank,h.kind,?_,λa=>Nat.le_trans (h.len a) (by omega)⟩
 have:=h.cut
 split
 ·rename_i hb
  rwa [if_pos hb] at this
 ·rename_i hb
  rw[if_neg hb] at this
  obtain ⟨c,hc,h1,h2,h3,h4,h5⟩:=this
  exact ⟨c,hc,h1,h2,by omega,h4,by omega⟩
structure ZdF (wd:Wd) (k:KS) (s:Nat) (n:Nat):Prop where
 inv:Ze1 wd { k with boxes:=List.replicate wd.Feds.length [] } s
 bl:k.boxes.length=wd.Feds.length
 box:∀a,∀i∈k.box a,Zb8 wd.Feds.length i
 len:∀a,(k.box a).length≤n
theorem ZsB (k:KS) (n a:Nat):KS.box { k with boxes:=List.replicate n [] } a=[]:=by
 unfold KS.box
 rw[List.getD_eq_getElem?_getD,List.getElem?_replicate]
 split <;> rfl
theorem ZlO {k:KS} {n m:Nat}:∀a,∀i∈KS.box { k with boxes:=List.replicate n [] } a,Zb8 m i:=λa i hi=>by
 rw[ZsB] at hi
 cases hi
theorem Zii {k:KS} {n m:Nat}:∀a,(KS.box { k with boxes:=List.replicate n [] } a).length≤m:=λa=>by
 rw[ZsB]
 exact Nat.zero_le _
theorem Ze1.pre {k:KS} {s:Nat} (h:Ze1 wd k s):ZdF wd k s (40000*(s+1)):=
 ⟨⟨h.may,h.ok,h.nl,List.length_replicate,h.netl,h.rowl,ZlO,h.q,h.self,h.rank,h.kind,h.cut,Zii⟩,h.bl,h.box,h.len⟩
theorem ZdF.all {k:KS} {s n:Nat} (h:ZdF wd k s n) (hn:n≤40000*(s+1)):Ze1 wd k s:=
 ⟨h.inv.may,h.inv.ok,h.inv.nl,h.bl,h.inv.netl,h.inv.rowl,h.box,h.inv.q,h.inv.self,h.inv.rank,h.inv.kind,h.inv.cut,λa=>Nat.le_trans (h.len a) hn⟩
theorem ZdF.mono {k:KS} {s t n m:Nat} (h:ZdF wd k s n) (hs:s≤t) (hn:n≤m):ZdF wd k t m:=⟨h.inv.mono hs,h.bl,h.box,λa=>Nat.le_trans (h.len a) hn⟩
theorem ZdF.put {k:KS} {s n:Nat} (h:ZdF wd k s n) {a m:Nat} {l:List Zn} (hl:∀i∈l,Zb8 wd.Feds.length i) (hm:l.length≤m):ZdF wd (k.put a l) s (n+m):=by
 refine ⟨h.inv,by unfold KS.put;rw[List.length_set];exact h.bl,λf i hi=>?_,λf=>?_⟩
 ·rw[Zmr] at hi
  split at hi
  ·rcases List.mem_append.1 hi with hi | hi
   ·exact h.box a i hi
   ·exact hl i hi
  ·exact h.box f i hi
 ·rw[Zmr]
  have h1:=h.len a
  have h2:=h.len f
  split
  ·rw[List.length_append];omega
  ·omega
theorem ZdF.setN {k:KS} {s n:Nat} (h:ZdF wd k s n) {a:Nat} {N:Nd} (hN:a<wd.Feds.length→ZAM wd a N) (hb:N.isBold=(k.node a).isBold) (hr:N.rank=(k.node a).rank):ZdF wd (k.setN a N) s n:=by
 have hnode:∀f,(k.setN a N).node f=if a=f∧a<k.nodes.length then N else k.node f:=λf=>ZaK ..
 have hnl:k.nodes.length=wd.Feds.length:=h.inv.nl
 have hb':∀f,((k.setN a N).node f).isBold=(k.node f).isBold:=λf=>by
  rw[hnode]
  split
  ·rename_i h1;rw[←h1.1];exact hb
  ·rfl
 have hr':∀f,((k.setN a N).node f).rank=(k.node f).rank:=λf=>by
  rw[hnode]
  split
  ·rename_i h1;rw[←h1.1];exact hr
  ·rfl
 have hl:(k.setN a N).nodes.length=wd.Feds.length:=by
  have:(k.setN a N).nodes.length=k.nodes.length:=List.length_set
  rw[this,hnl]
 refine ⟨⟨h.inv.may,λf hf=>?_,hl,List.length_replicate,h.inv.netl,h.inv.rowl,ZlO,h.inv.q,h.inv.self,λf hf hfb=>?_,λf hf=>?_,h.inv.cut,Zii⟩,h.bl,h.box,h.len⟩
 ·show ZAM wd f ((k.setN a N).node f)
  rw[hnode]
  split
  ·rename_i h1
   rw[←h1.1]
   exact hN (by rw[←hnl];exact h1.2)
  ·refine h.inv.ok f ?_
   show f<k.nodes.length
   rw[hnl,←hl]
   exact hf
 ·show ((k.setN a N).node f).rank<Zai wd
  rw[hr']
  refine h.inv.rank f hf ?_
  show (k.node f).isBold=true
  rw[←hb' f]
  exact hfb
 ·show ((k.setN a N).node f).isBold=_
  rw[hb']
  exact h.inv.kind f hf
theorem Zy2 (l:List (List (List Zn))) (a b c d:Nat) (x:List Zn):((l.set a ((l.getD a []).set b x)).getD c []).getD d []=if a=c∧b=d∧a<l.length∧b<(l.getD a []).length then x else (l.getD c []).getD d []:=by
 rw[ZaX]
 by_cases h1:a=c
 ·subst h1
  by_cases h2:a<l.length
  ·rw[if_pos ⟨rfl,h2⟩,ZaX]
   by_cases h3:b=d∧b<(l.getD a []).length
   ·rw[if_pos h3,if_pos ⟨rfl,h3.1,h2,h3.2⟩]
   ·rw[if_neg h3,if_neg (λh=>h3 ⟨h.2.1,h.2.2.2⟩)]
  ·rw[if_neg (λh=>h2 h.2),if_neg (λh=>h2 h.2.2.1)]
 ·rw[if_neg (λh=>h1 h.1),if_neg (λh=>h1 h.1)]
theorem Zy1 (k:KS) (a b c d:Nat) (l:List Zn):(k.setQ a b l).q c d=if a=c∧b=d∧a<k.net.length∧b<(k.net.getD a []).length then l else k.q c d:=Zy2 ..
theorem ZdF.setQ {k:KS} {s n:Nat} (h:ZdF wd k s n) {a b:Nat} {l:List Zn} (hl:∀i∈l,Zb8 wd.Feds.length i) (hab:a=b→l=[]):ZdF wd (k.setQ a b l) s n:=by
 refine ⟨⟨h.inv.may,h.inv.ok,h.inv.nl,List.length_replicate,?_,λf hf=>?_,ZlO,λc d i hi=>?_,λc=>?_,h.inv.rank,h.inv.kind,h.inv.cut,Zii⟩,h.bl,h.box,h.len⟩
 ·show (k.net.set a _).length=_
  rw[List.length_set]
  exact h.inv.netl
 ·show ((k.net.set a ((k.net.getD a []).set b l)).getD f []).length=_
  rw[ZaX]
  split
  ·rename_i h1
   rw[List.length_set,h1.1]
   exact h.inv.rowl f hf
  ·exact h.inv.rowl f hf
 ·have hi':i∈(k.setQ a b l).q c d:=hi
  rw[Zy1] at hi'
  split at hi'
  ·exact hl i hi'
  ·exact h.inv.q c d i hi'
 ·show (k.setQ a b l).q c c=[]
  rw[Zy1]
  split
  ·rename_i h1
   exact hab (h1.1.trans h1.2.1.symm)
  ·exact h.inv.self c
theorem ZdF.cut {k:KS} {s t n:Nat} (h:ZdF wd k s n) (hs:s≤t) {c:CL} (hc:Zai wd≠0) (ho:ZeV c (Zai wd) t):ZdF wd { k with cut:=some c } t n:=by
 have h':=h.mono hs (Nat.le_refl _)
 refine ⟨⟨h.inv.may,h.inv.ok,h.inv.nl,List.length_replicate,h.inv.netl,h.inv.rowl,ZlO,h.inv.q,h.inv.self,h.inv.rank,h.inv.kind,?_,Zii⟩,h.bl,h.box,h.len⟩
 rw[if_neg hc]
 exact ⟨c,rfl,ho⟩
theorem Ze1.cutIs {k:KS} {s:Nat} (h:Ze1 wd k s) {c:CL} (hc:k.cut=some c):Zai wd≠0∧ZeV c (Zai wd) s:=by
 have h1:=h.cut
 by_cases hb:Zai wd=0
 ·rw[if_pos hb,hc] at h1;cases h1
 ·rw[if_neg hb] at h1
  obtain ⟨c',hc',ho⟩:=h1
  rw[hc] at hc'
  cases hc'
  exact ⟨hb,ho⟩
theorem ZeV.setOn {c:CL} {m s:Nat} (h:ZeV c m s) {k x:Int} (hx:0≤x∧x≤(s+1:Nat)):ZeV (c.setOn k x) m (s+1):=by
 have h5:=h.on
 have h3:=h.begun
 unfold CL.setOn
 split
 ·exact ⟨h.t,h.r,by dsimp only;omega,h.over,by dsimp only;omega⟩
 ·exact ⟨h.t,h.r,by dsimp only;omega,h.over,by dsimp only;omega⟩
theorem ZeV.onk {c:CL} {m s:Nat} (h:ZeV c m s) (k:Int):0≤c.on k∧c.on k≤s:=by
 have h5:=h.on
 unfold CL.on
 split <;> omega
theorem ZeV.sent {c:CL} {m s:Nat} (h:ZeV c m s) (i:Nat) (t:Int):ZeV (c.sent i t) m (s+1):=by
 have h1:=h.onk (c.t i % 2)
 have h2:=h.setOn (k:=c.t i % 2) (x:=c.on (c.t i % 2)+1) (by omega)
 unfold CL.sent
 split
 ·exact ⟨h2.t,h2.r,h2.begun,h2.over,h2.on⟩
 ·exact h2
theorem ZeV.got {c:CL} {m s:Nat} (h:ZeV c m s) (x:Int):ZeV (c.got x) m (s+1):=by
 have h1:=h.onk x
 have h3:=h.begun
 have h5:=h.on
 unfold CL.got
 split
 ·exact ⟨h.t,h.r,by omega,h.over,by omega⟩
 ·rename_i hx
  have:c.on x≠0:=λh0=>hx (.inr h0)
  exact h.setOn (by omega)
theorem Zpf {k:KS} {s:Nat} (h:Ze1 wd k s) {a:Nat} (ha:a<wd.Feds.length) (hb:(k.node a).isBold=true):Zai wd≠0:=by
 have:=h.rank a ha hb
 omega
def settle1 (wd:Wd) (t:Int) (k:KS) (f:Nat):KS:=match k.node f with
 | .slow _=>k
 | .bold N r told=>if ZaB N t=0 then (k.setN f (.bold (Ys N t) r told)).put f (((Yq wd (ZaC wd f (Zs wd f) N t)).map Yz.m).map Zae) else k
theorem ZlS (k:KS) (t:Int):k.settle wd t=(List.range k.nodes.length).foldl (settle1 wd t) k:=rfl
theorem Znh (h:ZoS wd) {f m:Nat} (hf:f<wd.Feds.length) {N:WN} (hW:WOk wd f (Zs wd f) N m) (t:Int):((Yq wd (ZaC wd f (Zs wd f) N t)).map Yz.m).length≤4000:=by
 rw[List.length_map]
 have h2:=Zxq h (ZaN hf) (f:=f) (b:=N.base (Zs wd f)) (l:=Zc6 t N.ms)
 have h3:(Zc6 t N.ms).length≤N.ms.length:=List.length_filter_le _ _
 have h4:=hW.ml
 unfold ZaC
 omega
theorem ZqZ {k:KS} {s n:Nat} (h:ZdF wd k s n) (t:Int) {f:Nat} (hf:f<wd.Feds.length):ZdF wd (settle1 wd t k f) s (n+4000):=by
 have same:ZdF wd k s (n+4000):=h.mono (Nat.le_refl _) (by omega)
 unfold settle1
 cases hn:k.node f with
 | slow N=>exact same
 | bold N r told=>
  dsimp only
  split
  ·rename_i he
   have h1:ZAM wd f (k.node f):=h.inv.ok f (by have h1:k.nodes.length=wd.Feds.length:=h.inv.nl;show f<k.nodes.length;omega)
   rw[hn] at h1
   obtain ⟨m,hW⟩:=h1
   refine (h.setN (a:=f) (N:=.bold (Ys N t) r told) (λ_=>⟨m,hW.commit he⟩) (by rw[hn];rfl) (by rw[hn];rfl)).put (λi hi=>ZAj hi) ?_
   rw[List.length_map]
   exact Znh h.inv.may hf hW t
  ·exact same
theorem ZhP {t:Int}:∀(l:List Nat) {k:KS} {s n:Nat},(∀f∈l,f<wd.Feds.length)→ZdF wd k s n→ZdF wd (l.foldl (settle1 wd t) k) s (n+l.length*4000)
 | [],_,_,_,_,h=>h
 | f::l,_,_,_,hm,h=>(ZhP l (λg hg=>hm g (List.mem_cons_of_mem _ hg)) (ZqZ h t (hm f (List.mem_cons_self ..)))).mono (Nat.le_refl _) (by rw[List.length_cons];omega)
theorem ZtD {k:KS} {s n:Nat} (h:ZdF wd k s n) (t:Int):ZdF wd (k.settle wd t) s (n+8*4000):=by
 rw[ZlS]
 have h1:k.nodes.length=wd.Feds.length:=h.inv.nl
 have h8:=h.inv.may.n
 refine (ZhP (List.range k.nodes.length) (λf hf=>by rw[←h1];exact List.mem_range.1 hf) h).mono (Nat.le_refl _) ?_
 rw[List.length_range]
 omega
theorem ZrT {k:KS} (hl:k.nodes.length=wd.Feds.length) (hn:wd.Feds.length≤8) {a:Nat} {t:Int} (ht:Yu t=true):(∀i∈ZaW k a t,Zb8 wd.Feds.length i)∧(ZaW k a t).length≤4000:=by
 constructor
 ·intro i hi
  obtain ⟨f,hf,rfl⟩:=List.mem_map.1 hi
  have:=List.mem_range.1 (List.mem_filter.1 hf).1
  exact ⟨⟨show (0:Int)≤2 by decide,Int.le_refl 2⟩,⟨Int.le_refl 0,show (0:Int)≤1 by decide⟩,⟨by show (0:Int)≤f;omega,by show (f:Int)<_;omega⟩,ht⟩
 ·unfold ZaW
  rw[List.length_map]
  refine Nat.le_trans (List.length_filter_le _ _) ?_
  rw[List.length_range]
  omega
theorem Ze1.do' {k:KS} {s:Nat} (h:Ze1 wd k s) (kind a b:Nat) (ha:kind≠4→a<wd.Feds.length) (hb:kind=2→b<wd.Feds.length):Ze1 wd (k.do' wd kind a b).2 (s+1):=by
 have same:Ze1 wd k (s+1):=h.mono (Nat.le_succ _)
 have pre:=h.pre
 have p1:=pre.mono (Nat.le_succ s) (Nat.le_refl _)
 have hok:=(ZzL h.ok kind a b).1
 have hself:=h.self
 have hn8:=h.may.n.2
 have nd:∀f,f<wd.Feds.length→ZAM wd f (k.node f):=λf hf=>h.ok f (by rw[h.nl];exact hf)
 unfold KS.do' at hok ⊢
 split
 ·have ha:=ha (by decide)
  have h0:=nd a ha
  unfold KS.step
  split
  ·exact same
  ·split
   ·rename_i N hn
    rw[hn] at h0
    split
    ·rename_i hs
     refine ZdF.all ((p1.setN (a:=a) (N:=.slow (Zmn (Zs wd a) N)) (λ_=>⟨Zps h0.1 h0.2 hs,h0.2.tail⟩) (by rw[hn];rfl) (by rw[hn];rfl)).put (m:=4000) (λi hi=>?_) ?_) (by omega)
     ·obtain ⟨m,hm,rfl⟩:=List.mem_map.1 hi
      exact .plain (Zi2 hm)
     ·rw[List.length_map]
      have:=Zge h.may (ZaN ha) (b:=(N.st,N.sent)) (x:=hdM N.q)
      exact Nat.le_trans this (by omega)
    ·exact same
   ·rename_i N r t hn
    rw[hn] at h0
    obtain ⟨m,hW⟩:=h0
    split
    ·rename_i he
     refine ZdF.all ((p1.setN (a:=a) (N:=.bold (Zcv N) r t) (λ_=>⟨m+1,hW.step he⟩) (by rw[hn];rfl) (by rw[hn];rfl)).put (m:=4000) (λi hi=>?_) ?_) (by omega)
     ·unfold ZqQ at hi
      obtain ⟨m,hm,rfl⟩:=List.mem_map.1 hi
      exact .plain (Zz9 (List.mem_filter.1 hm).1)
     ·unfold ZqQ
      rw[List.length_map]
      exact Nat.le_trans (List.length_filter_le _ _) (Nat.le_trans (Zge h.may (ZaN ha)) (by omega))
    ·exact same
 ·unfold KS.flush
  split
  ·exact same
  ·rename_i i r hbx
   have hbox:∀j∈i::r,Zb8 wd.Feds.length j:=by rw[←hbx];exact h.box a
   have hi:=hbox i (List.mem_cons_self ..)
   split
   ·exact same
   ·rename_i hro
    have hab:a=i.m.To.toNat→k.q a i.m.To.toNat++[i]=[]:=λh=>absurd (if_neg λh'=>h'.2.2.2 (by omega)) hro
    have hab2:∀x:Zn,a=i.m.To.toNat→k.q a i.m.To.toNat++[x]=[]:=λ_ h=>absurd (if_neg λh'=>h'.2.2.2 (by omega)) hro
    have p2:ZdF wd { k with boxes:=k.boxes.set a r } (s+1) (40000*(s+1)):=by
     refine ⟨p1.inv,by dsimp only;rw[List.length_set];exact h.bl,λf j hj=>?_,λf=>?_⟩
     ·unfold KS.box at hj
      dsimp only at hj
      rw[ZaX] at hj
      split at hj
      ·exact hbox j (List.mem_cons_of_mem _ hj)
      ·exact h.box f j hj
     ·have h1:=h.len f
      have h2:=h.len a
      rw[hbx,List.length_cons] at h2
      unfold KS.box at h1 ⊢
      dsimp only
      rw[ZaX]
      split <;> omega
    dsimp only
    split
    ·rename_i c _ hc
     obtain ⟨hb0,hco⟩:=h.cutIs hc
     have h3:ZeV (c.sent (k.node a).rank i.m.key.T) (Zai wd) (s+1):=hco.sent _ _
     have h4:=p2.cut (Nat.le_refl _) hb0 h3
     refine ZdF.all (h4.setQ (λj hj=>?_) (hab2 _)) (by omega)
     rcases List.mem_append.1 hj with hj | hj
     ·exact h.q _ _ j hj
     ·rw[List.mem_singleton.1 hj]
      exact ⟨hi.kind,⟨by dsimp only;omega,by dsimp only;omega⟩,hi.to,hi.time⟩
    ·refine ZdF.all (p2.setQ (λj hj=>?_) hab) (by omega)
     rcases List.mem_append.1 hj with hj | hj
     ·exact h.q _ _ j hj
     ·rw[List.mem_singleton.1 hj];exact hi
 ·have ha:=ha (by decide)
  have hb:=hb rfl
  unfold KS.deliver
  split
  ·exact same
  ·rename_i i r hq
   have hqs:∀j∈i::r,Zb8 wd.Feds.length j:=by rw[←hq];exact h.q a b
   have h0:=nd b hb
   have hab:a=b→r=[]:=λh=>by
    subst h
    rw[hself] at hq
    cases hq
   dsimp only
   split
   ·exact same
   ·have p3:ZdF wd (((k.setN b (k.hears wd a b i).2.2).setQ a b r).put b (k.hears wd a b i).2.1) (s+1) (40000*(s+1)+4000):=by
     unfold KS.hears
     cases hn:k.node b with
     | slow N=>
      rw[hn] at h0
      exact ((p1.setN (a:=b) (N:=.slow (Zd0 N a i)) (λ_=>⟨Zpb h0.1 _ _,Zsl h0.2 _ _⟩) (by rw[hn];rfl) (by rw[hn];rfl)).setQ (λj hj=>hqs j (List.mem_cons_of_mem _ hj)) hab).put (by simp) (by simp)
     | bold N rk t=>
      rw[hn] at h0
      obtain ⟨m,hW⟩:=h0
      dsimp only
      refine ((p1.setN (a:=b) (N:=.bold (ZbE wd b (Zs wd b) N a i).N rk t) (λ_=>⟨m,hW.hear _ _⟩) (by rw[hn];rfl) (by rw[hn];rfl)).setQ (λj hj=>hqs j (List.mem_cons_of_mem _ hj)) hab).put ?_ ?_
      ·intro j hj
       rcases Zls (wd:=wd) (f:=b) (fd:=Zs wd b) (N:=N) (j:=a) (i:=i) with ho | ho
       ·rw[ho] at hj;cases hj
       ·rw[ho] at hj;exact ZzU hj
      ·rcases Zls (wd:=wd) (f:=b) (fd:=Zs wd b) (N:=N) (j:=a) (i:=i) with ho | ho
       ·rw[ho];exact Nat.zero_le _
       ·rw[ho]
        unfold ZiU
        have h2:=ZrY h.may (ZaN hb) (f:=b) (b:=ZjE (Zs wd b) (N.base (Zs wd b)) (ZbF i.m.key N.ms)) (l:=Yj i.m.key N.ms)
        have h3:(Yj i.m.key N.ms).length≤N.ms.length:=List.length_filter_le _ _
        have h4:=hW.ml
        omega
    split
    ·rename_i c _ hc
     obtain ⟨hb0,hco⟩:=h.cutIs hc
     exact ZdF.all (p3.cut (Nat.le_refl _) hb0 (hco.got i.Colour)) (by omega)
    ·exact p3.all (by omega)
 ·have ha:=ha (by decide)
  have h0:=nd a ha
  unfold KS.tell
  split
  ·exact same
  ·split
   ·rename_i N hn
    rw[hn] at h0
    split
    ·have hb:=ZrT (k:=k) (a:=a) h.nl hn8 (ZjT (ZaP [Zcd N,N.clk.bound]) (Zs wd a).Look)
     exact ZdF.all ((p1.setN (a:=a) (N:=.slow (ZiG (Zs wd a) N)) (λ_=>⟨Zpg h0.1 _,h0.2⟩) (by rw[hn];rfl) (by rw[hn];rfl)).put hb.1 hb.2) (by omega)
    ·exact same
   ·rename_i N r t hn
    rw[hn] at h0
    split
    ·exact same
    ·have hb:=ZrT (k:=k) (a:=a) h.nl hn8 (ZjT N.fl (Zs wd a).Look)
     exact ZdF.all ((p1.setN (a:=a) (N:=.bold N r (Za6 (Zs wd a) N)) (λ_=>h0) (by rw[hn];rfl) (by rw[hn];rfl)).put hb.1 hb.2) (by omega)
 ·unfold KS.begin'
  split
  ·exact same
  ·rename_i c hc
   split
   ·exact same
   ·obtain ⟨hb0,hco⟩:=h.cutIs hc
    have h3:=hco.begun
    have h4:=hco.over
    have h5:=hco.on
    exact ZdF.all (p1.cut (Nat.le_refl _) hb0 ⟨hco.t,hco.r,by dsimp only;omega,by dsimp only;omega,by dsimp only;omega⟩) (by omega)
 ·unfold KS.turn
  split
  ·rename_i c _ hc
   split
   ·exact same
   ·obtain ⟨hb0,hco⟩:=h.cutIs hc
    have h3:=hco.begun
    have h5:=hco.on
    exact ZdF.all (p1.cut (Nat.le_refl _) hb0 ⟨by dsimp only;rw[List.length_set];exact hco.t,hco.r,by dsimp only;omega,hco.over,by dsimp only;omega⟩) (by omega)
  ·exact same
 ·unfold KS.report
  split
  ·rename_i N r _ c _ hc
   obtain ⟨hb0,hco⟩:=h.cutIs hc
   have h3:=hco.begun
   have h4:=hco.over
   have h5:=hco.on
   split
   ·exact same
   ·split
    ·exact same
    ·dsimp only
     split
     ·refine (ZtD (p1.cut (Nat.le_refl _) hb0 ?_) _).all (by omega)
      exact ⟨hco.t,(List.length_set).trans hco.r,by dsimp only;omega,by dsimp only;omega,by dsimp only;omega⟩
     ·exact ZdF.all (p1.cut (Nat.le_refl _) hb0 ⟨hco.t,by dsimp only;rw[List.length_set];exact hco.r,by dsimp only;omega,by dsimp only;omega,by dsimp only;omega⟩) (by omega)
  ·exact same
theorem Zua {f:Fed} {most:Int} (h:Zre f most=0):f.Kind=0∨f.Kind=1:=by
 unfold Zre Zs3 at h
 rw[Zbt] at h
 split at h
 ·rename_i h1;omega
 ·rw[if_neg (by decide)] at h;cases h
theorem ZlD (h:(Za4 wd).2=0):∀f∈wd.Feds,f.Kind=0∨f.Kind=1:=by
 unfold Za4 at h
 split at h
 ·rename_i h1;exact absurd h h1
 ·split at h
  ·cases h
  ·exact λf hf=>Zua (ZjJ h f hf)
theorem Zni:∀(l:List Fed) (n:Nat),(Zjo l n).length=l.length
 | [],_=>rfl
 | f::l,n=>by
  show (n::Zjo l _).length=_
  rw[List.length_cons,Zni l,List.length_cons]
theorem Zno:∀(l:List Fed) (n a:Nat),a<l.length→(Zjo l n)[a]?=some (n+((l.take a).filter λf=>!decide (f.Kind=0)).length)
 | [],_,_,h=>by cases h
 | f::l,n,0,_=>rfl
 | f::l,n,a+1,h=>by
  show (n::Zjo l (if f.Kind=0 then n else n+1))[a+1]?=_
  rw[List.getElem?_cons_succ,Zno l _ a (by rw[List.length_cons] at h;omega),List.take_succ_cons,List.filter_cons]
  by_cases hk:f.Kind=0
  ·rw[if_pos hk,if_neg (by rw[decide_eq_true hk];decide)]
  ·rw[if_neg hk,if_pos (by rw[decide_eq_false hk];rfl),List.length_cons]
   congr 1
   omega
def KS.init0 (wd:Wd) (room:Nat):KS:=
 ⟨((wd.Feds.zip (Zjo wd.Feds 0)).zipIdx).map λp=>ZpY wd wd.Feds.length p.2 p.1.1 p.1.2,List.replicate wd.Feds.length [],List.replicate wd.Feds.length (List.replicate wd.Feds.length []),room,if Zai wd=0 then none else some (CL.zero (Zai wd))⟩
def ZxY (k:KS) (m:Msg):KS:=k.put m.key.From.toNat [Zae m]
theorem ZuV (room:Nat):KS.init wd room=(Zaz wd.Parents wd.Feds wd.Feds).foldl ZxY (KS.init0 wd room):=rfl
def Zcz (wd:Wd) (a:Nat):Nat:=((wd.Feds.take a).filter λf=>!decide (f.Kind=0)).length
theorem ZmG (room:Nat):(KS.init0 wd room).nodes=(List.range wd.Feds.length).map λa=>ZpY wd wd.Feds.length a (Zs wd a) (Zcz wd a):=by
 apply List.ext_getElem?
 intro a
 show (((wd.Feds.zip (Zjo wd.Feds 0)).zipIdx).map λp=>ZpY wd wd.Feds.length p.2 p.1.1 p.1.2)[a]?=_
 rw[List.getElem?_map,List.getElem?_map,List.getElem?_zipIdx]
 by_cases ha:a<wd.Feds.length
 ·have h1:=ZaN ha
  have h2:=Zno wd.Feds 0 a ha
  have h3:(wd.Feds.zip (Zjo wd.Feds 0))[a]?=some (Zs wd a,0+Zcz wd a):=by
   rw[List.getElem?_zip_eq_some]
   exact ⟨h1,h2⟩
  rw[h3,List.getElem?_range ha]
  simp
 ·rw[List.getElem?_eq_none (by rw[List.length_zip,Zni];omega),List.getElem?_eq_none (by rw[List.length_range];omega)]
  rfl
theorem Zgi {room a:Nat} (ha:a<wd.Feds.length):(KS.init0 wd room).node a=ZpY wd wd.Feds.length a (Zs wd a) (Zcz wd a):=by
 unfold KS.node
 rw[ZmG,List.getD_eq_getElem?_getD,List.getElem?_map,List.getElem?_range ha]
 rfl
theorem ZmC (room a:Nat):(KS.init0 wd room).box a=[]:=by
 show (List.replicate _ _).getD a []=_
 rw[List.getD_eq_getElem?_getD,List.getElem?_replicate]
 split <;> rfl
theorem ZqT (room a b:Nat):(KS.init0 wd room).q a b=[]:=by
 show ((List.replicate _ (List.replicate _ [])).getD a []).getD b []=_
 rw[List.getD_eq_getElem?_getD,List.getD_eq_getElem?_getD,List.getElem?_replicate]
 split
 ·rw[Option.getD_some,List.getElem?_replicate]
  split <;> rfl
 ·rfl
theorem Zgj {n a:Nat} {fd:Fed} {rk:Nat} (h:fd.Kind=0):ZpY wd n a fd rk=.slow (ZoV n a fd):=if_pos h
theorem Zgb {n a:Nat} {fd:Fed} {rk:Nat} (h:¬fd.Kind=0):ZpY wd n a fd rk=.bold (ZiQ wd) rk 0:=if_neg h
theorem ZAa {a:Nat} (ha:a<wd.Feds.length) (hk:¬(Zs wd a).Kind=0):Zcz wd a<Zai wd:=by
 have h1:wd.Feds=wd.Feds.take a++Zs wd a::wd.Feds.drop (a+1):=by
  have:=Zaq (ZaN ha)
  rw[←this,List.take_append_drop]
 have h2:Zai wd=((wd.Feds.take a++Zs wd a::wd.Feds.drop (a+1)).filter λf=>!decide (f.Kind=0)).length:=by rw[←h1];rfl
 rw[h2,List.filter_append,List.filter_cons,if_pos (by rw[decide_eq_false hk];rfl),List.length_append,List.length_cons]
 unfold Zcz
 omega
theorem Zqp (h:(Za4 wd).2=0) (room:Nat):ZdF wd (KS.init0 wd room) 0 0:=by
 have hw:=ZfI h
 have hk:=ZlD h
 have hnl:(KS.init0 wd room).nodes.length=wd.Feds.length:=by rw[ZmG,List.length_map,List.length_range]
 have hno:∀a,a<wd.Feds.length→(Zs wd a).Kind=0∨(Zs wd a).Kind=1:=λa ha=>hk _ (List.mem_of_getElem? (ZaN ha))
 refine ⟨⟨hw,λa ha=>?_,hnl,List.length_replicate,List.length_replicate,λa ha=>?_,ZlO,λa b i hi=>?_,λa=>ZqT room a a,λa ha hb=>?_,λa ha=>?_,?_,Zii⟩,List.length_replicate,(λa i hi=>by rw[ZmC] at hi;cases hi),λa=>by rw[ZmC];exact Nat.le_refl _⟩
 ·have ha':a<wd.Feds.length:=by rw[←hnl];exact ha
  show ZAM wd a ((KS.init0 wd room).node a)
  rw[Zgi ha']
  rcases hno a ha' with h0 | h1
  ·rw[Zgj h0]
   exact ⟨⟨List.Pairwise.nil,λd hd=>by cases hd⟩,List.Pairwise.nil,by show 0≤64;omega⟩
  ·rw[Zgb (by omega)]
   exact ⟨0,WOk.init hw (ZaN ha') h1⟩
 ·show ((List.replicate _ (List.replicate _ [])).getD a []).length=_
  rw[List.getD_eq_getElem?_getD,List.getElem?_replicate,if_pos ha,Option.getD_some,List.length_replicate]
 ·have hi':i∈(KS.init0 wd room).q a b:=hi
  rw[ZqT] at hi'
  cases hi'
 ·show ((KS.init0 wd room).node a).rank<_
  have hb':((KS.init0 wd room).node a).isBold=true:=hb
  rw[Zgi ha] at hb' ⊢
  rcases hno a ha with h0 | h1
  ·rw[Zgj h0] at hb';cases hb'
  ·rw[Zgb (by omega)]
   exact ZAa ha (by omega)
 ·show ((KS.init0 wd room).node a).isBold=_
  rw[Zgi ha]
  rcases hno a ha with h0 | h1
  ·rw[Zgj h0,decide_eq_true h0];rfl
  ·rw[Zgb (by omega),decide_eq_false (by omega)];rfl
 ·split
  ·rename_i hb
   exact if_pos hb
  ·rename_i hb
   exact ⟨_,if_neg hb,List.length_replicate,List.length_replicate,⟨Int.le_refl _,Int.le_refl _⟩,⟨Int.le_refl _,Int.le_refl _⟩,⟨Int.le_refl _,Int.le_refl _⟩,Int.le_refl _,Int.le_refl _⟩
theorem Zql {l:List Fed} {m:Msg} (h:m∈Zaz wd.Parents wd.Feds l):Zrh wd.Feds.length m:=by
 obtain ⟨i,fd,_,h1⟩:=Znu h
 exact Zi2 h1
theorem Zof {s:Nat}:∀(l:List Msg) (k:KS) (n:Nat),(∀m∈l,Zrh wd.Feds.length m)→ZdF wd k s n→ZdF wd (l.foldl ZxY k) s (n+l.length)
 | [],_,_,_,h=>h
 | m::l,k,n,hm,h=>by
  rw[List.foldl_cons,List.length_cons]
  have h1:ZdF wd (ZxY k m) s (n+1):=h.put (λi hi=>by rw[List.mem_singleton.1 hi];exact .plain (hm m (List.mem_cons_self ..))) (Nat.le_refl _)
  exact (Zof l _ (n+1) (λx hx=>hm x (List.mem_cons_of_mem _ hx)) h1).mono (Nat.le_refl _) (by omega)
theorem Ze1.init (h:(Za4 wd).2=0) (room:Nat):Ze1 wd (KS.init wd room) 0:=by
 have hw:=ZfI h
 rw[ZuV]
 refine (Zof _ _ 0 (λm hm=>Zql hm) (Zqp h room)).all ?_
 have:=ZtB (ps:=wd.Parents) (feds:=wd.Feds) (l:=wd.Feds) hw.n.2 λf hf=>(hw.init f hf).1
 have:=hw.n
 omega
structure Rg where
 n:Nat
 κ:Nat→Bool
 d:Nat→Int
 E:Int
structure Rg.Ok (G:Rg):Prop where
 n:2≤G.n∧G.n≤4
 d:∀i,1≤G.d i∧G.d i≤5
 E:2≤G.E∧G.E≤24
variable (G:Rg)
def Rg.pr (a:Nat):Nat:=(a+G.n - 1) % G.n
def Rg.sx (a:Nat):Nat:=(a+1) % G.n
def Rg.fed (i:Nat):Fed:=⟨if G.κ i then 1 else 0,G.d i,0,[⟨0,(G.pr i:Nat),0,[⟨(i:Nat),G.d i,1⟩]⟩],[((i:Nat):Int)],[((G.pr i:Nat):Int)],if i=0 then [⟨0,1,0⟩] else []⟩
def Rg.W:Wd:=⟨List.replicate G.n (-1),(List.range G.n).map G.fed,G.E⟩
def Rg.tq:Nat→Int
 | 0=>1
 | j+1=>Rg.tq j+G.d ((j+1) % G.n)
def Rg.mq (j:Nat):Msg:=⟨⟨G.tq j,((j % G.n:Nat):Int),((j / G.n:Nat):Int)⟩,(((j+1) % G.n:Nat):Int),((j % G.n:Nat):Int),(j:Int)⟩
def Rg.sn (a J:Nat):Int:=((J+G.n - a) / G.n:Nat)
def Rg.Lg (a J:Nat):List Msg:=((List.range J).filter λj=>decide ((j+1) % G.n=a)).map G.mq
variable {G}
theorem ZOi:G.W.Feds.length=G.n:=by simp[Rg.W]
theorem ZN2 {a:Nat} (ha:a<G.n):Zs G.W a=G.fed a:=by
 unfold Zs Rg.W
 rw[List.getD_eq_getElem?_getD,List.getElem?_map,List.getElem?_range ha]
 rfl
theorem ZOm (h:G.Ok):∀j:Nat,(j:Int)+1≤G.tq j∧G.tq j≤5*j+1
 | 0=>⟨by show ((0:Nat):Int)+1≤1;omega,by show (1:Int)≤5*((0:Nat):Int)+1;omega⟩
 | j+1=>by
  have h1:=ZOm h j
  have h2:=h.d ((j+1) % G.n)
  show ((j+1:Nat):Int)+1≤G.tq j+G.d ((j+1) % G.n)∧G.tq j+G.d ((j+1) % G.n)≤5*((j+1:Nat):Int)+1
  omega
theorem ZOP (h:G.Ok) {i j:Nat} (hij:i<j):G.tq i<G.tq j:=by
 induction j with
 | zero=>omega
 | succ j ih=>
  have h2:=h.d ((j+1) % G.n)
  have h3:G.tq (j+1)=G.tq j+G.d ((j+1) % G.n):=rfl
  by_cases he:i=j
  ·subst he;omega
  ·have:=ih (by omega)
   omega
theorem ZOU (h:G.Ok) {i j:Nat} (hij:i≤j):G.tq i≤G.tq j:=by
 by_cases he:i=j
 ·subst he;exact Int.le_refl _
 ·exact Int.le_of_lt (ZOP h (by omega))
theorem ZN5 (h:G.Ok):G.n=2∨G.n=3∨G.n=4:=by have:=h.n;omega
theorem ZOv (h:G.Ok) {a j:Nat} (hj:(j+1) % G.n=a):j % G.n=G.pr a:=by
 unfold Rg.pr
 rcases ZN5 h with e | e | e <;> rw[e] at hj ⊢ <;> omega
theorem ZOT (h:G.Ok) {a:Nat} (ha:a<G.n) (J:Nat):G.sn a (J+1)=G.sn a J+if (J+1) % G.n=a then 1 else 0:=by
 unfold Rg.sn
 rcases ZN5 h with e | e | e <;> rw[e] at ha ⊢ <;> split <;> omega
theorem ZRF (h:G.Ok) {a J:Nat} (hJ:(J+1) % G.n=a):G.sn a J=(((J+1) / G.n:Nat):Int):=by
 unfold Rg.sn
 rcases ZN5 h with e | e | e <;> rw[e] at hJ ⊢ <;> omega
theorem ZPD (h:G.Ok) {a:Nat} (ha:a<G.n):G.sn a 0=((G.fed a).Init.length:Int):=by
 unfold Rg.sn Rg.fed
 by_cases h0:a=0
 ·subst h0
  rcases ZN5 h with e | e | e <;> rw[e] <;> rfl
 ·rw[if_neg h0]
  rcases ZN5 h with e | e | e <;> rw[e] at ha ⊢
  ·show (((0+2 - a) / 2:Nat):Int)=((0:Nat):Int)
   omega
  ·show (((0+3 - a) / 3:Nat):Int)=((0:Nat):Int)
   omega
  ·show (((0+4 - a) / 4:Nat):Int)=((0:Nat):Int)
   omega
theorem ZNO (a J:Nat):G.Lg a (J+1)=G.Lg a J++if (J+1) % G.n=a then [G.mq J] else []:=by
 unfold Rg.Lg
 rw[List.range_succ,List.filter_append,List.map_append]
 congr 1
 by_cases h:(J+1) % G.n=a
 ·rw[if_pos h];simp[h]
 ·rw[if_neg h];simp[h]
theorem ZON {a J:Nat} {m:Msg} (h:m∈G.Lg a J):∃j,j<J∧(j+1) % G.n=a∧m=G.mq j:=by
 unfold Rg.Lg at h
 obtain ⟨j,hj,rfl⟩:=List.mem_map.1 h
 obtain ⟨h1,h2⟩:=List.mem_filter.1 hj
 exact ⟨j,List.mem_range.1 h1,of_decide_eq_true h2,rfl⟩
theorem ZQK (a J:Nat):(G.Lg a J).length≤J:=by
 unfold Rg.Lg
 rw[List.length_map]
 exact Nat.le_trans (List.length_filter_le _ _) (by rw[List.length_range];exact Nat.le_refl _)
theorem ZPL (h:G.Ok) {a:Nat} (ha:a<G.n):Zba G.W.Parents (a:Int) (a:Int) G.W.Feds=[((G.sx a:Nat):Int)]:=by
 obtain ⟨n,κ,d,E⟩:=G
 have hn:n=2∨n=3∨n=4:=ZN5 h
 have ha:a<n:=ha
 rcases hn with rfl | rfl | rfl
 ·match a,ha with
  | 0,_=>show _=_;kernel_rfl
  | 1,_=>show _=_;kernel_rfl
 ·match a,ha with
  | 0,_=>show _=_;kernel_rfl
  | 1,_=>show _=_;kernel_rfl
  | 2,_=>show _=_;kernel_rfl
 ·match a,ha with
  | 0,_=>show _=_;kernel_rfl
  | 1,_=>show _=_;kernel_rfl
  | 2,_=>show _=_;kernel_rfl
  | 3,_=>show _=_;kernel_rfl
theorem ZQo (h:G.Ok) {a:Nat} (ha:a<G.n) (seq now body:Int):Zau G.W.Parents G.W.Feds (a:Int) seq now body [⟨(a:Nat),G.d a,1⟩]=[⟨⟨ZvS now (G.d a),a,seq⟩,((G.sx a:Nat):Int),a,(body+1) % 1000⟩]:=by
 unfold Zau
 have e:Zba G.W.Parents (a:Int) (a:Int) G.W.Feds=_:=ZPL h ha
 simp only[List.zipIdx_cons,List.zipIdx_nil,List.flatMap_cons,List.flatMap_nil,List.append_nil,e,List.map_cons,List.map_nil]
 unfold Zim
 simp
theorem ZOQ (a:Nat):ZbY (G.fed a).Rules 0 ((G.pr a:Nat):Int)=(0,[⟨(a:Nat),G.d a,1⟩]):=by
 unfold ZbY Rg.fed
 simp
theorem ZOB {a b:Int} (ha:0≤a) (hb:0≤b) (h:a+b≤1000000):ZvS a b=a+b:=by
 have h1:ZaD a=a:=by unfold ZaD Zsq;rw[if_neg (by omega),if_neg (by omega)]
 have h2:ZaD b=b:=by unfold ZaD Zsq;rw[if_neg (by omega),if_neg (by omega)]
 unfold ZvS
 rw[h1,h2]
 unfold ZaD Zsq
 rw[if_neg (by omega),if_neg (by omega)]
theorem ZRh (h:G.Ok) {a J:Nat} (hJ:J≤100) (ha:(J+1) % G.n=a):Zau G.W.Parents G.W.Feds (a:Int) (G.sn a J) (G.mq J).key.T (G.mq J).Body [⟨(a:Nat),G.d a,1⟩]=[G.mq (J+1)]:=by
 have hn:=h.n
 have han:a<G.n:=by rw[←ha];exact Nat.mod_lt _ (by omega)
 have h1:=ZOm h J
 have h2:=h.d a
 rw[ZQo h han,ZRF h ha]
 unfold Rg.mq Rg.sx
 rw[show ZvS (G.tq J) (G.d a)=G.tq (J+1) from by
  show ZvS (G.tq J) (G.d a)=G.tq J+G.d ((J+1) % G.n)
  rw[ZOB (by omega) (by omega) (by omega),ha]]
 rw[ha,show ((J:Int)+1) % 1000=((J+1:Nat):Int) by omega]
 have e2:(a+1) % G.n=(J+1+1) % G.n:=by
  rw[←ha]
  simp
 rw[e2]
theorem ZP3 (h:G.Ok) {a:Nat} (ha:a<G.n):∀J,ZjE (G.fed a) (ZxV (G.fed a)) (G.Lg a J)=(0,G.sn a J)
 | 0=>by
  show ZxV (G.fed a)=_
  rw[ZPD h ha]
  rfl
 | J+1=>by
  rw[ZNO,Zi8,ZP3 h ha J,ZOT h ha]
  by_cases hj:(J+1) % G.n=a
  ·rw[if_pos hj,if_pos hj]
   show Zhz (G.fed a) (0,G.sn a J) (G.mq J)=_
   unfold Zhz
   rw[show (G.mq J).Class=((G.pr a:Nat):Int) from by show ((J % G.n:Nat):Int)=_;rw[ZOv h hj],ZOQ]
   rfl
  ·rw[if_neg hj,if_neg hj,Int.add_zero]
   rfl
def Rg.en (G:Rg) (j:Nat):En:=⟨G.mq j,0,G.sn ((j+1) % G.n) j,0,[G.mq (j+1)]⟩
theorem ZQ7 (h:G.Ok) {a J:Nat} (hJ:J≤100) (ha:(J+1) % G.n=a):ZoQ G.W a (G.fed a) (0,G.sn a J) (G.mq J)=G.en J:=by
 unfold ZoQ Rg.en
 rw[show (G.mq J).Class=((G.pr a:Nat):Int) from by show ((J % G.n:Nat):Int)=_;rw[ZOv h ha]]
 rw[ZOQ]
 dsimp only
 rw[ZRh h hJ ha,ha]
theorem ZP9 (h:G.Ok) {a:Nat} (ha:a<G.n):∀J,J≤100→Zc8 G.W a (G.fed a) (ZxV (G.fed a)) (G.Lg a J)=((List.range J).filter λj=>decide ((j+1) % G.n=a)).map G.en
 | 0,_=>rfl
 | J+1,hJ=>by
  rw[ZNO,Zi3,ZP9 h ha J (by omega),ZP3 h ha,List.range_succ,List.filter_append,List.map_append]
  congr 1
  by_cases hj:(J+1) % G.n=a
  ·rw[if_pos hj]
   show [ZoQ G.W a (G.fed a) (0,G.sn a J) (G.mq J)]=_
   rw[ZQ7 h (by omega) hj]
   simp[hj]
  ·rw[if_neg hj]
   simp[hj]
   rfl
theorem ZOf (h:G.Ok) (a:Nat):∀J,(G.Lg a J).Pairwise λx y=>x.key.T<y.key.T
 | 0=>List.Pairwise.nil
 | J+1=>by
  rw[ZNO,List.pairwise_append]
  refine ⟨ZOf h a J,by split <;> simp,λx hx y hy=>?_⟩
  obtain ⟨j,hj,_,rfl⟩:=ZON hx
  split at hy
  ·rw[List.mem_singleton.1 hy]
   exact ZOP h hj
  ·cases hy
theorem ZOb {v v':Int} (hv:v≤v'):∀{l:List Msg},(l.Pairwise λx y=>x.key.T<y.key.T)→Zc6 v l++Zc6 v' (ZmO v l)=Zc6 v' l∧ZmO v' (ZmO v l)=ZmO v' l
 | [],_=>⟨rfl,rfl⟩
 | x::l,hp=>by
  obtain ⟨h1,h2⟩:=List.pairwise_cons.1 hp
  obtain ⟨i1,i2⟩:=ZOb hv h2
  unfold Zc6 ZmO at*
  by_cases hx:x.key.T<v
  ·have hx':x.key.T<v':=by omega
   simp only[List.filter_cons,decide_eq_true hx,decide_eq_true hx',if_true,Bool.not_true,Bool.false_eq_true,if_false,List.cons_append]
   exact ⟨by rw[i1],i2⟩
  ·have hall:∀y∈l,¬y.key.T<v:=λy hy hyv=>by have:=h1 y hy;omega
   have e1:l.filter (λm=>decide (m.key.T<v))=[]:=List.filter_eq_nil_iff.2 λy hy=>by simpa using hall y hy
   have e2:l.filter (λm=>!decide (m.key.T<v))=l:=List.filter_eq_self.2 λy hy=>by simpa using hall y hy
   simp only[List.filter_cons,decide_eq_false hx,Bool.false_eq_true,if_false,Bool.not_false,if_true,e1,e2,List.nil_append]
   constructor <;> first | rfl | trivial
def upd {α:Type} (f:Nat→α) (a:Nat) (x:α):Nat→α:=λi=>if i=a then x else f i
def ZO2 {α:Type} (f:Nat→Nat→α) (a b:Nat) (x:α):Nat→Nat→α:=λi j=>if i=a∧j=b then x else f i j
theorem ZNL {α:Type} (f:Nat→α) (a:Nat) (x:α):upd f a x a=x:=if_pos rfl
theorem ZNM {α:Type} {f:Nat→α} {a i:Nat} {x:α} (h:i≠a):upd f a x i=f i:=if_neg h
theorem ZNV {α:Type} (f:Nat→Nat→α) (a b:Nat) (x:α):ZO2 f a b x a b=x:=if_pos ⟨rfl,rfl⟩
theorem ZNQ {α:Type} {f:Nat→Nat→α} {a b i j:Nat} {x:α} (h:¬(i=a∧j=b)):ZO2 f a b x i j=f i j:=if_neg h
structure Acc (G:Rg) (r:Nat) (k:KS) (N:Nat→Nd) (B:Nat→List Zn) (Q:Nat→Nat→List Zn) (c:Option CL):Prop where
 nl:k.nodes.length=G.n
 bl:k.boxes.length=G.n
 ql:k.net.length=G.n
 rl:∀a,a<G.n→(k.net.getD a []).length=G.n
 nd:∀a,a<G.n→k.node a=N a
 bx:∀a,a<G.n→k.box a=B a
 q:∀a b,a<G.n→b<G.n→k.q a b=Q a b
 cut:k.cut=c
 room:k.room=r
variable {G:Rg} {r a b:Nat} {k:KS} {N N':Nat→Nd} {B B':Nat→List Zn} {Q Q':Nat→Nat→List Zn} {c:Option CL}
theorem Acc.congr (h:Acc G r k N B Q c) (hn:∀a,a<G.n→N a=N' a) (hb:∀a,a<G.n→B a=B' a) (hq:∀a b,a<G.n→b<G.n→Q a b=Q' a b):Acc G r k N' B' Q' c:=
 ⟨h.nl,h.bl,h.ql,h.rl,λa ha=>(h.nd a ha).trans (hn a ha),λa ha=>(h.bx a ha).trans (hb a ha),λa b ha hb'=>(h.q a b ha hb').trans (hq a b ha hb'),h.cut,h.room⟩
theorem Acc.setN (h:Acc G r k N B Q c) (ha:a<G.n) (x:Nd):Acc G r (k.setN a x) (upd N a x) B Q c:=by
 refine ⟨by show (k.nodes.set a x).length=_;rw[List.length_set];exact h.nl,h.bl,h.ql,h.rl,λi hi=>?_,h.bx,h.q,h.cut,h.room⟩
 rw[ZaK]
 by_cases hia:i=a
 ·subst hia
  rw[if_pos ⟨rfl,by rw[h.nl];exact ha⟩,ZNL]
 ·rw[if_neg λhh=>hia hh.1.symm,ZNM hia]
  exact h.nd i hi
theorem Acc.setB (h:Acc G r k N B Q c) (ha:a<G.n) (l:List Zn):Acc G r { k with boxes:=k.boxes.set a l } N (upd B a l) Q c:=by
 refine ⟨h.nl,by show (k.boxes.set a l).length=_;rw[List.length_set];exact h.bl,h.ql,h.rl,h.nd,λi hi=>?_,h.q,h.cut,h.room⟩
 show (k.boxes.set a l).getD i []=_
 rw[ZaX]
 by_cases hia:i=a
 ·subst hia
  rw[if_pos ⟨rfl,by rw[h.bl];exact ha⟩,ZNL]
 ·rw[if_neg λhh=>hia hh.1.symm,ZNM hia]
  exact h.bx i hi
theorem Acc.put (h:Acc G r k N B Q c) (ha:a<G.n) (l:List Zn):Acc G r (k.put a l) N (upd B a (B a++l)) Q c:=by
 have:=h.setB ha (B a++l)
 unfold KS.put
 rw[h.bx a ha]
 exact this
theorem Acc.setQ (h:Acc G r k N B Q c) (ha:a<G.n) (hb:b<G.n) (l:List Zn):Acc G r (k.setQ a b l) N B (ZO2 Q a b l) c:=by
 have hlen:∀i,i<G.n→((k.setQ a b l).net.getD i []).length=G.n:=λi hi=>by
  show ((k.net.set a ((k.net.getD a []).set b l)).getD i []).length=_
  rw[ZaX]
  split
  ·rw[List.length_set];exact h.rl a ha
  ·exact h.rl i hi
 refine ⟨h.nl,h.bl,by show (k.net.set a _).length=_;rw[List.length_set];exact h.ql,hlen,h.nd,h.bx,λi j hi hj=>?_,h.cut,h.room⟩
 show ((k.net.set a ((k.net.getD a []).set b l)).getD i []).getD j []=_
 rw[ZaX]
 by_cases hia:i=a
 ·subst hia
  rw[if_pos ⟨rfl,by rw[h.ql];exact ha⟩,ZaX]
  by_cases hjb:j=b
  ·subst hjb
   rw[if_pos ⟨rfl,by rw[h.rl i ha];exact hb⟩,ZNV]
  ·rw[if_neg λhh=>hjb hh.1.symm,ZNQ λhh=>hjb hh.2]
   exact h.q i j hi hj
 ·rw[if_neg λhh=>hia hh.1.symm,ZNQ λhh=>hia hh.1]
  exact h.q i j hi hj
theorem Acc.setC (h:Acc G r k N B Q c) (c':Option CL):Acc G r { k with cut:=c' } N B Q c':=⟨h.nl,h.bl,h.ql,h.rl,h.nd,h.bx,h.q,rfl,h.room⟩
theorem Acc.counted (h:Acc G r k N B Q c) (ha:a<G.n) (hb:b<G.n) (i:Zn):k.counted a b i=(!decide (i.Kind=2)&&(N a).isBold&&(N b).isBold):=by
 unfold KS.counted
 rw[h.nd a ha,h.nd b hb]
theorem Acc.roomAt (h:Acc G r k N B Q c) (ha:a<G.n) (hb:b<G.n) (hab:b≠a):k.roomAt (a:Int) (b:Int)=r - (Q a b).length:=by
 unfold KS.roomAt
 rw[if_pos ⟨by omega,by rw[h.nl];omega,by rw[h.nl];omega,by omega⟩,h.room,Int.toNat_natCast,Int.toNat_natCast,h.q a b ha hb]
theorem ZO8 {i:Zn} {l:List Zn} (h:Acc G r k N B Q c) (ha:a<G.n) (hb:b<G.n) (hab:b≠a) (hB:B a=i::l) (hto:i.m.To=(b:Int)) (hr:(Q a b).length<r)
  (hc:(!decide (i.Kind=2)&&(N a).isBold&&(N b).isBold)=false):Acc G r (k.flush a).2 N (upd B a l) (ZO2 Q a b (Q a b++[i])) c:=by
 unfold KS.flush
 rw[h.bx a ha,hB]
 dsimp only
 rw[hto,h.roomAt ha hb hab,if_neg (by omega),Int.toNat_natCast,h.counted ha hb,hc]
 dsimp only
 rw[h.q a b ha hb]
 exact (h.setB ha l).setQ ha hb _
theorem ZQj {i:Zn} {l:List Zn} {cc:CL} (h:Acc G r k N B Q (some cc)) (ha:a<G.n) (hb:b<G.n) (hab:b≠a) (hB:B a=i::l) (hto:i.m.To=(b:Int)) (hr:(Q a b).length<r)
  (hc:(!decide (i.Kind=2)&&(N a).isBold&&(N b).isBold)=true):Acc G r (k.flush a).2 N (upd B a l) (ZO2 Q a b (Q a b++[⟨i.Kind,i.m,cc.t (N a).rank % 2⟩])) (some (cc.sent (N a).rank i.m.key.T)):=by
 unfold KS.flush
 rw[h.bx a ha,hB]
 dsimp only
 rw[hto,h.roomAt ha hb hab,if_neg (by omega),Int.toNat_natCast,h.counted ha hb,hc,h.cut]
 dsimp only
 rw[h.q a b ha hb,h.nd a ha]
 exact ((h.setB ha l).setC _).setQ ha hb _
theorem ZOl {i:Zn} {l:List Zn} {M:ND} (h:Acc G r k N B Q c) (ha:a<G.n) (hb:b<G.n) (hq:Q a b=i::l) (hN:N b=.slow M) (he:hearE M a i=0) :
  Acc G r (k.deliver G.W a b).2 (upd N b (.slow (Zd0 M a i))) B (ZO2 Q a b l) c:=by
 have hh:k.hears G.W a b i=(hearE M a i,[],.slow (Zd0 M a i)):=by
  unfold KS.hears
  rw[h.nd b hb,hN]
 unfold KS.deliver
 rw[h.q a b ha hb,hq]
 dsimp only
 rw[hh]
 dsimp only
 rw[he,if_neg (by decide),h.counted ha hb]
 have hc:(!decide (i.Kind=2)&&(N a).isBold&&(N b).isBold)=false:=by
  rw[hN]
  show (!decide (i.Kind=2)&&(N a).isBold&&false)=false
  rw[Bool.and_false]
 rw[hc]
 dsimp only
 refine (((h.setN hb _).setQ ha hb l).put hb []).congr (λ_ _=>rfl) (λx _=>?_) λ_ _ _ _=>rfl
 by_cases hx:x=b
 ·subst hx;rw[ZNL,List.append_nil]
 ·rw[ZNM hx]
theorem ZOj {i:Zn} {l:List Zn} {M:WN} {rk:Nat} {t:Int} (h:Acc G r k N B Q c) (ha:a<G.n) (hb:b<G.n) (hq:Q a b=i::l) (hN:N b=.bold M rk t)
  (he:(ZbE G.W b (Zs G.W b) M a i).e=0) (ho:(ZbE G.W b (Zs G.W b) M a i).out=[]) (hc:(!decide (i.Kind=2)&&(N a).isBold)=false) :
  Acc G r (k.deliver G.W a b).2 (upd N b (.bold (ZbE G.W b (Zs G.W b) M a i).N rk t)) B (ZO2 Q a b l) c:=by
 have hh:k.hears G.W a b i=((ZbE G.W b (Zs G.W b) M a i).e,(ZbE G.W b (Zs G.W b) M a i).out,.bold (ZbE G.W b (Zs G.W b) M a i).N rk t):=by
  unfold KS.hears
  rw[h.nd b hb,hN]
 unfold KS.deliver
 rw[h.q a b ha hb,hq]
 dsimp only
 rw[hh]
 dsimp only
 rw[he,if_neg (by decide),h.counted ha hb,hc,Bool.false_and,ho]
 dsimp only
 refine (((h.setN hb _).setQ ha hb l).put hb []).congr (λ_ _=>rfl) (λx _=>?_) λ_ _ _ _=>rfl
 by_cases hx:x=b
 ·subst hx;rw[ZNL,List.append_nil]
 ·rw[ZNM hx]
theorem ZPf {i:Zn} {l:List Zn} {M:WN} {rk:Nat} {t:Int} {cc:CL} (h:Acc G r k N B Q (some cc)) (ha:a<G.n) (hb:b<G.n) (hq:Q a b=i::l) (hN:N b=.bold M rk t)
  (he:(ZbE G.W b (Zs G.W b) M a i).e=0) (ho:(ZbE G.W b (Zs G.W b) M a i).out=[]) (hc:(!decide (i.Kind=2)&&(N a).isBold)=true) :
  Acc G r (k.deliver G.W a b).2 (upd N b (.bold (ZbE G.W b (Zs G.W b) M a i).N rk t)) B (ZO2 Q a b l) (some (cc.got i.Colour)):=by
 have hh:k.hears G.W a b i=((ZbE G.W b (Zs G.W b) M a i).e,(ZbE G.W b (Zs G.W b) M a i).out,.bold (ZbE G.W b (Zs G.W b) M a i).N rk t):=by
  unfold KS.hears
  rw[h.nd b hb,hN]
 unfold KS.deliver
 rw[h.q a b ha hb,hq]
 dsimp only
 rw[hh]
 dsimp only
 rw[he,if_neg (by decide),h.counted ha hb,hc,h.cut,ho,hN]
 dsimp only[Nd.isBold,Bool.true_and]
 refine ((((h.setN hb _).setQ ha hb l).put hb []).setC _).congr (λ_ _=>rfl) (λx _=>?_) λ_ _ _ _=>rfl
 by_cases hx:x=b
 ·subst hx;rw[ZNL,List.append_nil]
 ·rw[ZNM hx]
theorem ZPI {M:ND} (h:Acc G r k N B Q c) (ha:a<G.n) (hb:B a=[]) (hN:N a=.slow M) (hs:Zh8 G.W M=true) :
  Acc G r (k.step G.W a).2 (upd N a (.slow (Zmn (Zs G.W a) M))) (upd B a ((Zo7 G.W a (Zs G.W a) M).map Zae)) Q c:=by
 unfold KS.step
 rw[h.bx a ha,if_neg (by rw[hb];simp),h.nd a ha,hN]
 dsimp only
 rw[if_pos hs]
 refine ((h.setN ha _).put ha _).congr (λ_ _=>rfl) (λx _=>?_) λ_ _ _ _=>rfl
 by_cases hx:x=a
 ·subst hx;rw[ZNL,ZNL,hb,List.nil_append]
 ·rw[ZNM hx,ZNM hx]
theorem ZPp {M:ND} (h:Acc G r k N B Q c) (ha:a<G.n) (hN:N a=.slow M) (hs:Zh8 G.W M=false):(k.step G.W a).2=k:=by
 unfold KS.step
 split
 ·rfl
 ·rw[h.nd a ha,hN]
  dsimp only
  rw[hs]
  rfl
theorem ZPH {M:WN} {rk:Nat} {t:Int} (h:Acc G r k N B Q c) (ha:a<G.n) (hb:B a=[]) (hN:N a=.bold M rk t) (hs:Zcl G.W a (Zs G.W a) M=0) :
  Acc G r (k.step G.W a).2 (upd N a (.bold (Zcv M) rk t)) (upd B a (ZqQ G.W (Zin G.W a (Zs G.W a) M))) Q c:=by
 unfold KS.step
 rw[h.bx a ha,if_neg (by rw[hb];simp),h.nd a ha,hN]
 dsimp only
 rw[if_pos hs]
 refine ((h.setN ha _).put ha _).congr (λ_ _=>rfl) (λx _=>?_) λ_ _ _ _=>rfl
 by_cases hx:x=a
 ·subst hx;rw[ZNL,ZNL,hb,List.nil_append]
 ·rw[ZNM hx,ZNM hx]
theorem ZPQ {M:WN} {rk:Nat} {t:Int} (h:Acc G r k N B Q c) (ha:a<G.n) (hN:N a=.bold M rk t) (hs:Zcl G.W a (Zs G.W a) M≠0):(k.step G.W a).2=k:=by
 unfold KS.step
 split
 ·rfl
 ·rw[h.nd a ha,hN]
  dsimp only
  rw[if_neg hs]
theorem ZO3 (h:Acc G r k N B Q c) (ha:a<G.n) (hb:B a≠[]):(k.tell G.W a).2=k:=by
 unfold KS.tell
 rw[h.bx a ha,if_pos hb]
def ZOA (n:Nat) (κ:Nat→Bool) (a:Nat) (t:Int):List Zn:=((List.range n).filter λf=>!decide (f=a)&&!(κ a&&κ f)).map λ(f:Nat)=>(⟨2,⟨⟨t,0,0⟩,(f:Int),0,0⟩,0⟩:Zn)
theorem ZOL (h:Acc G r k N B Q c) (ha:a<G.n) (hk:∀f,f<G.n→(N f).isBold=G.κ f) (t:Int):ZaW k a t=ZOA G.n G.κ a t:=by
 unfold ZaW ZOA
 rw[h.nl]
 congr 1
 refine List.filter_congr λf hf=>?_
 have hf:=List.mem_range.1 hf
 rw[h.nd a ha,h.nd f hf,hk a ha,hk f hf]
theorem ZPK {M:ND} (h:Acc G r k N B Q c) (ha:a<G.n) (hk:∀f,f<G.n→(N f).isBold=G.κ f) (hb:B a=[]) (hN:N a=.slow M) (hs:M.clk.tellB (Zcd M) (Zs G.W a).Look=true) :
  Acc G r (k.tell G.W a).2 (upd N a (.slow (ZiG (Zs G.W a) M))) (upd B a (ZOA G.n G.κ a (M.clk.tellT (Zcd M) (Zs G.W a).Look))) Q c:=by
 unfold KS.tell
 rw[h.bx a ha,if_neg (by rw[hb];simp),h.nd a ha,hN]
 dsimp only
 rw[if_pos hs,ZOL h ha hk]
 refine ((h.setN ha _).put ha _).congr (λ_ _=>rfl) (λx _=>?_) λ_ _ _ _=>rfl
 by_cases hx:x=a
 ·subst hx;rw[ZNL,ZNL,hb,List.nil_append]
 ·rw[ZNM hx,ZNM hx]
theorem ZPO {M:ND} (h:Acc G r k N B Q c) (ha:a<G.n) (hN:N a=.slow M) (hs:M.clk.tellB (Zcd M) (Zs G.W a).Look=false):(k.tell G.W a).2=k:=by
 unfold KS.tell
 split
 ·rfl
 ·rw[h.nd a ha,hN]
  dsimp only
  rw[hs]
  rfl
theorem ZPz {M:WN} {rk:Nat} {t:Int} (h:Acc G r k N B Q c) (ha:a<G.n) (hk:∀f,f<G.n→(N f).isBold=G.κ f) (hb:B a=[]) (hN:N a=.bold M rk t) (hs:t<Za6 (Zs G.W a) M) :
  Acc G r (k.tell G.W a).2 (upd N a (.bold M rk (Za6 (Zs G.W a) M))) (upd B a (ZOA G.n G.κ a (Za6 (Zs G.W a) M))) Q c:=by
 unfold KS.tell
 rw[h.bx a ha,if_neg (by rw[hb];simp),h.nd a ha,hN]
 dsimp only
 rw[if_neg (by omega),ZOL h ha hk]
 refine ((h.setN ha _).put ha _).congr (λ_ _=>rfl) (λx _=>?_) λ_ _ _ _=>rfl
 by_cases hx:x=a
 ·subst hx;rw[ZNL,ZNL,hb,List.nil_append]
 ·rw[ZNM hx,ZNM hx]
theorem ZPG {M:WN} {rk:Nat} {t:Int} (h:Acc G r k N B Q c) (ha:a<G.n) (hN:N a=.bold M rk t) (hs:¬t<Za6 (Zs G.W a) M):(k.tell G.W a).2=k:=by
 unfold KS.tell
 split
 ·rfl
 ·rw[h.nd a ha,hN]
  dsimp only
  rw[if_pos (by omega)]
theorem ZPY {cc:CL} (h:Acc G r k N B Q (some cc)) (hu:¬cc.over<cc.begun):Acc G r k.begin'.2 N B Q (some { cc with begun:=cc.begun+1,least:=Inf }):=by
 unfold KS.begin'
 rw[h.cut]
 dsimp only
 rw[if_neg hu]
 exact h.setC _
theorem ZQa {cc:CL} {M:WN} {rk:Nat} {t:Int} (h:Acc G r k N B Q (some cc)) (ha:a<G.n) (hN:N a=.bold M rk t) (hu:cc.over<cc.begun) (ht:cc.t rk≠cc.begun):Acc G r (k.turn a).2 N B Q (some { cc with T:=cc.T.set rk cc.begun }):=by
 unfold KS.turn
 rw[h.nd a ha,hN,h.cut]
 dsimp only
 rw[if_neg (by simp[hu,ht])]
 exact h.setC _
theorem ZOJ {M:ND} (h:Acc G r k N B Q c) (ha:a<G.n) (hN:N a=.slow M):(k.turn a).2=k:=by
 unfold KS.turn
 rw[h.nd a ha,hN]
theorem ZOa {M:ND} (h:Acc G r k N B Q c) (ha:a<G.n) (hN:N a=.slow M):(k.report G.W a).2=k:=by
 unfold KS.report
 rw[h.nd a ha,hN]
def ZOx (N:Nat→Nd) (a:Nat) (M:WN) (l:List Zn):Int:=ZaP (ZcM M::(l.filter λi=>!decide (i.Kind=2)&&(N a).isBold&&(N i.m.To.toNat).isBold).map λi=>i.m.key.T)
theorem ZOR {cc:CL} {M:WN} {rk:Nat} {t:Int} (h:Acc G r k N B Q (some cc)) (ha:a<G.n) (hN:N a=.bold M rk t) (hto:∀i∈B a,0≤i.m.To∧i.m.To<G.n)
  (hu:cc.over<cc.begun) (hT:(cc.T.all λt=>decide (t=cc.begun))=true) (hR:cc.Rp.getD rk 0≠cc.begun) (h0:cc.on (cc.over % 2)=0) (hl:((cc.Rp.set rk cc.begun).all λt=>decide (t=cc.begun))=false) :
  Acc G r (k.report G.W a).2 N B Q (some { cc with Rp:=cc.Rp.set rk cc.begun,least:=min cc.least (ZOx N a M (B a)) }):=by
 have hf:((k.box a).filter λi=>k.counted a i.m.To.toNat i)=(B a).filter λi=>!decide (i.Kind=2)&&(N a).isBold&&(N i.m.To.toNat).isBold:=by
  rw[h.bx a ha]
  refine List.filter_congr λi hi=>?_
  have:=hto i hi
  exact h.counted ha (by omega) i
 unfold KS.report
 rw[h.nd a ha,hN,h.cut]
 dsimp only
 rw[if_neg (λhh=>hh.elim (λh1=>h1 hu) λhh=>hh.elim (λh1=>by rw[hT] at h1;cases h1) hR),if_neg (by simp[h0]),if_neg (by rw[hl];decide),hf,←h.nd a ha]
 rw[h.nd a ha]
 exact h.setC _
theorem ZOS {cc:CL} {M:WN} {rk:Nat} {t:Int} (h:Acc G r k N B Q (some cc)) (ha:a<G.n) (hN:N a=.bold M rk t) (hto:∀i∈B a,0≤i.m.To∧i.m.To<G.n)
  (hu:cc.over<cc.begun) (hT:(cc.T.all λt=>decide (t=cc.begun))=true) (hR:cc.Rp.getD rk 0≠cc.begun) (h0:cc.on (cc.over % 2)=0) (hl:((cc.Rp.set rk cc.begun).all λt=>decide (t=cc.begun))=true) :
  ∃k',(k.report G.W a).2=k'.settle G.W (max cc.value (min cc.least (ZOx N a M (B a))))∧
   Acc G r k' N B Q (some { cc with Rp:=cc.Rp.set rk cc.begun,least:=min cc.least (ZOx N a M (B a)),over:=cc.begun,value:=max cc.value (min cc.least (ZOx N a M (B a))) }):=by
 have hf:((k.box a).filter λi=>k.counted a i.m.To.toNat i)=(B a).filter λi=>!decide (i.Kind=2)&&(N a).isBold&&(N i.m.To.toNat).isBold:=by
  rw[h.bx a ha]
  refine List.filter_congr λi hi=>?_
  have:=hto i hi
  exact h.counted ha (by omega) i
 refine ⟨{ k with cut:=some { cc with Rp:=cc.Rp.set rk cc.begun,least:=min cc.least (ZOx N a M (B a)),over:=cc.begun,value:=max cc.value (min cc.least (ZOx N a M (B a))) } },?_,h.setC _⟩
 unfold KS.report
 rw[h.nd a ha,hN,h.cut]
 dsimp only
 rw[if_neg (λhh=>hh.elim (λh1=>h1 hu) λhh=>hh.elim (λh1=>by rw[hT] at h1;cases h1) hR),if_neg (by simp[h0]),if_pos hl,hf]
 rfl
variable {c:Nat} {h:Nat→Int} {tl v t x:Int} {J:Nat} {wt:Bool}
theorem ZOp {α:Type} {n f:Nat} {F F':Nat→α} (h:∀j,j<n→j≠f→F' j=F j) {x:α} (hx:f<n→x=F' f):((List.range n).map F).set f x=(List.range n).map F':=by
 apply List.ext_getElem?
 intro j
 rw[List.getElem?_set,List.length_map,List.length_range,List.getElem?_map,List.getElem?_map]
 by_cases hj:j<n
 ·rw[List.getElem?_range hj]
  by_cases hf:f=j
  ·subst hf
   rw[if_pos rfl,if_pos hj,hx hj]
   rfl
  ·rw[if_neg hf]
   show some (F j)=some (F' j)
   rw[h j hj λh=>hf h.symm]
 ·rw[List.getElem?_eq_none (by rw[List.length_range];omega)]
  split
  ·rw[if_neg (by omega)];rfl
  ·rfl
def Rg.clkS (G:Rg) (a:Nat) (h:Nat→Int):List Int:=(List.range G.n).map λc=>if c=a then 0 else h c
def Rg.clkB (G:Rg) (h:Nat→Int):List Int:=(List.range G.n).map λc=>if G.κ c then -1 else h c
def Rg.ndS (G:Rg) (a:Nat) (h:Nat→Int) (tl:Int) (J:Nat) (wt:Bool):ND:=⟨⟨G.clkS a h,a,tl⟩,if wt then [G.mq J] else [],0,G.sn a J,(G.Lg a J).map λm=>⟨m,0⟩⟩
def Rg.ndB (G:Rg) (a:Nat) (h:Nat→Int) (v:Int) (J:Nat) (wt:Bool):WN:=⟨Zc6 v (G.Lg a J),ZmO v (G.Lg a J),if wt then [G.mq J] else [],v,G.clkB h⟩
def Rg.nd (G:Rg) (a:Nat) (h:Nat→Int) (tl v:Int) (J:Nat) (wt:Bool):Nd:=if G.κ a then .bold (G.ndB a h v J wt) (Zcz G.W a) tl else .slow (G.ndS a h tl J wt)
theorem ZN1 (G:Rg) (a:Nat) (h:Nat→Int) (tl v:Int) (J:Nat) (wt:Bool):(G.nd a h tl v J wt).isBold=G.κ a:=by
 unfold Rg.nd
 cases G.κ a <;> rfl
theorem ZO5 (hk:G.κ a=false):G.nd a h tl v J wt=.slow (G.ndS a h tl J wt):=by unfold Rg.nd;rw[hk];rfl
theorem ZOK (hk:G.κ a=true):G.nd a h tl v J wt=.bold (G.ndB a h v J wt) (Zcz G.W a) tl:=by unfold Rg.nd;rw[hk];rfl
theorem ZOy:(G.clkS a h).length=G.n:=by simp[Rg.clkS]
theorem ZQm (hc:c<G.n) (hca:c≠a):(G.clkS a h).getD c 0=h c:=by
 unfold Rg.clkS
 rw[List.getD_eq_getElem?_getD,List.getElem?_map,List.getElem?_range hc]
 show (if c=a then 0 else h c)=_
 rw[if_neg hca]
theorem ZP6 (hc:c<G.n) (d:Int):(G.clkB h).getD c d=if G.κ c then -1 else h c:=by
 unfold Rg.clkB
 rw[List.getD_eq_getElem?_getD,List.getElem?_map,List.getElem?_range hc]
 rfl
theorem ZQc (hab:a≠b):(G.clkS b h).set a t=G.clkS b (upd h a t):=
 ZOp (λj _ hja=>by rw[ZNM hja]) λ_=>by rw[if_neg hab,ZNL]
theorem ZP5 (hk:G.κ a=false):(G.clkB h).set a t=G.clkB (upd h a t):=
 ZOp (λj _ hja=>by rw[ZNM hja]) λ_=>by rw[hk,ZNL];rfl
theorem ZOH (hk:G.κ a=true):G.clkB (upd h a t)=G.clkB h:=by
 unfold Rg.clkB
 refine List.map_congr_left λc _=>?_
 by_cases hca:c=a
 ·subst hca;rw[hk];rfl
 ·rw[ZNM hca]
theorem ZQv (hab:a≠b) (ha:a<G.n):Clk.okJ ⟨G.clkS b h,b,tl⟩ a:=⟨by omega,by rw[ZOy];omega,by show (a:Int)≠(b:Int);omega⟩
theorem ZQe (hab:a≠b) (ha:a<G.n):Clk.get ⟨G.clkS b h,b,tl⟩ a=h a:=by
 unfold Clk.get
 rw[Int.toNat_natCast]
 exact ZQm ha hab
theorem ZOo (h0:0≤t∧t≤1000000):Yu t=true:=by
 unfold Yu
 rw[decide_eq_true_iff]
 unfold Zsq Inf
 omega
theorem ZPJ (hc:c<G.n) (hcb:c≠b):Clk.bound ⟨G.clkS b h,b,tl⟩≤h c:=by
 have h1:=(Clk.upTo_spec ⟨G.clkS b h,b,tl⟩ (G.clkS b h).length (Nat.le_refl _)).2.1 c (ZQv hcb hc) (by rw[ZOy];omega)
 rw[ZQe hcb hc] at h1
 exact h1
theorem ZPv (hx:x≤Inf) (hall:∀c,c<G.n→c≠b→x≤h c):x≤Clk.bound ⟨G.clkS b h,b,tl⟩:=by
 have h1:=(Clk.upTo_spec ⟨G.clkS b h,b,tl⟩ (G.clkS b h).length (Nat.le_refl _)).2.2
 show x≤Clk.upTo ⟨G.clkS b h,b,tl⟩ (G.clkS b h).length
 rcases h1 with h1 | ⟨j,hj,h1⟩
 ·rw[h1];exact hx
 ·obtain ⟨j0,j1,j2⟩:=hj
  obtain ⟨i,rfl⟩:∃i:Nat,j=i:=⟨j.toNat,by omega⟩
  have hi:i<G.n:=by rw[ZOy] at j1;omega
  have hib:i≠b:=λe=>j2 (by rw[e])
  rw[h1,ZQe hib hi]
  exact hall i hi hib
def bdI (t:Int) (b:Nat):Zn:=⟨2,⟨⟨t,0,0⟩,(b:Int),0,0⟩,0⟩
theorem ZP1 (hab:a≠b) (ha:a<G.n) (ht:0≤t∧t≤1000000) (hle:h a≤t):hearE (G.ndS b h tl J wt) a (bdI t b)=0∧Zd0 (G.ndS b h tl J wt) a (bdI t b)=G.ndS b (upd h a t) tl J wt:=by
 have h1:¬t<Clk.get ⟨G.clkS b h,b,tl⟩ a:=by rw[ZQe hab ha];omega
 constructor
 ·unfold hearE
  rw[if_pos (show (bdI t b).Kind=2 from rfl)]
  exact Clk.hearE_ok (ZQv hab ha) (ZOo ht) h1
 ·unfold Zd0
  rw[if_pos (show (bdI t b).Kind=2 from rfl)]
  show (⟨Clk.hear ⟨G.clkS b h,b,tl⟩ a t,_,_,_,_⟩:ND)=_
  rw[Clk.hear_ok (ZQv hab ha) (ZOo ht) h1]
  show (⟨⟨(G.clkS b h).set (a:Int).toNat t,_,_⟩,_,_,_,_⟩:ND)=_
  rw[Int.toNat_natCast,ZQc hab]
  rfl
theorem ZRK (ha:a<G.n):WN.at' (G.ndB b h v J wt) a=if G.κ a then -1 else h a:=by
 unfold WN.at'
 rw[if_pos (by omega),Int.toNat_natCast]
 exact ZP6 ha _
theorem ZQu (hab:a≠b) (ha:a<G.n) (hk:G.κ a=false) (ht:0≤t∧t≤1000000) (h0:0≤h a) (hle:h a≤t) :
  ZbE G.W b (Zs G.W b) (G.ndB b h v J wt) a (bdI t b)=⟨0,[],G.ndB b (upd h a t) v J wt⟩:=by
 have hA:WN.at' (G.ndB b h v J wt) a=h a:=by rw[ZRK ha,hk];rfl
 unfold ZbE
 rw[if_neg (by rw[ZOi];simp;omega),if_pos (show (bdI t b).Kind=2 from rfl),hA,if_neg (by rw[show (bdI t b).m.key.T=t from rfl,ZOo ht];simp;omega),if_neg (by show ¬t<h a;omega)]
 show (⟨0,[],⟨_,_,_,_,(G.clkB h).set (a:Int).toNat t⟩⟩:HR)=_
 rw[Int.toNat_natCast,ZP5 hk]
 rfl
theorem ZQY (hab:a≠b) (ha:a<G.n) (h0:0≤h a) (hle:h a≤G.tq J) (col:Int):hearE (G.ndS b h tl J false) a ⟨0,G.mq J,col⟩=0∧Zd0 (G.ndS b h tl J false) a ⟨0,G.mq J,col⟩=G.ndS b h tl J true:=by
 have hat:Clk.at' ⟨G.clkS b h,b,tl⟩ a=h a:=by
  unfold Clk.at'
  rw[if_pos (ZQv hab ha),ZQe hab ha]
 have hat':(G.ndS b h tl J false).clk.at' a=h a:=hat
 have hT:(G.mq J).key.T=G.tq J:=rfl
 constructor
 ·unfold hearE
  rw[if_neg (show ¬(0:Int)=2 by decide),if_pos (show (0:Int)=0 from rfl),hat',if_neg (by omega),if_neg (by rw[hT];omega)]
  rfl
 ·unfold Zd0
  rw[if_neg (show ¬(0:Int)=2 by decide),if_pos ⟨rfl,by rw[hat'];omega,by rw[hat',hT];omega⟩]
  rfl
theorem ZPM (ok:G.Ok) {l:List Msg} (hl:∀m∈l,∃j,j<J∧m=G.mq j):Yj (G.mq J).key l=[]∧ZbF (G.mq J).key l=l:=by
 have hlt:∀m∈l,Zv m.key (G.mq J).key:=λm hm=>by
  obtain ⟨j,hj,rfl⟩:=hl m hm
  exact .inl (ZOP ok hj)
 exact ⟨List.filter_eq_nil_iff.2 λm hm=>by simp[hlt m hm],List.filter_eq_self.2 λm hm=>by simp[hlt m hm]⟩
theorem ZPd {m:Msg} (hm:m∈ZmO v (G.Lg a J)):∃j,j<J∧m=G.mq j:=by
 obtain ⟨j,h1,_,h2⟩:=ZON (List.mem_filter.1 hm).1
 exact ⟨j,h1,h2⟩
theorem ZQ4 (ok:G.Ok) (hab:a≠b) (ha:a<G.n) (hv:v≤G.tq J) (h0:G.κ a=false→0≤h a∧h a≤G.tq J) (col:Int) :
  ZbE G.W b (Zs G.W b) (G.ndB b h v J false) a ⟨0,G.mq J,col⟩=⟨0,[],G.ndB b h v J true⟩:=by
 have hT:(G.mq J).key.T=G.tq J:=rfl
 have hH:=ZPM (J:=J) ok (l:=ZmO v (G.Lg b J)) λm hm=>ZPd hm
 have hat:¬(0≤WN.at' (G.ndB b h v J false) a∧G.tq J<WN.at' (G.ndB b h v J false) a):=by
  rw[ZRK ha]
  cases hk:G.κ a with
  | true=>rw[if_pos rfl];omega
  | false=>
   have:=h0 hk
   rw[if_neg (by decide)]
   omega
 have hK:ZeQ (G.mq J).key (ZmO v (G.Lg b J)++[])=false:=by
  rw[ZuS]
  intro m hm he
  rw[List.append_nil] at hm
  obtain ⟨j,hj,rfl⟩:=ZPd hm
  have h1:=ZOP ok hj
  have h2:G.tq j=G.tq J:=congrArg Key.T he
  omega
 have hlen:¬64≤(G.ndB b h v J false).q.length+(Yj (G.mq J).key (G.ndB b h v J false).ms).length:=by
  show ¬64≤0+(Yj (G.mq J).key (ZmO v (G.Lg b J))).length
  rw[hH.1]
  decide
 unfold ZbE
 rw[if_neg (by rw[ZOi];simp;omega),if_neg (show ¬(0:Int)=2 by decide),if_pos (show (0:Int)=0 from rfl),if_neg (by
  rw[hT]
  show ¬(G.tq J<v∨_)
  intro hh
  rcases hh with hh | hh
  ·omega
  ·exact hat hh),if_neg (by
  show ¬ZeQ (G.mq J).key (ZmO v (G.Lg b J)++[])=true
  rw[hK]
  decide),if_neg hlen]
 have hg:ZiU G.W b (Zs G.W b) (G.ndB b h v J false) (G.mq J).key=[]:=by
  unfold ZiU
  show Zc8 _ _ _ _ (Yj (G.mq J).key (ZmO v (G.Lg b J)))=[]
  rw[hH.1]
  rfl
 rw[hg]
 show (⟨0,[],⟨_,ZbF (G.mq J).key (ZmO v (G.Lg b J)),Zkj (G.mq J) (Yj (G.mq J).key (ZmO v (G.Lg b J))++[]),_,_⟩⟩:HR)=_
 rw[hH.1,hH.2]
 rfl
theorem ZQP (ok:G.Ok) (ha:a<G.n) (hJ:(J+1) % G.n≠a):G.nd a h tl v (J+1) false=G.nd a h tl v J false:=by
 have e1:G.Lg a (J+1)=G.Lg a J:=by rw[ZNO,if_neg hJ,List.append_nil]
 have e2:G.sn a (J+1)=G.sn a J:=by rw[ZOT ok ha,if_neg hJ,Int.add_zero]
 unfold Rg.nd Rg.ndS Rg.ndB
 rw[e1,e2]
 rfl
theorem ZRp (hb:G.tq J<Clk.bound ⟨G.clkS a h,a,tl⟩) (hE:G.tq J<G.E):Zh8 G.W (G.ndS a h tl J true)=true:=by
 unfold Zh8
 show (true&&decide (G.tq J<min G.E (Clk.bound ⟨G.clkS a h,a,tl⟩)))=true
 rw[Bool.true_and,decide_eq_true_iff]
 omega
theorem ZP8 (hb:¬(G.tq J<Clk.bound ⟨G.clkS a h,a,tl⟩∧G.tq J<G.E)):Zh8 G.W (G.ndS a h tl J true)=false:=by
 unfold Zh8
 show (true&&decide (G.tq J<min G.E (Clk.bound ⟨G.clkS a h,a,tl⟩)))=false
 rw[Bool.true_and,decide_eq_false_iff_not]
 omega
theorem ZRm (ok:G.Ok) (ha:a<G.n) (hJ:(J+1) % G.n=a) (hJ2:J≤100):Zmn (Zs G.W a) (G.ndS a h tl J true)=G.ndS a h tl (J+1) false∧Zo7 G.W a (Zs G.W a) (G.ndS a h tl J true)=[G.mq (J+1)]:=by
 have hr:ZuU (Zs G.W a) (G.ndS a h tl J true)=(0,[⟨(a:Nat),G.d a,1⟩]):=by
  unfold ZuU
  rw[ZN2 ha]
  show ZbY (G.fed a).Rules 0 ((J % G.n:Nat):Int)=_
  rw[ZOv ok hJ,ZOQ]
 constructor
 ·unfold Zmn ZmU
  rw[hr]
  show (⟨_,[],0,G.sn a J+1,(G.Lg a J).map (λm=>(⟨m,0⟩:Zak))++[⟨G.mq J,0⟩]⟩:ND)=_
  unfold Rg.ndS
  rw[ZNO,if_pos hJ,ZOT ok ha,if_pos hJ,List.map_append]
  rfl
 ·unfold Zo7
  rw[hr]
  exact ZRh ok hJ2 hJ
theorem ZQB (a:Nat) (v:Int):(ZmO v (G.Lg a J)).length≤J:=Nat.le_trans (List.length_filter_le _ _) (ZQK a J)
theorem ZQr {l:List En} (h1:∀x∈l,∃j,x=G.en j):(Yq G.W l).length≤l.length:=by
 induction l with
 | nil=>exact Nat.le_refl _
 | cons x l ih=>
  obtain ⟨j,rfl⟩:=h1 x (List.mem_cons_self ..)
  have h2:=ih λy hy=>h1 y (List.mem_cons_of_mem _ hy)
  unfold Yq at*
  rw[List.flatMap_cons,List.length_append,List.length_cons]
  have h3:(ZmR G.W (G.en j)).length≤1:=by
   unfold ZmR
   rw[List.length_map]
   exact Nat.le_trans (List.length_filter_le _ _) (Nat.le_refl 1)
  omega
theorem ZPZ (ok:G.Ok) (a:Nat):Zc8 G.W a (G.fed a) (ZjE (G.fed a) (ZxV (G.fed a)) (Zc6 v (G.Lg a J))) (ZmO v (G.Lg a J))=((Zc8 G.W a (G.fed a) (ZxV (G.fed a)) (G.Lg a J)).drop (Zc6 v (G.Lg a J)).length)∧Zc6 v (G.Lg a J)++ZmO v (G.Lg a J)=G.Lg a J:=by
 have hsp:Zc6 v (G.Lg a J)++ZmO v (G.Lg a J)=G.Lg a J:=by
  refine ZkC ((ZOf ok a J).imp λ{x y} hxy hy=>?_)
  rw[decide_eq_true_iff] at*
  omega
 refine ⟨?_,hsp⟩
 rw[Zpl]
 have e1:(G.Lg a J).take (Zc6 v (G.Lg a J)).length=Zc6 v (G.Lg a J):=by
  have h1:(Zc6 v (G.Lg a J)++ZmO v (G.Lg a J)).take (Zc6 v (G.Lg a J)).length=Zc6 v (G.Lg a J):=List.take_left' rfl
  rw[hsp] at h1
  exact h1
 have e2:(G.Lg a J).drop (Zc6 v (G.Lg a J)).length=ZmO v (G.Lg a J):=by
  have h1:(Zc6 v (G.Lg a J)++ZmO v (G.Lg a J)).drop (Zc6 v (G.Lg a J)).length=ZmO v (G.Lg a J):=List.drop_left' rfl
  rw[hsp] at h1
  exact h1
 rw[e1,e2]
theorem ZRj (ok:G.Ok) (ha:a<G.n) (hJ:J≤100):∀x∈Zc8 G.W a (G.fed a) (ZjE (G.fed a) (ZxV (G.fed a)) (Zc6 v (G.Lg a J))) (ZmO v (G.Lg a J)),∃j,x=G.en j:=by
 intro x hx
 rw[(ZPZ ok a).1,ZP9 ok ha J hJ] at hx
 obtain ⟨j,_,rfl⟩:=List.mem_map.1 (List.mem_of_mem_drop hx)
 exact ⟨j,rfl⟩
theorem ZPq (hb:b<G.n):Zci G.W (b:Int)=G.κ b:=by
 unfold Zci
 rw[if_pos (by omega),Int.toNat_natCast]
 unfold Rg.W
 rw[List.getElem?_map,List.getElem?_range hb]
 show decide ((if G.κ b then (1:Int) else 0)=1)=_
 cases G.κ b <;> rfl
theorem ZQk (ok:G.Ok) (a:Nat):G.sx a<G.n:=Nat.mod_lt _ (by have:=ok.n;omega)
theorem ZQ2 (J:Nat):(G.mq (J+1)).To=((G.sx ((J+1) % G.n):Nat):Int):=by
 show (((J+1+1) % G.n:Nat):Int)=_
 unfold Rg.sx
 rw[Nat.mod_add_mod]
theorem ZRs (ok:G.Ok) (ha:a<G.n) (hJ:(J+1) % G.n=a) (hJ2:J≤60) (hE:G.tq J<G.E) (hv:v≤G.tq J) :
  Zcl G.W a (Zs G.W a) (G.ndB a h v J true)=0∧Zcv (G.ndB a h v J true)=G.ndB a h v (J+1) false∧
  ZqQ G.W (Zin G.W a (Zs G.W a) (G.ndB a h v J true))=if G.κ (G.sx a) then [Zae (G.mq (J+1))] else []:=by
 have hp:(WN.past (G.ndB a h v J true) G.W a (G.fed a)).length≤J∧(Yq G.W (WN.past (G.ndB a h v J true) G.W a (G.fed a))).length≤J:=by
  have h1:(WN.past (G.ndB a h v J true) G.W a (G.fed a)).length≤J:=by
   show (Zc8 _ _ _ _ (ZmO v (G.Lg a J))).length≤J
   rw[ZbA]
   exact ZQB a v
  exact ⟨h1,Nat.le_trans (ZQr (ZRj ok ha (by omega))) h1⟩
 refine ⟨?_,?_,?_⟩
 ·unfold Zcl
  rw[if_neg (by simp only[Classical.not_not];exact ⟨rfl,hE⟩),ZN2 ha,if_neg (by
   have h2:¬64≤(G.ndB a h v J true).ms.length:=by
    have:=ZQB (G:=G) (J:=J) a v
    show ¬64≤(ZmO v (G.Lg a J)).length
    omega
   omega)]
 ·unfold Zcv Rg.ndB
  have e1:Zc6 v (G.Lg a (J+1))=Zc6 v (G.Lg a J):=by
   rw[ZNO,if_pos hJ]
   unfold Zc6
   rw[List.filter_append]
   have:¬(G.mq J).key.T<v:=by show ¬G.tq J<v;omega
   simp[this]
  have e2:ZmO v (G.Lg a (J+1))=ZmO v (G.Lg a J)++[G.mq J]:=by
   rw[ZNO,if_pos hJ]
   unfold ZmO
   rw[List.filter_append]
   have:¬(G.mq J).key.T<v:=by show ¬G.tq J<v;omega
   simp[this]
  rw[e1,e2]
  rfl
 ·have hn:WN.now (G.ndB a h v J true) (Zs G.W a)=(0,G.sn a J):=by
   rw[ZN2 ha]
   unfold WN.now WN.base
   show ZjE _ (ZjE _ _ (Zc6 v (G.Lg a J))) (ZmO v (G.Lg a J))=_
   rw[←Zi8,(ZPZ ok a).2,ZP3 ok ha]
  have he:Zin G.W a (Zs G.W a) (G.ndB a h v J true)=G.en J:=by
   unfold Zin
   rw[hn,ZN2 ha]
   exact ZQ7 ok (by omega) hJ
  rw[he]
  unfold ZqQ Rg.en
  dsimp only
  rw[List.filter_cons,List.filter_nil,ZQ2,hJ,ZPq (ZQk ok a)]
  split <;> rfl
theorem ZRv (hE:wt=false∨¬G.tq J<G.E):Zcl G.W a (Zs G.W a) (G.ndB a h v J wt)≠0:=by
 unfold Zcl
 rw[if_pos ?_]
 ·decide
 ·rintro ⟨h1,h2⟩
  rcases hE with rfl | hE
  ·cases h1
  ·cases wt with
   | false=>cases h1
   | true=>exact hE h2
variable {c:Option CL}
theorem ZOr {α:Type} (f:α→α):∀(m n:Nat) (x:α),rep f (m+n) x=rep f n (rep f m x)
 | 0,n,x=>by rw[Nat.zero_add];rfl
 | m+1,n,x=>by
  rw[Nat.succ_add]
  exact ZOr f m n (f x)
theorem ZPr {α:Type} {f:α→α} {x:α} (h:f x=x):∀n,rep f n x=x
 | 0=>rfl
 | n+1=>by
  show rep f n (f x)=x
  rw[h]
  exact ZPr h n
theorem ZNT {P:Nat→KS→Prop} {f:KS→Nat→KS} {n:Nat} (hf:∀a k,a<n→P a k→P (a+1) (f k a)) (h0:P 0 k):P n (ZOM n f k):=by
 unfold ZOM
 have key:∀m,m≤n→P m ((List.range m).foldl f k):=by
  intro m
  induction m with
  | zero=>intro _;exact h0
  | succ m ih=>
   intro hm
   rw[List.range_succ,List.foldl_append]
   exact hf m _ (by omega) (ih (by omega))
 exact key n (Nat.le_refl _)
def flA (a:Nat) (k:KS):KS:=(k.flush a).2
theorem ZOC:∀(l:List Zn) {k:KS} {rest:List Zn} {B:Nat→List Zn} {Q:Nat→Nat→List Zn},Acc G r k N B Q c→a<G.n→B a=l++rest→(∀i∈l,i.Kind=2∧∃b,b<G.n∧b≠a∧i.m.To=(b:Int))→
  (∀b,b<G.n→(Q a b).length+(l.filter λi=>decide (i.m.To=(b:Int))).length≤r)→
  Acc G r (rep (flA a) l.length k) N (upd B a rest) (λi j=>if i=a then Q a j++l.filter (λi=>decide (i.m.To=(j:Int))) else Q i j) c
 | [],k,rest,B,Q,h,ha,hB,_,_=>h.congr (λ_ _=>rfl) (λx _=>by
   by_cases hx:x=a
   ·subst hx;rw[ZNL,hB];rfl
   ·rw[ZNM hx]) λi j _ _=>by
   by_cases hi:i=a
   ·subst hi;rw[if_pos rfl];simp
   ·rw[if_neg hi]
 | i::l,k,rest,B,Q,h,ha,hB,hl,hr=>by
  obtain ⟨hk,b,hb,hab,hto⟩:=hl i (List.mem_cons_self ..)
  have hr1:=hr b hb
  rw[List.filter_cons_of_pos (by simp[hto]),List.length_cons] at hr1
  have h1:=ZO8 h ha hb hab (l:=l++rest) hB hto (by omega) (by rw[hk];rfl)
  have h2:=ZOC l (rest:=rest) h1 ha (ZNL _ _ _) (λj hj=>hl j (List.mem_cons_of_mem _ hj)) (λb' hb'=>by
   have hr2:=hr b' hb'
   by_cases hbb:b'=b
   ·subst hbb
    rw[ZNV,List.length_append,List.length_singleton]
    rw[List.filter_cons_of_pos (by simp[hto]),List.length_cons] at hr2
    omega
   ·rw[ZNQ λhh=>hbb hh.2]
    rw[List.filter_cons_of_neg (by rw[hto];simp;omega)] at hr2
    exact hr2)
  refine h2.congr (λ_ _=>rfl) (λx _=>?_) λi' j _ _=>?_
  ·by_cases hx:x=a
   ·subst hx;rw[ZNL,ZNL]
   ·rw[ZNM hx,ZNM hx,ZNM hx]
  ·by_cases hi:i'=a
   ·subst hi
    rw[if_pos rfl,if_pos rfl]
    by_cases hj:j=b
    ·subst hj
     rw[ZNV,List.filter_cons_of_pos (by simp[hto]),List.append_assoc]
     rfl
    ·rw[ZNQ λhh=>hj hh.2,List.filter_cons_of_neg (by rw[hto];simp;omega)]
   ·rw[if_neg hi,if_neg hi,ZNQ λhh=>hi hh.1]
theorem ZPA {n:Nat} {κ:Nat→Bool}:∀i∈ZOA n κ a t,i.Kind=2∧∃b,b<n∧b≠a∧i.m.To=(b:Int):=by
 intro i hi
 unfold ZOA at hi
 obtain ⟨f,hf,rfl⟩:=List.mem_map.1 hi
 obtain ⟨h1,h2⟩:=List.mem_filter.1 hf
 refine ⟨rfl,f,List.mem_range.1 h1,?_,rfl⟩
 intro e
 rw[e] at h2
 simp at h2
theorem ZRg {n:Nat} {κ:Nat→Bool} (hb:b<n):(ZOA n κ a t).filter (λi=>decide (i.m.To=(b:Int)))=if b=a∨(κ a&&κ b)=true then [] else [bdI t b]:=by
 unfold ZOA
 rw[List.filter_map]
 have e1:((λi:Zn=>decide (i.m.To=(b:Int)))∘λ(f:Nat)=>(⟨2,⟨⟨t,0,0⟩,(f:Int),0,0⟩,0⟩:Zn))=λf:Nat=>decide (f=b):=by
  funext f
  show decide ((f:Int)=(b:Int))=decide (f=b)
  exact decide_eq_decide.2 (by omega)
 rw[e1,List.filter_filter]
 have e2:((List.range n).filter λf=>decide (f=b)&&(!decide (f=a)&&!(κ a&&κ f)))=if b=a∨(κ a&&κ b)=true then [] else [b]:=by
  by_cases hh:b=a∨(κ a&&κ b)=true
  ·rw[if_pos hh]
   refine List.filter_eq_nil_iff.2 λf _=>?_
   by_cases hf:f=b
   ·subst hf
    rcases hh with hh | hh
    ·simp[hh]
    ·simp only[Bool.and_eq_true] at hh
     simp[hh]
   ·simp[hf]
  ·rw[if_neg hh]
   have e3:((List.range n).filter λf=>decide (f=b)&&(!decide (f=a)&&!(κ a&&κ f)))=(List.range n).filter λf=>decide (f=b):=by
    refine List.filter_congr λf _=>?_
    by_cases hf:f=b
    ·subst hf
     have h1:¬f=a:=λe=>hh (.inl e)
     have h2:(κ a&&κ f)=false:=by
      cases hc:(κ a&&κ f) with
      | false=>rfl
      | true=>exact absurd (.inr hc) hh
     rw[h2,decide_eq_false h1]
     simp
    ·simp[hf]
   rw[e3]
   have e4:∀m,b<m→(List.range m).filter (λf=>decide (f=b))=[b]:=by
    intro m
    induction m with
    | zero=>intro hm;omega
    | succ m ih=>
     intro hm
     rw[List.range_succ,List.filter_append]
     by_cases hbm:b=m
     ·subst hbm
      rw[List.filter_eq_nil_iff.2 λf hf=>by have:=List.mem_range.1 hf;simp;omega]
      simp
     ·rw[ih (by omega)]
      have:¬m=b:=λe=>hbm e.symm
      simp[this]
   exact e4 n hb
 rw[e2]
 split <;> rfl
def dv (G:Rg) (a b:Nat) (k:KS):KS:=(k.deliver G.W a b).2
theorem ZQ5 {l:List Zn} (hh:Acc G r k N B Q c) (ha:a<G.n) (hb:b<G.n) (hab:a≠b) (hk:(G.κ a&&G.κ b)=false) (hN:N b=G.nd b h tl v J wt) (hq:Q a b=bdI t b::l) (ht:0≤t∧t≤1000000) (h0:0≤h a) (hle:h a≤t) :
  Acc G r (dv G a b k) (upd N b (G.nd b (upd h a t) tl v J wt)) B (ZO2 Q a b l) c:=by
 unfold dv
 cases hkb:G.κ b with
 | false=>
  rw[ZO5 hkb] at hN ⊢
  have h1:=ZP1 (wt:=wt) (J:=J) (tl:=tl) hab ha ht hle
  have h2:=ZOl hh ha hb hq hN h1.1
  rw[h1.2] at h2
  exact h2
 | true=>
  have hka:G.κ a=false:=by
   cases hka:G.κ a with
   | false=>rfl
   | true=>rw[hka,hkb] at hk;cases hk
  rw[ZOK hkb] at hN ⊢
  have h1:=ZQu (wt:=wt) (J:=J) (v:=v) hab ha hka ht h0 hle
  have h2:=ZOj hh ha hb hq hN (by rw[h1]) (by rw[h1]) rfl
  rw[h1] at h2
  exact h2
theorem ZP4 {l:List Zn} {col:Int} (ok:G.Ok) (hh:Acc G r k N B Q c) (ha:a<G.n) (hb:b<G.n) (hab:a≠b) (hNa:(N a).isBold=G.κ a) (hN:N b=G.nd b h tl v J false) (hq:Q a b=⟨0,G.mq J,col⟩::l)
  (hv:G.κ b=true→v≤G.tq J) (h0:(G.κ a&&G.κ b)=false→0≤h a∧h a≤G.tq J) (hc:(G.κ a&&G.κ b)=true→∃cc,c=some cc) :
  Acc G r (dv G a b k) (upd N b (G.nd b h tl v J true)) B (ZO2 Q a b l) (if (G.κ a&&G.κ b)=true then c.map λcc=>cc.got col else c):=by
 unfold dv
 cases hkb:G.κ b with
 | false=>
  rw[ZO5 hkb] at hN ⊢
  rw[hkb,Bool.and_false] at h0
  have h1:=ZQY (J:=J) (tl:=tl) hab ha (h0 rfl).1 (h0 rfl).2 col
  have h2:=ZOl hh ha hb hq hN h1.1
  rw[h1.2] at h2
  rw[Bool.and_false,if_neg (by decide)]
  exact h2
 | true=>
  rw[ZOK hkb] at hN ⊢
  have h1:=ZQ4 (h:=h) (v:=v) ok hab ha (hv hkb) (λhka=>h0 (by rw[hka];rfl)) col
  cases hka:G.κ a with
  | false=>
   rw[Bool.false_and,if_neg (by decide)]
   have h2:=ZOj hh ha hb hq hN (by rw[h1]) (by rw[h1]) (by rw[hNa,hka];rfl)
   rw[h1] at h2
   exact h2
  | true=>
   rw[Bool.true_and,if_pos rfl]
   obtain ⟨cc,rfl⟩:=hc (by rw[hka,hkb];rfl)
   have h2:=ZPf hh ha hb hq hN (by rw[h1]) (by rw[h1]) (by rw[hNa,hka];rfl)
   rw[h1] at h2
   exact h2
theorem ZQF (hh:Acc G r k N B Q c) (ha:a<G.n) (hb:b<G.n) (hq:Q a b=[]) (n:Nat):rep (dv G a b) n k=k:=by
 refine ZPr ?_ n
 unfold dv KS.deliver
 rw[hh.q a b ha hb,hq]
theorem ZRu (hh:Acc G r k N B Q c) (ha:a<G.n) (hb:B a=[]) (n:Nat):rep (flA a) n k=k:=by
 refine ZPr ?_ n
 unfold flA KS.flush
 rw[hh.bx a ha,hb]
def ZNW (m:Nat) (g v lst:Int):CL:=⟨g,g,List.replicate m g,List.replicate m g,0,0,lst,v⟩
theorem ZQb {m rk:Nat} {g v lst T:Int} (hrk:rk<m):CL.got (CL.sent (ZNW m g v lst) rk T) ((ZNW m g v lst).t rk % 2)=ZNW m g v lst:=by
 have ht:(ZNW m g v lst).t rk=g:=by
  show (List.replicate m g).getD rk 0=g
  rw[List.getD_eq_getElem?_getD,List.getElem?_replicate,if_pos hrk]
  rfl
 have hs:CL.sent (ZNW m g v lst) rk T=(ZNW m g v lst).setOn (g % 2) ((ZNW m g v lst).on (g % 2)+1):=by
  unfold CL.sent
  rw[if_neg (by show ¬(g<g∧_);omega),ht]
 rw[hs,ht]
 rcases (show g % 2=0∨g % 2=1 by omega) with e | e
 ·rw[e]
  rfl
 ·rw[e]
  rfl
variable {H:Nat→Int} {w:Bool}
theorem ZQV (x:Int):G.nd a (upd H a x) tl v J w=G.nd a H tl v J w:=by
 unfold Rg.nd
 cases hk:G.κ a with
 | true=>
  unfold Rg.ndB
  rw[ZOH hk]
  rfl
 | false=>
  unfold Rg.ndS
  have:G.clkS a (upd H a x)=G.clkS a H:=by
   unfold Rg.clkS
   refine List.map_congr_left λc _=>?_
   by_cases hc:c=a
   ·rw[if_pos hc,if_pos hc]
   ·rw[if_neg hc,if_neg hc,ZNM hc]
  rw[this]
  rfl
theorem ZQX (hk:(G.κ a&&G.κ b)=true) (x:Int):G.nd b (upd H a x) tl v J w=G.nd b H tl v J w:=by
 simp only[Bool.and_eq_true] at hk
 rw[ZOK hk.2,ZOK hk.2]
 unfold Rg.ndB
 rw[ZOH hk.1]
theorem ZQt (a:Nat):upd H a (H a)=H:=by
 funext i
 by_cases hi:i=a
 ·subst hi;exact ZNL _ _ _
 ·exact ZNM hi
theorem ZRr (ok:G.Ok) (a:Nat):G.sx a≠a:=by
 unfold Rg.sx
 rcases ZN5 ok with e | e | e <;> rw[e] <;> omega
theorem ZRD (ok:G.Ok) (ha:a<G.n) (hb:b<G.n) (hab:a≠b) {tb tk:Bool} {col:Int} (hh:Acc G r k N B Q c) (hNa:(N a).isBold=G.κ a) (hN:N b=G.nd b H tl v J w)
  (hq:Q a b=(if (tb&&!(G.κ a&&G.κ b))=true then [bdI t b] else [])++(if (tk&&decide (b=G.sx a))=true then [(⟨0,G.mq J,col⟩:Zn)] else []))
  (ht:tb=true→(0≤t∧t≤1000000)∧H a≤t) (h0:0≤H a)
  (htk:(tk&&decide (b=G.sx a))=true→w=false∧(G.κ b=true→v≤G.tq J)∧((G.κ a&&G.κ b)=false→(if tb=true then t else H a)≤G.tq J))
  (hc:(tk&&decide (b=G.sx a))=true→(G.κ a&&G.κ b)=true→∃cc,c=some cc) :
  Acc G r (rep (dv G a b) 8 k) (upd N b (G.nd b (upd H a (if tb=true then t else H a)) tl v J (w || (tk&&decide (b=G.sx a))))) B (ZO2 Q a b [])
   (if (tk&&decide (b=G.sx a))=true∧(G.κ a&&G.κ b)=true then c.map λcc=>cc.got col else c):=by
 have hA:∃(m1:Nat) (N1:Nat→Nd),m1≤1∧N1 b=G.nd b (upd H a (if tb=true then t else H a)) tl v J w∧(∀x,x≠b→N1 x=N x)∧
   Acc G r (rep (dv G a b) m1 k) N1 B (ZO2 Q a b (if (tk&&decide (b=G.sx a))=true then [(⟨0,G.mq J,col⟩:Zn)] else [])) c:=by
  cases hA:(tb&&!(G.κ a&&G.κ b)) with
  | true=>
   rw[hA,if_pos rfl] at hq
   simp only[Bool.and_eq_true,Bool.not_eq_true'] at hA
   obtain ⟨h1,h2⟩:=ht hA.1
   have h3:=ZQ5 hh ha hb hab hA.2 hN hq h1 h0 h2
   refine ⟨1,_,Nat.le_refl _,?_,λx hx=>ZNM hx,h3⟩
   rw[ZNL,if_pos hA.1]
  | false=>
   rw[hA,if_neg (by decide),List.nil_append] at hq
   refine ⟨0,N,Nat.zero_le _,?_,λ_ _=>rfl,hh.congr (λ_ _=>rfl) (λ_ _=>rfl) λi j _ _=>?_⟩
   ·rw[hN]
    cases htb:tb with
    | false=>rw[if_neg (by decide),ZQt]
    | true=>
     rw[htb,Bool.true_and] at hA
     have hk:(G.κ a&&G.κ b)=true:=by simpa using hA
     rw[ZQX hk]
   ·by_cases hij:i=a∧j=b
    ·obtain ⟨rfl,rfl⟩:=hij
     rw[ZNV,hq]
    ·rw[ZNQ hij]
 obtain ⟨m1,N1,hm1,hN1,hNo,h1⟩:=hA
 have hB:∃(m2:Nat),m2≤1∧Acc G r (rep (dv G a b) m2 (rep (dv G a b) m1 k)) (upd N1 b (G.nd b (upd H a (if tb=true then t else H a)) tl v J (w || (tk&&decide (b=G.sx a))))) B (ZO2 Q a b [])
   (if (tk&&decide (b=G.sx a))=true∧(G.κ a&&G.κ b)=true then c.map λcc=>cc.got col else c):=by
  cases hT:(tk&&decide (b=G.sx a)) with
  | true=>
   rw[hT,if_pos rfl] at h1
   obtain ⟨t1,t2,t3⟩:=htk hT
   have h2:=ZP4 (l:=[]) (col:=col) ok h1 ha hb hab (by rw[hNo a hab];exact hNa) (by rw[hN1,t1]) (ZNV _ _ _ _) t2 (λhk=>by
    rw[ZNL]
    refine ⟨?_,t3 hk⟩
    cases htb:tb with
    | true=>rw[if_pos rfl];exact (ht htb).1.1
    | false=>rw[if_neg (by decide)];exact h0) (hc hT)
   refine ⟨1,Nat.le_refl _,?_⟩
   have h3:Acc G r (rep (dv G a b) 1 (rep (dv G a b) m1 k)) _ _ _ _:=h2
   rw[Bool.or_true]
   have e:(if true=true∧(G.κ a&&G.κ b)=true then c.map λcc=>cc.got col else c)=if (G.κ a&&G.κ b)=true then c.map λcc=>cc.got col else c:=by simp only[true_and]
   rw[e]
   refine h3.congr (λ_ _=>rfl) (λ_ _=>rfl) λi j _ _=>?_
   by_cases hij:i=a∧j=b
   ·obtain ⟨rfl,rfl⟩:=hij
    rw[ZNV,ZNV]
   ·rw[ZNQ hij,ZNQ hij,ZNQ hij]
  | false=>
   rw[hT,if_neg (by decide)] at h1
   refine ⟨0,Nat.zero_le _,?_⟩
   rw[if_neg (show ¬(false=true∧(G.κ a&&G.κ b)=true) by simp),Bool.or_false]
   refine h1.congr (λx _=>?_) (λ_ _=>rfl) λ_ _ _ _=>rfl
   by_cases hx:x=b
   ·subst hx;rw[ZNL,hN1]
   ·rw[ZNM hx]
 obtain ⟨m2,hm2,h2⟩:=hB
 have e8:rep (dv G a b) 8 k=rep (dv G a b) (8 - m1 - m2) (rep (dv G a b) m2 (rep (dv G a b) m1 k)):=by
  rw[←ZOr,←ZOr]
  congr 1
  omega
 rw[e8,ZQF h2 ha hb (ZNV _ _ _ _)]
 refine h2.congr (λx _=>?_) (λ_ _=>rfl) λ_ _ _ _=>rfl
 by_cases hx:x=b
 ·subst hx;rw[ZNL,ZNL]
 ·rw[ZNM hx,ZNM hx,hNo x hx]
theorem ZRE (ok:G.Ok) (ha:a<G.n) {tlv:Nat→Int} {wt:Nat→Bool} {tb tk:Bool} (hr:2≤r) (hh:Acc G r k (λb=>G.nd b H (tlv b) v J (wt b)) B (λ_ _=>[]) c)
  (hB:B a=(if tb=true then ZOA G.n G.κ a t else [])++(if tk=true then [Zae (G.mq J)] else []))
  (ht:tb=true→(0≤t∧t≤1000000)∧H a≤t) (h0:0≤H a)
  (htk:tk=true→J % G.n=a∧wt (G.sx a)=false∧(G.κ (G.sx a)=true→v≤G.tq J)∧((G.κ a&&G.κ (G.sx a))=false→(if tb=true then t else H a)≤G.tq J))
  (hc:G.κ a=true→∃m g v' lst,c=some (ZNW m g v' lst)∧Zcz G.W a<m) :
  Acc G r (ZOM G.n (λk b=>rep (dv G a b) 8 k) (rep (flA a) 16 k)) (λb=>G.nd b (upd H a (if tb=true then t else H a)) (tlv b) v J (wt b || (tk&&decide (b=G.sx a)))) (upd B a []) (λ_ _=>[]) c:=by
 have hsx:=ZQk ok a
 have hsn:=ZRr ok a
 generalize hl:(if tb=true then ZOA G.n G.κ a t else [])=l at hB
 have hlf:∀b,b<G.n→l.filter (λi=>decide (i.m.To=(b:Int)))=if b=a then [] else if (tb&&!(G.κ a&&G.κ b))=true then [bdI t b] else []:=by
  intro b hb
  rw[←hl]
  cases tb with
  | false=>by_cases hba:b=a <;> simp[hba]
  | true=>
   rw[if_pos rfl,ZRg hb]
   by_cases hba:b=a
   ·rw[if_pos (.inl hba),if_pos hba]
   ·rw[if_neg hba]
    cases hk:(G.κ a&&G.κ b) with
    | true=>rw[if_pos (.inr rfl),if_neg (by decide)]
    | false=>rw[if_neg (by simp[hba]),if_pos (by rfl)]
 have hll:l.length≤4:=by
  rw[←hl]
  have:=ok.n
  split
  ·unfold ZOA
   rw[List.length_map]
   exact Nat.le_trans (List.length_filter_le _ _) (by rw[List.length_range];omega)
  ·exact Nat.zero_le _
 have h1:=ZOC l (rest:=if tk=true then [Zae (G.mq J)] else []) hh ha hB (λi hi=>by
  rw[←hl] at hi
  split at hi
  ·exact ZPA i hi
  ·cases hi) (λb hb=>by
  rw[hlf b hb]
  show 0+_≤r
  split
  ·simp
  ·split <;> simp <;> omega)
 have hka:(G.nd a H (tlv a) v J (wt a)).isBold=G.κ a:=ZN1 ..
 have hT:∃(m2:Nat) (col:Int) (c1:Option CL),m2≤1∧(tk=true→(G.κ a&&G.κ (G.sx a))=true→(∃cc,c1=some cc)∧(c1.map λcc=>cc.got col)=c)∧(¬(tk=true∧(G.κ a&&G.κ (G.sx a))=true)→c1=c)∧
   Acc G r (rep (flA a) m2 (rep (flA a) l.length k)) (λb=>G.nd b H (tlv b) v J (wt b)) (upd B a []) (λi j=>if i=a∧j≠a then (if (tb&&!(G.κ a&&G.κ j))=true then [bdI t j] else [])++(if (tk&&decide (j=G.sx a))=true then [(⟨0,G.mq J,col⟩:Zn)] else []) else []) c1:=by
  cases htk2:tk with
  | false=>
   rw[htk2] at h1
   refine ⟨0,0,c,Nat.zero_le _,λh=>(by cases h),λ_=>rfl,h1.congr (λ_ _=>rfl) (λ_ _=>rfl) λi j hi hj=>?_⟩
   by_cases hia:i=a
   ·subst hia
    rw[if_pos rfl,hlf j hj]
    by_cases hja:j=i
    ·rw[if_pos hja,if_neg (by simp[hja])];rfl
    ·rw[if_neg hja,if_pos (show i=i∧j≠i from ⟨rfl,hja⟩)]
     simp
   ·rw[if_neg hia,if_neg λhh=>hia hh.1]
  | true=>
   rw[htk2,if_pos rfl] at h1
   obtain ⟨hJa,_,_,_⟩:=htk htk2
   have hto:(Zae (G.mq J)).m.To=((G.sx a:Nat):Int):=by
    show (((J+1) % G.n:Nat):Int)=(((a+1) % G.n:Nat):Int)
    rw[←hJa,Nat.mod_add_mod]
   have hlen:(if a=a then ([]:List Zn)++l.filter (λi=>decide (i.m.To=((G.sx a:Nat):Int))) else []).length<r:=by
    rw[if_pos rfl,List.nil_append,hlf _ hsx,if_neg hsn]
    split <;> simp <;> omega
   have hfin:∀(i0:Zn) (i j:Nat),i<G.n→j<G.n→ZO2 (λi j=>if i=a then ([]:List Zn)++l.filter (λi=>decide (i.m.To=(j:Int))) else []) a (G.sx a) ((if a=a then ([]:List Zn)++l.filter (λi=>decide (i.m.To=((G.sx a:Nat):Int))) else [])++[i0]) i j =
     if i=a∧j≠a then (if (tb&&!(G.κ a&&G.κ j))=true then [bdI t j] else [])++(if (true&&decide (j=G.sx a))=true then [i0] else []) else []:=by
    intro i0 i j hi hj
    by_cases hij:i=a∧j=G.sx a
    ·obtain ⟨rfl,rfl⟩:=hij
     rw[ZNV,if_pos rfl,if_pos ⟨rfl,hsn⟩,hlf _ hsx,if_neg hsn]
     simp
    ·rw[ZNQ hij]
     by_cases hia:i=a
     ·subst hia
      have hjs:j≠G.sx i:=λe=>hij ⟨rfl,e⟩
      rw[if_pos rfl,hlf j hj]
      by_cases hja:j=i
      ·rw[if_pos hja,if_neg (by simp[hja])];rfl
      ·rw[if_neg hja,if_pos (show i=i∧j≠i from ⟨rfl,hja⟩)]
       simp[hjs]
     ·rw[if_neg hia,if_neg λhh=>hia hh.1]
   cases hkk:(G.κ a&&G.κ (G.sx a)) with
   | false=>
    have h2:=ZO8 (i:=Zae (G.mq J)) (l:=[]) h1 ha hsx hsn (ZNL _ _ _) hto hlen (by
     show (!decide ((0:Int)=2)&&(G.nd a H (tlv a) v J (wt a)).isBold&&(G.nd (G.sx a) H (tlv (G.sx a)) v J (wt (G.sx a))).isBold)=false
     rw[ZN1,ZN1,Bool.and_assoc,hkk]
     rfl)
    refine ⟨1,0,c,Nat.le_refl _,λ_ h=>(by cases h),λ_=>rfl,h2.congr (λ_ _=>rfl) (λx _=>?_) λi j hi hj=>hfin _ i j hi hj⟩
    by_cases hx:x=a
    ·subst hx;rw[ZNL,ZNL]
    ·rw[ZNM hx,ZNM hx,ZNM hx]
   | true=>
    have hka2:G.κ a=true:=by simp only[Bool.and_eq_true] at hkk;exact hkk.1
    obtain ⟨m,g,v',lst,rfl,hrk⟩:=hc hka2
    have h2:=ZQj (i:=Zae (G.mq J)) (l:=[]) h1 ha hsx hsn (ZNL _ _ _) hto hlen (by
     show (!decide ((0:Int)=2)&&(G.nd a H (tlv a) v J (wt a)).isBold&&(G.nd (G.sx a) H (tlv (G.sx a)) v J (wt (G.sx a))).isBold)=true
     rw[ZN1,ZN1,Bool.and_assoc,hkk]
     rfl)
    have hrank:(G.nd a H (tlv a) v J (wt a)).rank=Zcz G.W a:=by rw[ZOK hka2];rfl
    refine ⟨1,(ZNW m g v' lst).t (Zcz G.W a) % 2,some (CL.sent (ZNW m g v' lst) (Zcz G.W a) (G.mq J).key.T),Nat.le_refl _,λ_ _=>⟨⟨_,rfl⟩,?_⟩,λh=>absurd ⟨rfl,rfl⟩ h,?_⟩
    ·exact congrArg some (ZQb hrk)
    ·rw[hrank] at h2
     refine h2.congr (λ_ _=>rfl) (λx _=>?_) λi j hi hj=>hfin _ i j hi hj
     by_cases hx:x=a
     ·subst hx;rw[ZNL,ZNL]
     ·rw[ZNM hx,ZNM hx,ZNM hx]
 obtain ⟨m2,col,c1,hm2,hc1,hc2,h2⟩:=hT
 have e16:rep (flA a) 16 k=rep (flA a) (16 - l.length - m2) (rep (flA a) m2 (rep (flA a) l.length k)):=by
  rw[←ZOr,←ZOr]
  congr 1
  omega
 rw[e16,ZRu h2 ha (ZNL _ _ _)]
 generalize rep (flA a) m2 (rep (flA a) l.length k)=k2 at h2
 have key:=ZNT (n:=G.n) (k:=k2) (f:=λk b=>rep (dv G a b) 8 k)
  (P:=λb k=>Acc G r k (λx=>if x<b then G.nd x (upd H a (if tb=true then t else H a)) (tlv x) v J (wt x || (tk&&decide (x=G.sx a))) else G.nd x H (tlv x) v J (wt x)) (upd B a [])
   (λi j=>if i=a∧j≠a∧b≤j then (if (tb&&!(G.κ a&&G.κ j))=true then [bdI t j] else [])++(if (tk&&decide (j=G.sx a))=true then [(⟨0,G.mq J,col⟩:Zn)] else []) else []) (if tk=true∧(G.κ a&&G.κ (G.sx a))=true∧G.sx a<b then c else c1)) ?_ ?_
 ·have ec:(if tk=true∧(G.κ a&&G.κ (G.sx a))=true∧G.sx a<G.n then c else c1)=c:=by
   by_cases hh:tk=true∧(G.κ a&&G.κ (G.sx a))=true
   ·rw[if_pos ⟨hh.1,hh.2,hsx⟩]
   ·rw[if_neg λh=>hh ⟨h.1,h.2.1⟩]
    exact hc2 hh
  rw[ec] at key
  exact key.congr (λx hx=>if_pos hx) (λ_ _=>rfl) λi j hi hj=>if_neg (by omega)
 ·intro b k3 hb h3
  by_cases hba:b=a
  ·subst hba
   rw[ZQF h3 ha ha (if_neg (by simp)) 8]
   have ec:(if tk=true∧(G.κ b&&G.κ (G.sx b))=true∧G.sx b<b then c else c1)=if tk=true∧(G.κ b&&G.κ (G.sx b))=true∧G.sx b<b+1 then c else c1:=by
    have:G.sx b<b↔G.sx b<b+1:=by omega
    simp only[this]
   rw[←ec]
   refine h3.congr (λx hx=>?_) (λ_ _=>rfl) λi j hi hj=>?_
   ·by_cases hxb:x=b
    ·subst hxb
     rw[if_neg (show ¬x<x by omega),if_pos (show x<x+1 by omega),ZQV,decide_eq_false (λe=>hsn e.symm),Bool.and_false,Bool.or_false]
    ·by_cases hlt:x<b
     ·rw[if_pos hlt,if_pos (show x<b+1 by omega)]
     ·rw[if_neg hlt,if_neg (show ¬x<b+1 by omega)]
   ·by_cases hh:i=b∧j≠b∧b≤j
    ·rw[if_pos hh,if_pos (show i=b∧j≠b∧b+1≤j by omega)]
    ·rw[if_neg hh,if_neg (show ¬(i=b∧j≠b∧b+1≤j) by omega)]
  ·have h4:=ZRD (tb:=tb) (tk:=tk) (t:=t) (col:=col) (H:=H) (tl:=tlv b) (v:=v) (J:=J) (w:=wt b) ok ha hb (λe=>hba e.symm) h3 (by
     by_cases hlt:a<b
     ·rw[if_pos hlt,ZN1]
     ·rw[if_neg hlt,ZN1]) (if_neg (by omega)) (if_pos ⟨rfl,hba,Nat.le_refl _⟩) ht h0 (λhT=>by
     simp only[Bool.and_eq_true,decide_eq_true_eq] at hT
     obtain ⟨_,t1,t2,t3⟩:=htk hT.1
     rw[hT.2]
     exact ⟨t1,t2,t3⟩) (λhT hk=>by
     simp only[Bool.and_eq_true,decide_eq_true_eq] at hT
     rw[hT.2] at hk
     obtain ⟨h5,_⟩:=hc1 hT.1 (by simpa using hk)
     rw[if_neg (by omega)]
     exact h5)
   have ec:(if (tk&&decide (b=G.sx a))=true∧(G.κ a&&G.κ b)=true then (if tk=true∧(G.κ a&&G.κ (G.sx a))=true∧G.sx a<b then c else c1).map λcc=>cc.got col else (if tk=true∧(G.κ a&&G.κ (G.sx a))=true∧G.sx a<b then c else c1)) =
     if tk=true∧(G.κ a&&G.κ (G.sx a))=true∧G.sx a<b+1 then c else c1:=by
    by_cases hbs:b=G.sx a
    ·by_cases hh:tk=true∧(G.κ a&&G.κ (G.sx a))=true
     ·rw[if_pos (by rw[hbs];simp[hh.1];simpa using hh.2),if_neg (by omega),if_pos ⟨hh.1,hh.2,by omega⟩]
      exact (hc1 hh.1 hh.2).2
     ·rw[if_neg (by rw[hbs];simp;intro h5;simpa [h5] using hh),if_neg (by omega),if_neg λh=>hh ⟨h.1,h.2.1⟩]
    ·rw[if_neg (by simp[hbs])]
     have:G.sx a<b↔G.sx a<b+1:=by omega
     simp only[this]
   rw[ec] at h4
   refine h4.congr (λx hx=>?_) (λ_ _=>rfl) λi j hi hj=>?_
   ·by_cases hxb:x=b
    ·subst hxb;rw[ZNL,if_pos (show x<x+1 by omega)]
    ·rw[ZNM hxb]
     by_cases hlt:x<b
     ·rw[if_pos hlt,if_pos (show x<b+1 by omega)]
     ·rw[if_neg hlt,if_neg (show ¬x<b+1 by omega)]
   ·by_cases hij:i=a∧j=b
    ·obtain ⟨rfl,rfl⟩:=hij
     rw[ZNV,if_neg (show ¬(i=i∧j≠i∧j+1≤j) by omega)]
    ·rw[ZNQ hij]
     by_cases hh:i=a∧j≠a∧b≤j
     ·rw[if_pos hh,if_pos (show i=a∧j≠a∧b+1≤j by omega)]
     ·rw[if_neg hh,if_neg (show ¬(i=a∧j≠a∧b+1≤j) by omega)]
 ·have ec:(if tk=true∧(G.κ a&&G.κ (G.sx a))=true∧G.sx a<0 then c else c1)=c1:=if_neg (by omega)
  rw[ec]
  refine h2.congr (λx hx=>by rw[if_neg (by omega)]) (λ_ _=>rfl) λi j hi hj=>?_
  by_cases hh:i=a∧j≠a
  ·rw[if_pos hh,if_pos (show i=a∧j≠a∧0≤j from ⟨hh.1,hh.2,Nat.zero_le _⟩)]
  ·rw[if_neg hh,if_neg (λh:i=a∧j≠a∧0≤j=>hh ⟨h.1,h.2.1⟩)]
variable {tl:Nat→Int}
def Rg.pt (G:Rg) (J:Nat):Nat:=(J+1) % G.n
theorem ZPX (ok:G.Ok) (J:Nat):G.pt J<G.n:=Nat.mod_lt _ (by have:=ok.n;omega)
theorem ZO9 (J:Nat):G.sx (J % G.n)=G.pt J:=Nat.mod_add_mod ..
def bxR (G:Rg) (h tl:Nat→Int) (J:Nat) (inB:Bool) (a:Nat):List Zn:=(if (decide (h a<tl a))=true then ZOA G.n G.κ a (tl a) else [])++(if (inB&&decide (a=J % G.n))=true then [Zae (G.mq J)] else [])
def ph1 (G:Rg) (k:KS):KS:=ZOM G.n (λk a=>ZOM G.n (λk b=>rep (dv G a b) 8 k) (rep (flA a) 16 k)) k
def ZQA (G:Rg) (c:Option CL):Prop:=∀a,a<G.n→G.κ a=true→∃m g v' lst,c=some (ZNW m g v' lst)∧Zcz G.W a<m
theorem ZRc (ok:G.Ok) (hr:2≤r) {inB gt:Bool} (hg:¬(inB=true∧gt=true)) (hh:Acc G r k (λb=>G.nd b h (tl b) v J (!gt&&!inB&&decide (b=G.pt J))) (bxR G h tl J inB) (λ_ _=>[]) c)
  (hle:∀a,a<G.n→0≤h a∧h a≤tl a∧tl a≤1000000) (hB:inB=true→(G.κ (G.pt J)=true→v≤G.tq J)∧tl (J % G.n)≤G.tq J) (hc:ZQA G c) :
  Acc G r (ph1 G k) (λb=>G.nd b tl (tl b) v J (!gt&&decide (b=G.pt J))) (λ_=>[]) (λ_ _=>[]) c:=by
 have hn:=ok.n
 have hs:J % G.n<G.n:=Nat.mod_lt _ (by omega)
 have key:=ZNT (n:=G.n) (k:=k) (f:=λk a=>ZOM G.n (λk b=>rep (dv G a b) 8 k) (rep (flA a) 16 k))
  (P:=λa k=>Acc G r k (λb=>G.nd b (λc=>if c<a then tl c else h c) (tl b) v J ((!gt&&!inB&&decide (b=G.pt J)) || ((inB&&decide (J % G.n<a))&&decide (b=G.pt J)))) (λx=>if x<a then [] else bxR G h tl J inB x) (λ_ _=>[]) c) ?_ ?_
 ·refine key.congr (λx hx=>?_) (λx hx=>if_pos hx) λ_ _ _ _=>rfl
  have e1:((!gt&&!inB&&decide (x=G.pt J)) || ((inB&&decide (J % G.n<G.n))&&decide (x=G.pt J)))=(!gt&&decide (x=G.pt J)):=by
   rw[decide_eq_true hs]
   cases inB <;> cases gt <;> simp at hg ⊢
  rw[e1]
  have e2:∀(w:Bool),G.nd x (λc=>if c<G.n then tl c else h c) (tl x) v J w=G.nd x tl (tl x) v J w:=by
   intro w
   have e3:G.clkS x (λc=>if c<G.n then tl c else h c)=G.clkS x tl:=by
    unfold Rg.clkS
    refine List.map_congr_left λc hc=>?_
    show (if c=x then (0:Int) else if c<G.n then tl c else h c)=_
    rw[if_pos (List.mem_range.1 hc)]
   have e4:G.clkB (λc=>if c<G.n then tl c else h c)=G.clkB tl:=by
    unfold Rg.clkB
    refine List.map_congr_left λc hc=>?_
    show (if G.κ c=true then (-1:Int) else if c<G.n then tl c else h c)=_
    rw[if_pos (List.mem_range.1 hc)]
   unfold Rg.nd Rg.ndS Rg.ndB
   rw[e3,e4]
  exact e2 _
 ·intro a k1 ha h1
  have hla:=hle a ha
  have h2:=ZRE (H:=λc=>if c<a then tl c else h c) (tb:=decide (h a<tl a)) (tk:=inB&&decide (a=J % G.n)) (t:=tl a) ok ha hr h1 (by rw[if_neg (by omega)];rfl)
   (λ_=>⟨⟨by omega,hla.2.2⟩,by rw[if_neg (by omega)];exact hla.2.1⟩) (by rw[if_neg (by omega)];exact hla.1) (λhk=>by
    simp only[Bool.and_eq_true,decide_eq_true_eq] at hk
    obtain ⟨hk1,hk2⟩:=hk
    have hk3:=hB hk1
    have hsx:G.sx a=G.pt J:=by rw[hk2];exact ZO9 J
    refine ⟨hk2.symm,?_,?_,λ_=>?_⟩
    ·rw[hsx,hk1,decide_eq_true (rfl:G.pt J=G.pt J),decide_eq_false (by omega)]
     cases gt <;> rfl
    ·rw[hsx];exact hk3.1
    ·rw[←hk2] at hk3
     split
     ·exact hk3.2
     ·rw[if_neg (by omega)];omega) (hc a ha)
  refine h2.congr (λx hx=>?_) (λx hx=>?_) λ_ _ _ _=>rfl
  ·have e1:upd (λc=>if c<a then tl c else h c) a (if decide (h a<tl a)=true then tl a else if a<a then tl a else h a)=λc=>if c<a+1 then tl c else h c:=by
    funext i
    by_cases hi:i=a
    ·subst hi
     rw[ZNL]
     show (if decide (h i<tl i)=true then tl i else if i<i then tl i else h i)=if i<i+1 then tl i else h i
     rw[if_neg (show ¬i<i by omega),if_pos (show i<i+1 by omega)]
     by_cases hlt:h i<tl i
     ·rw[if_pos (by simpa using hlt)]
     ·rw[if_neg (by simpa using hlt)];omega
    ·rw[ZNM hi]
     by_cases hlt:i<a
     ·rw[if_pos hlt,if_pos (by omega)]
     ·rw[if_neg hlt,if_neg (by omega)]
   rw[e1]
   congr 1
   by_cases haJ:a=J % G.n
   ·have hsx:G.sx a=G.pt J:=by rw[haJ];exact ZO9 J
    rw[hsx,decide_eq_true haJ,decide_eq_false (show ¬J % G.n<a by omega),decide_eq_true (show J % G.n<a+1 by omega)]
    cases inB <;> cases gt <;> simp
   ·rw[decide_eq_false haJ,Bool.and_false,Bool.false_and,Bool.or_false]
    have:J % G.n<a↔J % G.n<a+1:=by omega
    simp only[this]
  ·by_cases hxa:x=a
   ·subst hxa;rw[ZNL,if_pos (by omega)]
   ·rw[ZNM hxa]
    by_cases hlt:x<a
    ·rw[if_pos hlt,if_pos (by omega)]
    ·rw[if_neg hlt,if_neg (by omega)]
 ·refine hh.congr (λx hx=>?_) (λx hx=>by rw[if_neg (by omega)]) λ_ _ _ _=>rfl
  rw[decide_eq_false (show ¬J % G.n<0 by omega),Bool.and_false,Bool.false_and,Bool.or_false]
  have:(λc:Nat=>if c<0 then tl c else h c)=h:=by funext c;rw[if_neg (by omega)]
  rw[this]
theorem ZOV (a b d:Int):ZvS (ZaP [a,b]) d=ZvS (min a b) d:=by
 have h1:ZaP [a,b]=min (min 1125899906842624 (ZaD a)) (ZaD b):=rfl
 unfold ZvS
 congr 2
 rw[h1]
 unfold ZaD Inf Zsq
 (repeat' split) <;> omega
def Rg.bn (G:Rg) (tl:Nat→Int) (a:Nat):Int:=Clk.bound ⟨G.clkS a tl,a,tl a⟩
theorem ZRb (ok:G.Ok) (h:∀c,c<G.n→0≤tl c∧tl c≤1000):0≤G.bn tl a∧G.bn tl a≤1000:=by
 have hs:=ZQk ok a
 have hn:=ZRr ok a
 have h1:=ZPJ (h:=tl) (tl:=tl a) hs hn
 have h2:=h _ hs
 have h3:0≤Clk.bound ⟨G.clkS a tl,a,tl a⟩:=ZPv (by decide) λc hc _=>(h c hc).1
 unfold Rg.bn
 omega
def Rg.nw (G:Rg) (tl:Nat→Int) (v:Int) (J:Nat) (w:Bool) (a:Nat):Int:=if G.κ a then v+G.d a else min (if w then G.tq J else Inf) (G.bn tl a)+G.d a
theorem ZPT (ok:G.Ok) (hh:Acc G r k N B Q c) (ha:a<G.n) (hk:∀f,f<G.n→(N f).isBold=G.κ f) (hB:B a=[]) (hN:N a=G.nd a tl (tl a) v J w) (_hJ:J≤60) (hv:0≤v∧v≤1000) (ht:∀c,c<G.n→0≤tl c∧tl c≤1000) :
  Acc G r (k.tell G.W a).2 (upd N a (G.nd a tl (max (tl a) (G.nw tl v J w a)) v J w)) (upd B a (if tl a<G.nw tl v J w a then ZOA G.n G.κ a (G.nw tl v J w a) else [])) Q c:=by
 have hd:=ok.d a
 have same:∀{t:Int},¬tl a<t→Acc G r k (upd N a (G.nd a tl (max (tl a) t) v J w)) (upd B a (if tl a<t then ZOA G.n G.κ a t else [])) Q c:=by
  intro t hlt
  rw[if_neg hlt,show max (tl a) t=tl a by omega,←hN,←hB]
  refine hh.congr (λx _=>?_) (λx _=>?_) λ_ _ _ _=>rfl
  ·by_cases hx:x=a
   ·subst hx;rw[ZNL]
   ·rw[ZNM hx]
  ·by_cases hx:x=a
   ·subst hx;rw[ZNL]
   ·rw[ZNM hx]
 cases hka:G.κ a with
 | true=>
  have hw:G.nw tl v J w a=v+G.d a:=by unfold Rg.nw;rw[hka];rfl
  have hN':=hN
  rw[ZOK hka] at hN'
  have hp:Za6 (Zs G.W a) (G.ndB a tl v J w)=v+G.d a:=by
   unfold Za6
   rw[ZN2 ha]
   exact ZOB hv.1 (by show 0≤G.d a;omega) (by show v+G.d a≤_;omega)
  rw[hw]
  by_cases hlt:tl a<v+G.d a
  ·have h1:=ZPz hh ha hk hB hN' (by rw[hp];exact hlt)
   rw[hp] at h1
   rw[if_pos hlt,show max (tl a) (v+G.d a)=v+G.d a by omega,ZOK hka]
   exact h1
  ·rw[ZPG hh ha hN' (by rw[hp];exact hlt)]
   exact same hlt
 | false=>
  have hw:G.nw tl v J w a=min (if w then G.tq J else Inf) (G.bn tl a)+G.d a:=by unfold Rg.nw;rw[hka];rfl
  have hN':=hN
  rw[ZO5 hka] at hN'
  have hbn:=ZRb (a:=a) ok ht
  have htq:=ZOm ok J
  have hf:Zcd (G.ndS a tl (tl a) J w)=if w then G.tq J else Inf:=by cases w <;> rfl
  have hmin:0≤min (if w then G.tq J else Inf) (G.bn tl a)∧min (if w then G.tq J else Inf) (G.bn tl a)≤1000:=by
   unfold Inf
   cases w with
   | true=>rw[if_pos rfl];omega
   | false=>rw[if_neg (by decide)];omega
  have hp:(G.ndS a tl (tl a) J w).clk.tellT (Zcd (G.ndS a tl (tl a) J w)) (Zs G.W a).Look=G.nw tl v J w a:=by
   unfold Clk.tellT
   rw[ZOV,hf,ZN2 ha,hw]
   exact ZOB hmin.1 (by show 0≤G.d a;omega) (by show min (if w then G.tq J else Inf) (G.bn tl a)+G.d a≤_;omega)
  by_cases hlt:tl a<G.nw tl v J w a
  ·have h1:=ZPK hh ha hk hB hN' (by unfold Clk.tellB;rw[hp];exact decide_eq_true hlt)
   rw[hp] at h1
   rw[if_pos hlt,show max (tl a) (G.nw tl v J w a)=G.nw tl v J w a by omega,ZO5 hka]
   have h2:ZiG (Zs G.W a) (G.ndS a tl (tl a) J w)=G.ndS a tl (G.nw tl v J w a) J w:=by
    unfold ZiG Clk.tell
    rw[hp,if_neg (show ¬G.nw tl v J w a≤(G.ndS a tl (tl a) J w).clk.told by show ¬G.nw tl v J w a≤tl a;omega)]
    rfl
   rw[h2] at h1
   exact h1
  ·rw[ZPO hh ha hN' (by unfold Clk.tellB;rw[hp];exact decide_eq_false hlt)]
   exact same hlt
def Rg.tk (G:Rg) (tl:Nat→Int) (J:Nat) (gt:Bool):Bool:=!gt&&decide (G.tq J<G.E)&&(G.κ (G.pt J) || decide (G.tq J<G.bn tl (G.pt J)))
def Rg.so (G:Rg) (tl:Nat→Int) (J:Nat) (gt:Bool):Bool:=G.tk tl J gt&&!(G.κ (G.pt J)&&!G.κ (G.sx (G.pt J)))
def Rg.J2 (G:Rg) (tl:Nat→Int) (J:Nat) (gt:Bool):Nat:=if G.tk tl J gt=true then J+1 else J
def Rg.w2 (G:Rg) (tl:Nat→Int) (J:Nat) (gt:Bool) (a:Nat):Bool:=!gt&&!G.tk tl J gt&&decide (a=G.pt J)
def Rg.n2 (G:Rg) (tl:Nat→Int) (v:Int) (J:Nat) (gt:Bool) (a:Nat):Int:=G.nw tl v J (G.w2 tl J gt a) a
def Rg.t2 (G:Rg) (tl:Nat→Int) (v:Int) (J:Nat) (gt:Bool) (a:Nat):Int:=if (G.so tl J gt&&decide (a=G.pt J))=true then tl a else max (tl a) (G.n2 tl v J gt a)
def Rg.b2 (G:Rg) (tl:Nat→Int) (v:Int) (J:Nat) (gt:Bool) (a:Nat):List Zn:=if (G.so tl J gt&&decide (a=G.pt J))=true then [Zae (G.mq (J+1))] else if tl a<G.n2 tl v J gt a then ZOA G.n G.κ a (G.n2 tl v J gt a) else []
def ph2 (G:Rg) (k:KS):KS:=ZOM G.n (λk a=>((k.step G.W a).2.tell G.W a).2) k
theorem ZRl (ok:G.Ok) {gt:Bool} (hh:Acc G r k (λb=>G.nd b tl (tl b) v J (!gt&&decide (b=G.pt J))) (λ_=>[]) (λ_ _=>[]) c)
  (hJ:J≤40) (hv:0≤v∧v≤1000) (ht:∀c,c<G.n→0≤tl c∧tl c≤1000) (hvq:gt=false→G.κ (G.pt J)=true→v≤G.tq J) :
  Acc G r (ph2 G k) (λb=>G.nd b tl (G.t2 tl v J gt b) v (G.J2 tl J gt) (G.w2 tl J gt b)) (G.b2 tl v J gt) (λ_ _=>[]) c:=by
 have key:=ZNT (n:=G.n) (k:=k) (f:=λk a=>((k.step G.W a).2.tell G.W a).2)
  (P:=λa k=>Acc G r k (λb=>if b<a then G.nd b tl (G.t2 tl v J gt b) v (G.J2 tl J gt) (G.w2 tl J gt b) else G.nd b tl (tl b) v J (!gt&&decide (b=G.pt J))) (λb=>if b<a then G.b2 tl v J gt b else []) (λ_ _=>[]) c) ?_ ?_
 ·exact key.congr (λx hx=>if_pos hx) (λx hx=>if_pos hx) λ_ _ _ _=>rfl
 rotate_left
 ·exact hh.congr (λx _=>by rw[if_neg (by omega)]) (λx _=>by rw[if_neg (by omega)]) λ_ _ _ _=>rfl
 intro a k1 ha h1
 have hNa:(λb=>if b<a then G.nd b tl (G.t2 tl v J gt b) v (G.J2 tl J gt) (G.w2 tl J gt b) else G.nd b tl (tl b) v J (!gt&&decide (b=G.pt J))) a=G.nd a tl (tl a) v J (!gt&&decide (a=G.pt J)):=if_neg (by omega)
 have hBa:(λb=>if b<a then G.b2 tl v J gt b else []) a=[]:=if_neg (by omega)
 have hbold:∀f,f<G.n→((λb=>if b<a then G.nd b tl (G.t2 tl v J gt b) v (G.J2 tl J gt) (G.w2 tl J gt b) else G.nd b tl (tl b) v J (!gt&&decide (b=G.pt J))) f).isBold=G.κ f:=λf _=>by
  dsimp only
  split <;> exact ZN1 ..
 generalize hN1:(λb=>if b<a then G.nd b tl (G.t2 tl v J gt b) v (G.J2 tl J gt) (G.w2 tl J gt b) else G.nd b tl (tl b) v J (!gt&&decide (b=G.pt J)))=N1 at h1 hNa hbold
 generalize hB1:(λb=>if b<a then G.b2 tl v J gt b else [])=B1 at h1 hBa
 have fin:∀{k':KS} {N':Nd} {b':List Zn},Acc G r k' (upd N1 a N') (upd B1 a b') (λ_ _=>[]) c→N'=G.nd a tl (G.t2 tl v J gt a) v (G.J2 tl J gt) (G.w2 tl J gt a)→b'=G.b2 tl v J gt a→
   Acc G r k' (λb=>if b<a+1 then G.nd b tl (G.t2 tl v J gt b) v (G.J2 tl J gt) (G.w2 tl J gt b) else G.nd b tl (tl b) v J (!gt&&decide (b=G.pt J))) (λb=>if b<a+1 then G.b2 tl v J gt b else []) (λ_ _=>[]) c:=by
  intro k' N' b' h e1 e2
  refine h.congr (λx _=>?_) (λx _=>?_) λ_ _ _ _=>rfl
  ·by_cases hx:x=a
   ·subst hx;rw[ZNL,if_pos (show x<x+1 by omega)];exact e1
   ·rw[ZNM hx,←hN1]
    dsimp only
    by_cases hlt:x<a
    ·rw[if_pos hlt,if_pos (show x<a+1 by omega)]
    ·rw[if_neg hlt,if_neg (show ¬x<a+1 by omega)]
  ·by_cases hx:x=a
   ·subst hx;rw[ZNL,if_pos (show x<x+1 by omega)];exact e2
   ·rw[ZNM hx,←hB1]
    dsimp only
    by_cases hlt:x<a
    ·rw[if_pos hlt,if_pos (show x<a+1 by omega)]
    ·rw[if_neg hlt,if_neg (show ¬x<a+1 by omega)]
 by_cases hT:G.tk tl J gt=true∧a=G.pt J
 ·-- it takes
  obtain ⟨hT,haJ⟩:=hT
  have hT':=hT
  unfold Rg.tk at hT'
  simp only[Bool.and_eq_true,Bool.not_eq_true',decide_eq_true_eq] at hT'
  obtain ⟨⟨hgt,hE⟩,hbd⟩:=hT'
  have hJ2:G.J2 tl J gt=J+1:=if_pos hT
  have hw2:G.w2 tl J gt a=false:=by unfold Rg.w2;rw[hT];simp
  have hpa:(J+1) % G.n=a:=haJ.symm
  have hwa:(!gt&&decide (a=G.pt J))=true:=by rw[hgt,decide_eq_true haJ];rfl
  rw[hwa] at hNa
  cases hka:G.κ a with
  | false=>
   rw[←haJ,hka] at hbd
   simp only[Bool.false_or,decide_eq_true_eq] at hbd
   have hso:(G.so tl J gt&&decide (a=G.pt J))=true:=by unfold Rg.so;rw[hT,←haJ,hka,decide_eq_true rfl];rfl
   rw[ZO5 hka] at hNa
   have h2:=ZPI h1 ha hBa hNa (ZRp hbd hE)
   obtain ⟨t1,t2⟩:=ZRm (h:=tl) (tl:=tl a) ok ha hpa (by omega)
   rw[t1,t2] at h2
   rw[ZO3 h2 ha (by rw[ZNL];simp)]
   refine fin h2 ?_ ?_
   ·rw[hJ2,hw2,ZO5 hka]
    unfold Rg.t2
    rw[if_pos hso]
   ·unfold Rg.b2
    rw[if_pos hso]
    rfl
  | true=>
   rw[ZOK hka] at hNa
   obtain ⟨t1,t2,t3⟩:=ZRs (h:=tl) ok ha hpa (by omega) hE (hvq hgt (by rw[←haJ];exact hka))
   have h2:=ZPH h1 ha hBa hNa t1
   rw[t2,t3] at h2
   cases hks:G.κ (G.sx a) with
   | true=>
    rw[hks,if_pos rfl] at h2
    have hso:(G.so tl J gt&&decide (a=G.pt J))=true:=by unfold Rg.so;rw[hT,←haJ,hka,hks,decide_eq_true rfl];rfl
    rw[ZO3 h2 ha (by rw[ZNL];simp)]
    refine fin h2 ?_ ?_
    ·rw[hJ2,hw2,ZOK hka]
     unfold Rg.t2
     rw[if_pos hso]
    ·unfold Rg.b2
     rw[if_pos hso]
   | false=>
    rw[hks,if_neg (by decide)] at h2
    have hso:(G.so tl J gt&&decide (a=G.pt J))=false:=by unfold Rg.so;rw[hT,←haJ,hka,hks];rfl
    have h3:=ZPT (tl:=tl) (v:=v) (J:=J+1) (w:=false) ok h2 ha (λf hf=>by
     by_cases hfa:f=a
     ·subst hfa;rw[ZNL,hka];rfl
     ·rw[ZNM hfa];exact hbold f hf) (ZNL _ _ _) (by rw[ZNL,ZOK hka]) (by omega) hv ht
    have hn2:G.nw tl v (J+1) false a=G.n2 tl v J gt a:=by unfold Rg.n2 Rg.nw;rw[hka];rfl
    rw[hn2] at h3
    refine fin (N':=G.nd a tl (max (tl a) (G.n2 tl v J gt a)) v (J+1) false) (b':=if tl a<G.n2 tl v J gt a then ZOA G.n G.κ a (G.n2 tl v J gt a) else []) (h3.congr (λx _=>?_) (λx _=>?_) λ_ _ _ _=>rfl) ?_ ?_
    ·by_cases hx:x=a
     ·subst hx;rw[ZNL,ZNL]
     ·rw[ZNM hx,ZNM hx,ZNM hx]
    ·by_cases hx:x=a
     ·subst hx;rw[ZNL,ZNL]
     ·rw[ZNM hx,ZNM hx,ZNM hx]
    ·rw[hJ2,hw2]
     unfold Rg.t2
     rw[if_neg (by rw[hso];decide)]
    ·unfold Rg.b2
     rw[if_neg (show ¬(G.so tl J gt&&decide (a=G.pt J))=true by rw[hso];decide)]
 ·-- it doesn't
  have hst:(k1.step G.W a).2=k1:=by
   cases hka:G.κ a with
   | false=>
    rw[ZO5 hka] at hNa
    refine ZPp h1 ha hNa ?_
    cases hwa:(!gt&&decide (a=G.pt J)) with
    | false=>rfl
    | true=>
     simp only[Bool.and_eq_true,Bool.not_eq_true',decide_eq_true_eq] at hwa
     refine ZP8 λhbb=>hT ⟨?_,hwa.2⟩
     unfold Rg.tk
     rw[←hwa.2,hwa.1,hka,decide_eq_true hbb.2]
     simp only[Bool.not_false,Bool.true_and,Bool.false_or,decide_eq_true_eq]
     exact hbb.1
   | true=>
    rw[ZOK hka] at hNa
    refine ZPQ h1 ha hNa (ZRv ?_)
    cases hwa:(!gt&&decide (a=G.pt J)) with
    | false=>exact .inl rfl
    | true=>
     simp only[Bool.and_eq_true,Bool.not_eq_true',decide_eq_true_eq] at hwa
     refine .inr λhE=>hT ⟨?_,hwa.2⟩
     unfold Rg.tk
     rw[←hwa.2,hwa.1,hka,decide_eq_true hE]
     rfl
  rw[hst]
  have hso:(G.so tl J gt&&decide (a=G.pt J))=false:=by
   cases hs:(G.so tl J gt&&decide (a=G.pt J)) with
   | false=>rfl
   | true=>
    unfold Rg.so at hs
    simp only[Bool.and_eq_true,decide_eq_true_eq] at hs
    exact absurd ⟨hs.1.1,hs.2⟩ hT
  have hw:(!gt&&decide (a=G.pt J))=G.w2 tl J gt a:=by
   unfold Rg.w2
   by_cases haJ:a=G.pt J
   ·have:G.tk tl J gt=false:=by
     cases ht:G.tk tl J gt with
     | false=>rfl
     | true=>exact absurd ⟨ht,haJ⟩ hT
    rw[this]
    simp
   ·rw[decide_eq_false haJ]
    simp
  rw[hw] at hNa
  have h3:=ZPT (tl:=tl) (v:=v) (J:=J) (w:=G.w2 tl J gt a) ok h1 ha hbold hBa hNa (by omega) hv ht
  refine fin h3 ?_ ?_
  ·unfold Rg.t2
   rw[if_neg (by rw[hso];decide)]
   show G.nd a tl (max (tl a) (G.n2 tl v J gt a)) v J (G.w2 tl J gt a)=_
   unfold Rg.J2
   by_cases ht2:G.tk tl J gt=true
   ·rw[if_pos ht2]
    have haJ:a≠G.pt J:=λe=>hT ⟨ht2,e⟩
    have hw2:G.w2 tl J gt a=false:=by unfold Rg.w2;rw[decide_eq_false haJ,Bool.and_false]
    rw[hw2,ZQP ok ha λe=>haJ e.symm]
   ·rw[if_neg ht2]
  ·unfold Rg.b2
   rw[if_neg (show ¬(G.so tl J gt&&decide (a=G.pt J))=true by rw[hso];decide)]
   rfl
variable {m:Nat} {g lst:Int} {gt:Bool}
theorem ZPN (ha:a≤G.n):Zcz G.W a=((List.range a).filter G.κ).length:=by
 unfold Zcz
 rw[show G.W.Feds=(List.range G.n).map G.fed from rfl,←List.map_take,List.take_range,Nat.min_eq_left ha,List.filter_map,List.length_map]
 congr 1
 refine List.filter_congr λi _=>?_
 show (!decide ((if G.κ i then (1:Int) else 0)=0))=G.κ i
 cases G.κ i <;> rfl
theorem ZOE:Zcz G.W G.n=Zai G.W:=by
 unfold Zcz Zai
 rw[List.take_of_length_le (by rw[ZOi];exact Nat.le_refl _)]
theorem ZOq (ha:a<G.n):Zcz G.W (a+1)=Zcz G.W a+if G.κ a then 1 else 0:=by
 rw[ZPN ha,ZPN (Nat.le_of_lt ha),List.range_succ,List.filter_append,List.length_append]
 cases hk:G.κ a <;> simp[hk]
theorem ZOZ (b:Nat):∀d,b+d≤G.n→Zcz G.W b≤Zcz G.W (b+d)
 | 0,_=>Nat.le_refl _
 | d+1,hd=>by
  have h1:=ZOZ b d (by omega)
  have h2:=ZOq (G:=G) (a:=b+d) (by omega)
  rw[show b+(d+1)=b+d+1 by omega,h2]
  omega
theorem ZPW (ha:a<G.n) (hk:G.κ a=true):Zcz G.W a<Zai G.W:=by
 have h1:=ZOq ha
 rw[hk,if_pos rfl] at h1
 have h2:=ZOZ (G:=G) (a+1) (G.n - (a+1)) (by omega)
 rw[show a+1+(G.n - (a+1))=G.n by omega,ZOE] at h2
 omega
def Rg.lsR (G:Rg) (xr:Nat→Int):Nat→Int
 | 0=>Inf
 | a+1=>if G.κ a then min (Rg.lsR G xr a) (xr a) else Rg.lsR G xr a
theorem ZQH {xr:Nat→Int} (b:Nat):∀d,b+d≤G.n→Zcz G.W b=Zcz G.W (b+d)→G.lsR xr b=G.lsR xr (b+d)
 | 0,_,_=>rfl
 | d+1,hd,he=>by
  have h1:=ZOZ (G:=G) b d (by omega)
  have h2:=ZOq (G:=G) (a:=b+d) (by omega)
  rw[show b+(d+1)=b+d+1 by omega] at he ⊢
  rw[h2] at he
  show _=if G.κ (b+d) then _ else _
  cases hk:G.κ (b+d) with
  | true=>rw[hk,if_pos rfl] at he;omega
  | false=>
   rw[hk,if_neg (by decide),Nat.add_zero] at he
   rw[if_neg (by decide)]
   exact ZQH b d (by omega) he
theorem ZQ0 {xr:Nat→Int}:∀n,∀a,a<n→G.κ a=true→G.lsR xr n≤xr a
 | 0,_,h,_=>by omega
 | n+1,a,h,hk=>by
  show (if G.κ n then min (G.lsR xr n) (xr n) else G.lsR xr n)≤_
  by_cases han:a=n
  ·subst han
   rw[hk,if_pos rfl]
   omega
  ·have:=ZQ0 (xr:=xr) n a (by omega) hk
   split <;> omega
theorem ZRx {xr:Nat→Int} {z:Int} (hz:z≤Inf):∀n,(∀a,a<n→G.κ a=true→z≤xr a)→z≤G.lsR xr n
 | 0,_=>hz
 | n+1,hall=>by
  have h1:=ZRx hz n λa ha=>hall a (by omega)
  show z≤if G.κ n then min (G.lsR xr n) (xr n) else G.lsR xr n
  split
  ·rename_i hk
   have:=hall n (by omega) hk
   omega
  ·exact h1
theorem ZPa {α:Type} {x y:α} {i m:Nat} (hi:i<m):(List.replicate i x++List.replicate (m - i) y).set i x=List.replicate (i+1) x++List.replicate (m - (i+1)) y:=by
 obtain ⟨j,rfl⟩:∃j,m=i+1+j:=⟨m - (i+1),by omega⟩
 rw[show i+1+j - i=j+1 by omega,show i+1+j - (i+1)=j by omega,List.replicate_succ,List.set_append_right _ _ (by rw[List.length_replicate];exact Nat.le_refl _),List.length_replicate,Nat.sub_self,List.set_cons_zero,List.replicate_succ',List.append_assoc]
 rfl
theorem ZO7 {x y:Int} {i m:Nat} (hi:i<m):(List.replicate i x++List.replicate (m - i) y).getD i 0=y:=by
 rw[List.getD_eq_getElem?_getD,List.getElem?_append_right (by rw[List.length_replicate];exact Nat.le_refl _),List.length_replicate,Nat.sub_self,List.getElem?_replicate,if_pos (by omega)]
 rfl
theorem ZO4 {x y:Int} {i m:Nat} (hi:i≤m) (hxy:y≠x):((List.replicate i x++List.replicate (m - i) y).all λt=>decide (t=x))=decide (i=m):=by
 by_cases he:i=m
 ·subst he
  rw[Nat.sub_self,decide_eq_true rfl]
  simp
 ·rw[decide_eq_false he]
  obtain ⟨j,hj⟩:∃j,m - i=j+1:=⟨m - i - 1,by omega⟩
  rw[hj,List.replicate_succ,List.all_append,List.all_cons,decide_eq_false hxy,Bool.false_and,Bool.and_false]
def ZN9 (m i j:Nat) (g v lst:Int):CL:=⟨g+1,g,List.replicate i (g+1)++List.replicate (m - i) g,List.replicate j (g+1)++List.replicate (m - j) g,0,0,lst,v⟩
def isN (G:Rg) (N:Nat→Nd) (M:Nat→WN):Prop:=∀a,a<G.n→(G.κ a=true→∃t,N a=.bold (M a) (Zcz G.W a) t)∧(G.κ a=false→∃M,N a=.slow M)
theorem ZPE {M:Nat→WN} (hN:isN G N M) (hh:Acc G r k N B Q (some (ZNW (Zai G.W) g v lst))):Acc G r (ZOM G.n (λk a=>(k.turn a).2) k.begin'.2) N B Q (some (ZN9 (Zai G.W) (Zai G.W) 0 g v Inf)):=by
 have h1:=ZPY hh (Int.lt_irrefl g)
 have key:=ZNT (n:=G.n) (k:=k.begin'.2) (f:=λk a=>(k.turn a).2) (P:=λa k=>Acc G r k N B Q (some (ZN9 (Zai G.W) (Zcz G.W a) 0 g v Inf))) ?_ ?_
 ·rw[ZOE] at key
  exact key
 ·intro a k1 ha h2
  obtain ⟨hb,hs⟩:=hN a ha
  rw[ZOq ha]
  cases hk:G.κ a with
  | false=>
   obtain ⟨S,e⟩:=hs hk
   rw[ZOJ h2 ha e,if_neg (by decide)]
   exact h2
  | true=>
   obtain ⟨t,e⟩:=hb hk
   have hlt:=ZPW ha hk
   have h3:=ZQa h2 ha e (show g<g+1 by omega) (by
    show (List.replicate (Zcz G.W a) (g+1)++List.replicate (Zai G.W - Zcz G.W a) g).getD (Zcz G.W a) 0≠g+1
    rw[ZO7 hlt]
    omega)
   rw[if_pos rfl]
   have e2:({ ZN9 (Zai G.W) (Zcz G.W a) 0 g v Inf with T:=(ZN9 (Zai G.W) (Zcz G.W a) 0 g v Inf).T.set (Zcz G.W a) (ZN9 (Zai G.W) (Zcz G.W a) 0 g v Inf).begun }:CL)=ZN9 (Zai G.W) (Zcz G.W a+1) 0 g v Inf:=by
    unfold ZN9
    dsimp only
    rw[ZPa hlt]
   rw[←e2]
   exact h3
 ·have e0:Zcz G.W 0=0:=ZPN (Nat.zero_le _)
  rw[e0]
  have e3:({ ZNW (Zai G.W) g v lst with begun:=(ZNW (Zai G.W) g v lst).begun+1,least:=Inf }:CL)=ZN9 (Zai G.W) 0 0 g v Inf:=by
   unfold ZN9 ZNW
   simp
  rw[←e3]
  exact h1
def isS (G:Rg) (N N':Nat→Nd) (B B':Nat→List Zn) (M:Nat→WN) (v:Int):Prop:=∀a,a<G.n→(G.κ a=true→∃t,N a=.bold (M a) (Zcz G.W a) t∧ZaB (M a) v=0∧N' a=.bold (Ys (M a) v) (Zcz G.W a) t∧B' a=B a++((Yq G.W (ZaC G.W a (Zs G.W a) (M a) v)).map Yz.m).map Zae)∧
 (G.κ a=false→∃M,N a=.slow M∧N' a=.slow M∧B' a=B a)
theorem ZPj {M:Nat→WN} (hS:isS G N N' B B' M v) (hh:Acc G r k N B Q c):Acc G r (k.settle G.W v) N' B' Q c:=by
 rw[ZlS,hh.nl]
 have key:=ZNT (n:=G.n) (k:=k) (f:=settle1 G.W v) (P:=λa k=>Acc G r k (λi=>if i<a then N' i else N i) (λi=>if i<a then B' i else B i) Q c) ?_ ?_
 ·exact key.congr (λx hx=>if_pos hx) (λx hx=>if_pos hx) λ_ _ _ _=>rfl
 ·intro a k1 ha h1
  obtain ⟨hb,hs⟩:=hS a ha
  have hnd:k1.node a=N a:=(h1.nd a ha).trans (if_neg (by omega))
  cases hk:G.κ a with
  | false=>
   obtain ⟨S,e1,e2,e3⟩:=hs hk
   have e4:settle1 G.W v k1 a=k1:=by unfold settle1;rw[hnd,e1]
   rw[e4]
   refine h1.congr (λx hx=>?_) (λx hx=>?_) λ_ _ _ _=>rfl
   ·by_cases hxa:x=a
    ·subst hxa;rw[if_neg (show ¬x<x by omega),if_pos (show x<x+1 by omega),e1,e2]
    ·by_cases hlt:x<a
     ·rw[if_pos hlt,if_pos (show x<a+1 by omega)]
     ·rw[if_neg hlt,if_neg (show ¬x<a+1 by omega)]
   ·by_cases hxa:x=a
    ·subst hxa;rw[if_neg (show ¬x<x by omega),if_pos (show x<x+1 by omega),e3]
    ·by_cases hlt:x<a
     ·rw[if_pos hlt,if_pos (show x<a+1 by omega)]
     ·rw[if_neg hlt,if_neg (show ¬x<a+1 by omega)]
  | true=>
   obtain ⟨t,e1,e2,e3,e4⟩:=hb hk
   have e5:settle1 G.W v k1 a=(k1.setN a (.bold (Ys (M a) v) (Zcz G.W a) t)).put a (((Yq G.W (ZaC G.W a (Zs G.W a) (M a) v)).map Yz.m).map Zae):=by
    unfold settle1
    rw[hnd,e1]
    dsimp only
    rw[if_pos e2]
   rw[e5]
   refine ((h1.setN ha _).put ha _).congr (λx hx=>?_) (λx hx=>?_) λ_ _ _ _=>rfl
   ·by_cases hxa:x=a
    ·subst hxa;rw[ZNL,if_pos (show x<x+1 by omega),e3]
    ·rw[ZNM hxa]
     by_cases hlt:x<a
     ·rw[if_pos hlt,if_pos (show x<a+1 by omega)]
     ·rw[if_neg hlt,if_neg (show ¬x<a+1 by omega)]
   ·by_cases hxa:x=a
    ·subst hxa;rw[ZNL,if_pos (show x<x+1 by omega),if_neg (show ¬x<x by omega),e4]
    ·rw[ZNM hxa]
     by_cases hlt:x<a
     ·rw[if_pos hlt,if_pos (show x<a+1 by omega)]
     ·rw[if_neg hlt,if_neg (show ¬x<a+1 by omega)]
 ·exact hh.congr (λx _=>by rw[if_neg (by omega)]) (λx _=>by rw[if_neg (by omega)]) λ_ _ _ _=>rfl
theorem ZO1 {M:Nat→WN} (hN:isN G N M) (hto:∀a,a<G.n→∀i∈B a,0≤i.m.To∧i.m.To<G.n) (h0:0<Zai G.W)
  (hS:isS G N N' B B' M (max v (G.lsR (λa=>ZOx N a (M a) (B a)) G.n)))
  (hh:Acc G r k N B Q (some (ZN9 (Zai G.W) (Zai G.W) 0 g v Inf))):Acc G r (ZOM G.n (λk a=>(k.report G.W a).2) k) N' B' Q (some (ZNW (Zai G.W) (g+1) (max v (G.lsR (λa=>ZOx N a (M a) (B a)) G.n)) (G.lsR (λa=>ZOx N a (M a) (B a)) G.n))):=by
 generalize hxr:(λa=>ZOx N a (M a) (B a))=xr at*
 have key:=ZNT (n:=G.n) (k:=k) (f:=λk a=>(k.report G.W a).2) (P:=λa k=>if Zcz G.W a<Zai G.W then Acc G r k N B Q (some (ZN9 (Zai G.W) (Zai G.W) (Zcz G.W a) g v (G.lsR xr a))) else Acc G r k N' B' Q (some (ZNW (Zai G.W) (g+1) (max v (G.lsR xr G.n)) (G.lsR xr G.n)))) ?_ ?_
 ·rw[ZOE,if_neg (Nat.lt_irrefl _)] at key
  exact key
 ·intro a k1 ha h2
  obtain ⟨hb,hs⟩:=hN a ha
  have hrs:=ZOq ha
  cases hk:G.κ a with
  | false=>
   rw[hk,if_neg (by decide)] at hrs
   replace hrs:Zcz G.W (a+1)=Zcz G.W a:=hrs
   have hls:G.lsR xr (a+1)=G.lsR xr a:=by show (if G.κ a then _ else _)=_;rw[hk];rfl
   rw[hrs,hls]
   by_cases hlt:Zcz G.W a<Zai G.W
   ·rw[if_pos hlt] at h2 ⊢
    obtain ⟨S,e⟩:=hs hk
    rw[ZOa h2 ha e]
    exact h2
   ·rw[if_neg hlt] at h2 ⊢
    obtain ⟨S,_,e,_⟩:=(hS a ha).2 hk
    rw[ZOa h2 ha e]
    exact h2
  | true=>
   rw[hk,if_pos rfl] at hrs
   have hls:G.lsR xr (a+1)=min (G.lsR xr a) (xr a):=by show (if G.κ a then _ else _)=_;rw[hk];rfl
   have hlt:=ZPW ha hk
   rw[if_pos hlt] at h2
   obtain ⟨t,e⟩:=hb hk
   have hx:xr a=ZOx N a (M a) (B a):=by rw[←hxr]
   have hT:((ZN9 (Zai G.W) (Zai G.W) (Zcz G.W a) g v (G.lsR xr a)).T.all λt=>decide (t=(ZN9 (Zai G.W) (Zai G.W) (Zcz G.W a) g v (G.lsR xr a)).begun))=true:=by
    show ((List.replicate (Zai G.W) (g+1)++List.replicate (Zai G.W - Zai G.W) g).all λt=>decide (t=g+1))=true
    rw[ZO4 (Nat.le_refl _) (by omega),decide_eq_true rfl]
   have hR:(ZN9 (Zai G.W) (Zai G.W) (Zcz G.W a) g v (G.lsR xr a)).Rp.getD (Zcz G.W a) 0≠(ZN9 (Zai G.W) (Zai G.W) (Zcz G.W a) g v (G.lsR xr a)).begun:=by
    show (List.replicate (Zcz G.W a) (g+1)++List.replicate (Zai G.W - Zcz G.W a) g).getD (Zcz G.W a) 0≠g+1
    rw[ZO7 hlt]
    omega
   have hst:(ZN9 (Zai G.W) (Zai G.W) (Zcz G.W a) g v (G.lsR xr a)).Rp.set (Zcz G.W a) (ZN9 (Zai G.W) (Zai G.W) (Zcz G.W a) g v (G.lsR xr a)).begun=List.replicate (Zcz G.W a+1) (g+1)++List.replicate (Zai G.W - (Zcz G.W a+1)) g:=ZPa hlt
   have hO:(ZN9 (Zai G.W) (Zai G.W) (Zcz G.W a) g v (G.lsR xr a)).on ((ZN9 (Zai G.W) (Zai G.W) (Zcz G.W a) g v (G.lsR xr a)).over % 2)=0:=by
    unfold CL.on
    split <;> rfl
   have hal:((List.replicate (Zcz G.W a+1) (g+1)++List.replicate (Zai G.W - (Zcz G.W a+1)) g).all λt=>decide (t=g+1))=decide (Zcz G.W a+1=Zai G.W):=ZO4 (by omega) (by omega)
   by_cases hla:Zcz G.W a+1=Zai G.W
   ·obtain ⟨k',e1,h3⟩:=ZOS h2 ha e (hto a ha) (show g<g+1 by omega) hT hR hO (by rw[hst];exact hal.trans (decide_eq_true hla))
    rw[←hx] at e1 h3
    rw[hrs,if_neg (by omega),e1]
    have hend:min (G.lsR xr a) (xr a)=G.lsR xr G.n:=by
     rw[←hls]
     have h4:=ZQH (G:=G) (xr:=xr) (a+1) (G.n - (a+1)) (by omega) (by rw[show a+1+(G.n - (a+1))=G.n by omega,ZOE,hrs,hla])
     rwa [show a+1+(G.n - (a+1))=G.n by omega] at h4
    have e2:({ ZN9 (Zai G.W) (Zai G.W) (Zcz G.W a) g v (G.lsR xr a) with Rp:=(ZN9 (Zai G.W) (Zai G.W) (Zcz G.W a) g v (G.lsR xr a)).Rp.set (Zcz G.W a) (ZN9 (Zai G.W) (Zai G.W) (Zcz G.W a) g v (G.lsR xr a)).begun,least:=min (ZN9 (Zai G.W) (Zai G.W) (Zcz G.W a) g v (G.lsR xr a)).least (xr a),over:=(ZN9 (Zai G.W) (Zai G.W) (Zcz G.W a) g v (G.lsR xr a)).begun,value:=max (ZN9 (Zai G.W) (Zai G.W) (Zcz G.W a) g v (G.lsR xr a)).value (min (ZN9 (Zai G.W) (Zai G.W) (Zcz G.W a) g v (G.lsR xr a)).least (xr a)) }:CL)=ZNW (Zai G.W) (g+1) (max v (G.lsR xr G.n)) (G.lsR xr G.n):=by
     rw[hst,hla]
     show (⟨g+1,g+1,List.replicate (Zai G.W) (g+1)++List.replicate (Zai G.W - Zai G.W) g,List.replicate (Zai G.W) (g+1)++List.replicate (Zai G.W - Zai G.W) g,0,0,min (G.lsR xr a) (xr a),max v (min (G.lsR xr a) (xr a))⟩:CL)=_
     rw[hend,Nat.sub_self]
     unfold ZNW
     simp
    rw[e2] at h3
    have e3:max (ZN9 (Zai G.W) (Zai G.W) (Zcz G.W a) g v (G.lsR xr a)).value (min (ZN9 (Zai G.W) (Zai G.W) (Zcz G.W a) g v (G.lsR xr a)).least (xr a))=max v (G.lsR xr G.n):=by
     show max v (min (G.lsR xr a) (xr a))=_
     rw[hend]
    rw[e3]
    exact ZPj hS h3
   ·have h3:=ZOR h2 ha e (hto a ha) (show g<g+1 by omega) hT hR hO (by rw[hst];exact hal.trans (decide_eq_false hla))
    rw[←hx] at h3
    rw[hrs,if_pos (by omega)]
    have e2:({ ZN9 (Zai G.W) (Zai G.W) (Zcz G.W a) g v (G.lsR xr a) with Rp:=(ZN9 (Zai G.W) (Zai G.W) (Zcz G.W a) g v (G.lsR xr a)).Rp.set (Zcz G.W a) (ZN9 (Zai G.W) (Zai G.W) (Zcz G.W a) g v (G.lsR xr a)).begun,least:=min (ZN9 (Zai G.W) (Zai G.W) (Zcz G.W a) g v (G.lsR xr a)).least (xr a) }:CL)=ZN9 (Zai G.W) (Zai G.W) (Zcz G.W a+1) g v (G.lsR xr (a+1)):=by
     rw[hst,hls]
     rfl
    rw[←e2]
    exact h3
 ·have e0:Zcz G.W 0=0:=ZPN (Nat.zero_le _)
  rw[e0,if_pos h0]
  exact hh
variable {v':Int}
theorem ZNZ (h:0≤t∧t≤1000000):ZaD t=t:=by unfold ZaD Zsq;rw[if_neg (by omega),if_neg (by omega)]
theorem ZOY (ok:G.Ok) (hJ:J≤60) (hh:∀c,c<G.n→0≤h c∧h c≤1000) :
  ZcM (G.ndB a h v J w)≤Inf∧(w=true→ZcM (G.ndB a h v J w)≤G.tq J)∧(∀c,c<G.n→G.κ c=false→ZcM (G.ndB a h v J w)≤h c)∧
  ∀z,z≤Inf→(w=true→z≤G.tq J)→(∀c,c<G.n→G.κ c=false→z≤h c)→z≤ZcM (G.ndB a h v J w):=by
 have hq:(if ZjD (G.ndB a h v J w).q=true then [(hdM (G.ndB a h v J w).q).key.T] else [])=if w=true then [G.tq J] else []:=by cases w <;> rfl
 have hT:=ZOm ok J
 have hmem:∀y,y∈(G.clkB h).filter (λt=>decide (0≤t))↔∃c,c<G.n∧G.κ c=false∧y=h c:=by
  intro y
  rw[List.mem_filter,decide_eq_true_iff]
  constructor
  ·rintro ⟨hy,h0⟩
   unfold Rg.clkB at hy
   obtain ⟨c,hc,rfl⟩:=List.mem_map.1 hy
   cases hk:G.κ c with
   | true=>rw[hk,if_pos rfl] at h0;omega
   | false=>exact ⟨c,List.mem_range.1 hc,hk,rfl⟩
  ·rintro ⟨c,hc,hk,rfl⟩
   refine ⟨List.mem_map.2 ⟨c,List.mem_range.2 hc,?_⟩,(hh c hc).1⟩
   rw[hk];rfl
 unfold ZcM
 rw[hq]
 obtain ⟨h1,h2,h3⟩:=ZmE ((if w=true then [G.tq J] else [])++(G.clkB h).filter λt=>decide (0≤t))
 refine ⟨h1,λhw=>?_,λc hc hk=>?_,λz hz hw hs=>?_⟩
 ·have:=h2 (G.tq J) (by rw[hw];simp)
  rwa [ZNZ (by omega)] at this
 ·have:=h2 (h c) (List.mem_append_right _ ((hmem _).2 ⟨c,hc,hk,rfl⟩))
  have h4:=hh c hc
  rwa [ZNZ (by omega)] at this
 ·show z≤ZaP ((if w=true then [G.tq J] else [])++(G.clkB h).filter λt=>decide (0≤t))
  rcases h3 with h3 | ⟨y,hy,h3⟩
  ·omega
  ·rw[h3]
   rcases List.mem_append.1 hy with hy | hy
   ·cases hwv:w with
    | false=>rw[hwv] at hy;cases hy
    | true=>
     rw[hwv,if_pos rfl,List.mem_singleton] at hy
     rw[hy,ZNZ (by omega)]
     exact hw hwv
   ·obtain ⟨c,hc,hk,rfl⟩:=(hmem _).1 hy
    have h4:=hh c hc
    rw[ZNZ (by omega)]
    exact hs c hc hk
theorem ZOz {M:WN} {l:List Zn} (hl:∀i∈l,i.Kind≠2→0≤i.m.key.T∧i.m.key.T≤1000000) :
  ZOx N a M l≤ZcM M∧(∀i∈l,i.Kind≠2→(N a).isBold=true→(N i.m.To.toNat).isBold=true→ZOx N a M l≤i.m.key.T)∧
  ∀z,z≤ZcM M→(∀i∈l,i.Kind≠2→(N i.m.To.toNat).isBold=true→z≤i.m.key.T)→z≤ZOx N a M l:=by
 have hc:ZaD (ZcM M)=ZcM M:=by
  unfold ZcM
  obtain ⟨h1,_,h3⟩:=ZmE ((if ZjD M.q=true then [(hdM M.q).key.T] else [])++M.clk.filter λt=>decide (0≤t))
  rcases h3 with h3 | ⟨y,_,h3⟩
  ·rw[h3];rfl
  ·rw[h3];unfold ZaD Inf Zsq;(repeat' split) <;> omega
 have hi:ZcM M≤Inf:=ZsY _
 unfold ZOx
 obtain ⟨h1,h2,h3⟩:=ZmE (ZcM M::(l.filter λ(i:Zn)=>!decide (i.Kind=2)&&(N a).isBold&&(N i.m.To.toNat).isBold).map λ(i:Zn)=>i.m.key.T)
 refine ⟨?_,λi hi hk ha hb=>?_,λz hz hs=>?_⟩
 ·have:=h2 _ (List.mem_cons_self ..)
  omega
 ·have:=h2 i.m.key.T (List.mem_cons_of_mem _ (List.mem_map.2 ⟨i,List.mem_filter.2 ⟨hi,by rw[decide_eq_false hk,ha,hb];rfl⟩,rfl⟩))
  rwa [ZNZ (hl i hi hk)] at this
 ·rcases h3 with h3 | ⟨y,hy,h3⟩
  ·omega
  ·rw[h3]
   rcases List.mem_cons.1 hy with rfl | hy
   ·omega
   ·obtain ⟨i,hi,rfl⟩:=List.mem_map.1 hy
    obtain ⟨hi1,hi2⟩:=List.mem_filter.1 hi
    simp only[Bool.and_eq_true,Bool.not_eq_true',decide_eq_false_iff_not] at hi2
    rw[ZNZ (hl i hi1 hi2.1.1)]
    exact hs i hi1 hi2.1.1 hi2.2
theorem ZPV (ok:G.Ok) (h1:v≤v') (h2:v'≤ZcM (G.ndB a h v J w)):ZaB (G.ndB a h v J w) v'=0∧Ys (G.ndB a h v J w) v'=G.ndB a h v' J w:=by
 constructor
 ·unfold ZaB
  rw[if_neg (by show ¬v'<v;omega),if_neg (by omega)]
 ·obtain ⟨e1,e2⟩:=ZOb h1 (ZOf ok a J)
  show (⟨Zc6 v (G.Lg a J)++Zc6 v' (ZmO v (G.Lg a J)),ZmO v' (ZmO v (G.Lg a J)),_,v',_⟩:WN)=_
  rw[e1,e2]
  rfl
theorem ZQL (ok:G.Ok) (j:Nat):ZmR G.W (G.en j)=if G.κ (G.sx ((j+1) % G.n)) then [] else [⟨(G.mq j).key,G.mq (j+1)⟩]:=by
 unfold ZmR Rg.en
 dsimp only
 rw[List.filter_cons,List.filter_nil,ZQ2,ZPq (ZQk ok _)]
 cases G.κ (G.sx ((j+1) % G.n)) <;> rfl
theorem ZN7 {l:List Msg} (hl:∀m∈l,m.key.T<v):Zc6 v l=l∧ZmO v l=[]:=by
 unfold Zc6 ZmO
 exact ⟨List.filter_eq_self.2 λm hm=>by simpa using hl m hm,List.filter_eq_nil_iff.2 λm hm=>by simpa using hl m hm⟩
theorem ZOO (l l2:List Msg):Zc6 v (l++l2)=Zc6 v l++Zc6 v l2∧ZmO v (l++l2)=ZmO v l++ZmO v l2:=by
 unfold Zc6 ZmO
 exact ⟨List.filter_append ..,List.filter_append ..⟩
theorem ZPx (ok:G.Ok) (ha:a<G.n) (hJ:J≤60) (hv:v≤v') (hka:G.κ a=true)
  (hgt:gt=true→1≤J∧v≤G.tq (J - 1)∧G.κ (G.sx (J % G.n))=false)
  (hrel:∀j,j<J→G.κ ((j+1) % G.n)=true→G.κ (G.sx ((j+1) % G.n))=false→¬(gt=true∧j+1=J)→G.tq j<v) :
  ((Yq G.W (ZaC G.W a (Zs G.W a) (G.ndB a h v J w) v')).map Yz.m).map Zae=if (gt&&decide (a=J % G.n)&&decide (G.tq (J - 1)<v'))=true then [Zae (G.mq J)] else []:=by
 have hbase:ZaC G.W a (Zs G.W a) (G.ndB a h v J w) v'=Zc8 G.W a (G.fed a) (ZjE (G.fed a) (ZxV (G.fed a)) (Zc6 v (G.Lg a J))) (Zc6 v' (ZmO v (G.Lg a J))):=by rw[ZN2 ha];rfl
 rw[hbase]
 obtain ⟨e1,_⟩:=ZOb hv (ZOf ok a J)
 cases hks:G.κ (G.sx a) with
 | true=>
  have hno:(gt&&decide (a=J % G.n)&&decide (G.tq (J - 1)<v'))=false:=by
   cases hg:gt with
   | false=>rfl
   | true=>
    by_cases haJ:a=J % G.n
    ·have:=(hgt hg).2.2
     rw[←haJ,hks] at this
     cases this
    ·rw[decide_eq_false haJ];rfl
  rw[hno,if_neg (by decide)]
  have hall:Yq G.W (Zc8 G.W a (G.fed a) (ZjE (G.fed a) (ZxV (G.fed a)) (Zc6 v (G.Lg a J))) (Zc6 v' (ZmO v (G.Lg a J))))=[]:=by
   unfold Yq
   rw[List.flatMap_eq_nil_iff]
   intro x hx
   have h1:x∈Zc8 G.W a (G.fed a) (ZxV (G.fed a)) (G.Lg a J):=by
    rw[←(ZPZ (v:=v') (J:=J) ok a).2,Zi3,List.mem_append]
    left
    rw[←e1,Zi3,List.mem_append]
    exact .inr hx
   rw[ZP9 ok ha J (by omega)] at h1
   obtain ⟨j,hj,rfl⟩:=List.mem_map.1 h1
   have h2:=of_decide_eq_true (List.mem_filter.1 hj).2
   rw[ZQL ok,h2,hks]
   rfl
  rw[hall]
  rfl
 | false=>
  have hlow:∀j,j<J→(j+1) % G.n=a→¬(gt=true∧j+1=J)→G.tq j<v:=λj hj hja hn=>hrel j hj (by rw[hja];exact hka) (by rw[hja];exact hks) hn
  have hnil:∀l:List Msg,Zc6 v' ([]:List Msg)=[]:=λ_=>rfl
  obtain ⟨i,rfl⟩ | hJ0:(∃i,J=i+1)∨J=0:=by
   cases J with
   | zero=>exact .inr rfl
   | succ i=>exact .inl ⟨i,rfl⟩
  ·have hi:∀m∈G.Lg a i,m.key.T<v:=λm hm=>by
    obtain ⟨j,hj,hja,rfl⟩:=ZON hm
    exact hlow j (by omega) hja (by omega)
   obtain ⟨f1,f2⟩:=ZN7 hi
   rw[ZNO,(ZOO _ _).1,(ZOO _ _).2,f1,f2,List.nil_append]
   by_cases hia:(i+1) % G.n=a
   ·rw[if_pos hia,decide_eq_true hia.symm,Bool.and_true,Nat.add_sub_cancel]
    cases hg:gt with
    | false=>
     have h1:=hlow i (by omega) hia (by rw[hg];simp)
     have h2:ZmO v [G.mq i]=[]:=(ZN7 (v:=v) (l:=[G.mq i]) λm hm=>by rw[List.mem_singleton.1 hm];exact h1).2
     rw[h2]
     rfl
    | true=>
     have h1:=(hgt hg).2.1
     rw[Nat.add_sub_cancel] at h1
     have h2:Zc6 v [G.mq i]=[]∧ZmO v [G.mq i]=[G.mq i]:=by
      have:¬(G.mq i).key.T<v:=by show ¬G.tq i<v;omega
      unfold Zc6 ZmO
      simp[this]
     rw[h2.1,h2.2,List.append_nil,Bool.true_and]
     by_cases hlt:G.tq i<v'
     ·have h3:Zc6 v' [G.mq i]=[G.mq i]:=(ZN7 (v:=v') (l:=[G.mq i]) λm hm=>by rw[List.mem_singleton.1 hm];exact hlt).1
      rw[h3,decide_eq_true hlt,if_pos rfl,ZP3 ok ha]
      show ((Yq G.W [ZoQ G.W a (G.fed a) (0,G.sn a i) (G.mq i)]).map Yz.m).map Zae=_
      rw[ZQ7 ok (by omega) hia]
      show ((ZmR G.W (G.en i)++[]).map Yz.m).map Zae=_
      rw[ZQL ok,hia,hks]
      rfl
     ·have h3:Zc6 v' [G.mq i]=[]:=by
       have:¬(G.mq i).key.T<v':=hlt
       unfold Zc6
       simp[this]
      rw[h3,decide_eq_false hlt,if_neg (by decide)]
      rfl
   ·rw[if_neg hia,decide_eq_false (λe=>hia e.symm),Bool.and_false,Bool.false_and,if_neg (by decide)]
    rfl
  ·subst hJ0
   have hg:gt=false:=by
    cases hg:gt with
    | false=>rfl
    | true=>have:=(hgt hg).1;omega
   rw[hg]
   rfl
def ph3 (G:Rg) (k:KS):KS:=ZOM G.n (λk a=>(k.report G.W a).2) (ZOM G.n (λk a=>(k.turn a).2) k.begin'.2)
def ZQD (G:Rg) (g v lst:Int):Option CL:=if Zai G.W=0 then none else some (ZNW (Zai G.W) g v lst)
theorem ZQU (h0:Zai G.W=0):∀a,a<G.n→G.κ a=false:=λa ha=>by
 cases hk:G.κ a with
 | false=>rfl
 | true=>have:=ZPW ha hk;omega
theorem ZQ3 {g v lst:Int}:ZQA G (ZQD G g v lst):=by
 intro a ha hk
 have h1:=ZPW ha hk
 refine ⟨Zai G.W,g,v,lst,?_,h1⟩
 unfold ZQD
 rw[if_neg (by omega)]
theorem ZRz (ok:G.Ok) {tt:Nat→Int} {w:Nat→Bool} (hh:Acc G r k (λb=>G.nd b h (tt b) v J (w b)) B Q (ZQD G g v lst))
  (hJ:J≤60) (hl:∀c,c<G.n→0≤h c∧h c≤1000) (hB:∀a,a<G.n→∀i∈B a,(0≤i.m.To∧i.m.To<G.n)∧(i.Kind≠2→0≤i.m.key.T∧i.m.key.T≤1000000))
  (hvI:v≤1000) (hvw:∀a,a<G.n→G.κ a=true→w a=true→v≤G.tq J) (hvs:∀a c,a<G.n→G.κ a=true→c<G.n→G.κ c=false→v≤h c)
  (hgt:gt=true→1≤J∧v≤G.tq (J - 1)∧G.κ (J % G.n)=true∧G.κ (G.sx (J % G.n))=false)
  (hrel:∀j,j<J→G.κ ((j+1) % G.n)=true→G.κ (G.sx ((j+1) % G.n))=false→¬(gt=true∧j+1=J)→G.tq j<v) :
  ∃x,Acc G r (ph3 G k) (λb=>G.nd b h (tt b) (if Zai G.W=0 then v else max v x) J (w b)) (λa=>B a++if (gt&&decide (a=J % G.n)&&decide (G.tq (J - 1)<if Zai G.W=0 then v else max v x))=true then [Zae (G.mq J)] else []) Q (ZQD G (g+1) (if Zai G.W=0 then v else max v x) x)∧
   (∀a,a<G.n→G.κ a=true→(w a=true→x≤G.tq J)∧(∀c,c<G.n→G.κ c=false→x≤h c)∧∀i∈B a,i.Kind≠2→G.κ i.m.To.toNat=true→x≤i.m.key.T)∧
   ∀z,z≤Inf→(∀a,a<G.n→G.κ a=true→(w a=true→z≤G.tq J)∧(∀c,c<G.n→G.κ c=false→z≤h c)∧∀i∈B a,i.Kind≠2→G.κ i.m.To.toNat=true→z≤i.m.key.T)→z≤x:=by
 generalize hN:(λb=>G.nd b h (tt b) v J (w b))=N at hh
 have hbold:∀b,(N b).isBold=G.κ b:=λb=>by rw[←hN];exact ZN1 ..
 refine ⟨G.lsR (λa=>ZOx N a (G.ndB a h v J (w a)) (B a)) G.n,?_,λa ha hk=>?_,λz hz hall=>ZRx hz _ λa ha hk=>?_⟩
 ·by_cases h0:Zai G.W=0
  ·have hsl:=ZQU h0
   have hg:gt=false:=by
    cases hg:gt with
    | false=>rfl
    | true=>
     have h1:=(hgt hg).2.2.1
     rw[hsl _ (Nat.mod_lt _ (by have:=ok.n;omega))] at h1
     cases h1
   have hc:∀{g v lst},ZQD G g v lst=none:=if_pos h0
   rw[hc] at hh ⊢
   rw[if_pos h0,hg]
   have hs:∀a,a<G.n→N a=.slow (G.ndS a h (tt a) J (w a)):=λa ha=>by rw[←hN];exact ZO5 (hsl a ha)
   have e1:k.begin'.2=k:=by unfold KS.begin';rw[hh.cut]
   unfold ph3
   rw[e1]
   have k1:=ZNT (n:=G.n) (k:=k) (f:=λk a=>(k.turn a).2) (P:=λ_ k=>Acc G r k N B Q none) (λa k1 ha h1=>by rw[ZOJ h1 ha (hs a ha)];exact h1) hh
   have k2:=ZNT (n:=G.n) (k:=ZOM G.n (λk a=>(k.turn a).2) k) (f:=λk a=>(k.report G.W a).2) (P:=λ_ k=>Acc G r k N B Q none) (λa k1 ha h1=>by rw[ZOa h1 ha (hs a ha)];exact h1) k1
   exact k2.congr (λx _=>by rw[←hN]) (λx _=>(List.append_nil _).symm) λ_ _ _ _=>rfl
  ·have hc:∀{g v lst},ZQD G g v lst=some (ZNW (Zai G.W) g v lst):=if_neg h0
   rw[hc] at hh ⊢
   rw[if_neg h0]
   have hisN:isN G N λa=>G.ndB a h v J (w a):=λa ha=>⟨λhk=>⟨tt a,by rw[←hN];exact ZOK hk⟩,λhk=>⟨_,by rw[←hN];exact ZO5 hk⟩⟩
   refine ZO1 (M:=λa=>G.ndB a h v J (w a)) hisN (λa ha i hi=>(hB a ha i hi).1) (by omega) ?_ (ZPE hisN hh)
   intro a ha
   refine ⟨λhk=>⟨tt a,by rw[←hN];exact ZOK hk,?_⟩,λhk=>⟨_,by rw[←hN];exact ZO5 hk,ZO5 hk,?_⟩⟩
   ·have hx:=ZQ0 (G:=G) (xr:=λa=>ZOx N a (G.ndB a h v J (w a)) (B a)) G.n a ha hk
    have hr:=(ZOz (N:=N) (a:=a) (M:=G.ndB a h v J (w a)) (l:=B a) λi hi=>(hB a ha i hi).2).1
    have hlo:=(ZOY (a:=a) (v:=v) (w:=w a) ok hJ hl).2.2.2 v (by unfold Inf;omega) (hvw a ha hk) λc hc hkc=>hvs a c ha hk hc hkc
    generalize G.lsR (λa=>ZOx N a (G.ndB a h v J (w a)) (B a)) G.n=ls at*
    obtain ⟨c1,c2⟩:=ZPV (a:=a) (h:=h) (v:=v) (v':=max v ls) (J:=J) (w:=w a) ok (by omega) (by omega)
    refine ⟨c1,?_,?_⟩
    ·dsimp only
     rw[c2];exact ZOK hk
    ·dsimp only
     rw[ZPx (gt:=gt) ok ha hJ (by omega) hk (λhg=>⟨(hgt hg).1,(hgt hg).2.1,(hgt hg).2.2.2⟩) hrel]
   ·have:(gt&&decide (a=J % G.n))=false:=by
     cases hg:gt with
     | false=>rfl
     | true=>
      have h1:=(hgt hg).2.2.1
      by_cases haJ:a=J % G.n
      ·rw[←haJ,hk] at h1;cases h1
      ·rw[decide_eq_false haJ];rfl
    dsimp only
    rw[this,Bool.false_and,if_neg (by decide),List.append_nil]
 ·have hx:=ZQ0 (G:=G) (xr:=λa=>ZOx N a (G.ndB a h v J (w a)) (B a)) G.n a ha hk
  obtain ⟨r1,r2,_⟩:=ZOz (N:=N) (a:=a) (M:=G.ndB a h v J (w a)) (l:=B a) λi hi=>(hB a ha i hi).2
  obtain ⟨_,l1,l2,_⟩:=ZOY (a:=a) (v:=v) (w:=w a) ok hJ hl
  refine ⟨λhw=>?_,λc hc hkc=>?_,λi hi hki hkt=>?_⟩
  ·have:=l1 hw;omega
  ·have:=l2 c hc hkc;omega
  ·have:=r2 i hi hki ((hbold a).trans hk) ((hbold _).trans hkt);omega
 ·obtain ⟨_,_,r3⟩:=ZOz (N:=N) (a:=a) (M:=G.ndB a h v J (w a)) (l:=B a) λi hi=>(hB a ha i hi).2
  obtain ⟨_,_,_,l3⟩:=ZOY (a:=a) (v:=v) (w:=w a) ok hJ hl
  obtain ⟨z1,z2,z3⟩:=hall a ha hk
  exact r3 z (l3 z hz z1 z2) λi hi hki hkt=>z3 i hi hki ((hbold _).symm.trans hkt)
def Rg.nx (G:Rg) (J a:Nat):Nat:=J+((a+G.n - G.pt J) % G.n)
theorem ZOe (ok:G.Ok) (J:Nat) (ha:a<G.n):J≤G.nx J a∧G.nx J a≤J+3∧(G.nx J a+1) % G.n=a∧G.nx J a≤G.nx (J+1) a∧(a=G.pt J→G.nx J a=J)∧(a≠G.pt J→J+1≤G.nx J a∧G.nx J (G.pr a)+1=G.nx J a)∧(a=G.pt (J+1)→G.nx J a=J+1)∧G.pr a<G.n∧G.pr a≠a∧(a=G.pt J→G.pr a=J % G.n):=by
 unfold Rg.nx Rg.pt Rg.pr
 rcases ZN5 ok with e | e | e <;> rw[e] at ha ⊢ <;> omega
theorem ZRI (ok:G.Ok) (J:Nat) (ha:a<G.n):G.tq (G.nx J a+1)=G.tq (G.nx J a)+G.d a:=by
 show G.tq (G.nx J a)+G.d ((G.nx J a+1) % G.n)=_
 rw[(ZOe ok J ha).2.2.1]
structure RgS where
 J:Nat
 inB:Bool
 gt:Bool
 h:Nat→Int
 tl:Nat→Int
 v:Int
 g:Int
 lst:Int
def RSt (G:Rg) (r:Nat) (s:RgS) (k:KS):Prop:=Acc G r k (λb=>G.nd b s.h (s.tl b) s.v s.J (!s.gt&&!s.inB&&decide (b=G.pt s.J))) (bxR G s.h s.tl s.J s.inB) (λ_ _=>[]) (ZQD G s.g s.v s.lst)
structure RgI (G:Rg) (s:RgS):Prop where
 le:∀a,a<G.n→0≤s.h a∧s.h a≤s.tl a
 i1:∀a,a<G.n→s.tl a≤G.tq (G.nx s.J a+1)
 i1g:s.gt=true∨s.inB=true→s.tl (s.J % G.n)≤G.tq s.J
 i2:∀a,a<G.n→G.κ a=true→s.v≤G.tq (G.nx s.J a)
 i3:∀a c,a<G.n→G.κ a=true→c<G.n→G.κ c=false→s.v≤s.tl c
 v0:0≤s.v∧s.v≤1000
 g1:s.gt=true→1≤s.J∧s.v≤G.tq (s.J - 1)∧G.κ (s.J % G.n)=true∧G.κ (G.pt s.J)=false∧s.inB=false
 g2:∀j,j<s.J→G.κ ((j+1) % G.n)=true→G.κ (G.sx ((j+1) % G.n))=false→¬(s.gt=true∧j+1=s.J)→G.tq j<s.v
 jE:∀j,j<s.J→G.tq j<G.E
def Rg.gt2 (G:Rg) (s:RgS):Bool:=s.gt || (G.tk s.tl s.J s.gt&&!G.so s.tl s.J s.gt)
def Rg.v2 (G:Rg) (s:RgS) (x:Int):Int:=if Zai G.W=0 then s.v else max s.v x
def Rg.rl (G:Rg) (s:RgS) (x:Int):Bool:=G.gt2 s&&decide (G.tq (G.J2 s.tl s.J s.gt - 1)<G.v2 s x)
def Rg.nxt (G:Rg) (s:RgS) (x:Int):RgS:=⟨G.J2 s.tl s.J s.gt,G.so s.tl s.J s.gt || G.rl s x,G.gt2 s&&!decide (G.tq (G.J2 s.tl s.J s.gt - 1)<G.v2 s x),s.tl,G.t2 s.tl s.v s.J s.gt,G.v2 s x,s.g+1,x⟩
def rnd (G:Rg) (k:KS):KS:=ph3 G (ph2 G (ph1 G k))
structure Lst (G:Rg) (s:RgS) (x:Int):Prop where
 wait:∀a,a<G.n→G.κ a=true→G.w2 s.tl s.J s.gt a=true→x≤G.tq s.J
 slow:∀a c,a<G.n→G.κ a=true→c<G.n→G.κ c=false→x≤s.tl c
 box:G.so s.tl s.J s.gt=true→G.κ (G.pt s.J)=true→x≤G.tq (s.J+1)
 ge:G.tk s.tl s.J s.gt=false→∀z,z≤Inf→z≤G.tq s.J→(∀c,c<G.n→z≤s.tl c)→z≤x
variable {s:RgS}
theorem ZRa (ok:G.Ok) (hi:RgI G s):s.J≤23:=by
 by_cases h0:s.J=0
 ·omega
 ·have h1:=hi.jE (s.J - 1) (by omega)
  have h2:=ZOm ok (s.J - 1)
  have h3:=ok.E
  omega
theorem ZRJ (ok:G.Ok) (hi:RgI G s):1≤G.tq s.J∧G.tq s.J≤28:=by
 have h2:=ZOm ok s.J
 have h3:=ok.E
 cases hJ:s.J with
 | zero=>exact ⟨by show (1:Int)≤1;omega,by show (1:Int)≤28;omega⟩
 | succ i=>
  have h1:=hi.jE i (by omega)
  have h4:=ok.d ((i+1) % G.n)
  have h5:G.tq (i+1)=G.tq i+G.d ((i+1) % G.n):=rfl
  rw[hJ] at h2
  omega
theorem ZPU (ok:G.Ok) (hi:RgI G s):∀c,c<G.n→0≤s.tl c∧s.tl c≤1000:=λc hc=>by
 have h1:=hi.le c hc
 have h2:=hi.i1 c hc
 have h3:=ZOe ok s.J hc
 have h4:=ZOm ok (G.nx s.J c+1)
 have h5:=ZRa ok hi
 omega
theorem ZOs {tl:Nat→Int} {J:Nat} {gt:Bool} (h:G.tk tl J gt=true):gt=false∧G.tq J<G.E∧(G.κ (G.pt J)=true∨G.tq J<G.bn tl (G.pt J)):=by
 unfold Rg.tk at h
 simp only[Bool.and_eq_true,Bool.not_eq_true',decide_eq_true_eq,Bool.or_eq_true] at h
 exact ⟨h.1.1,h.1.2,h.2⟩
theorem ZPS {tl:Nat→Int} {J:Nat} {gt:Bool} (h:G.so tl J gt=true):G.tk tl J gt=true∧(G.κ (G.pt J)=true→G.κ (G.sx (G.pt J))=true):=by
 unfold Rg.so at h
 simp only[Bool.and_eq_true,Bool.not_eq_true',Bool.and_eq_false_iff,Bool.not_eq_false'] at h
 exact ⟨h.1,λhk=>h.2.elim (λh2=>by rw[hk] at h2;cases h2) id⟩
theorem ZPb {tl:Nat→Int} {J:Nat} {gt:Bool} (ht:G.tk tl J gt=true) (h:G.so tl J gt=false):G.κ (G.pt J)=true∧G.κ (G.sx (G.pt J))=false:=by
 unfold Rg.so at h
 rw[ht,Bool.true_and] at h
 simpa using h
theorem ZP0 {tl:Nat→Int} {J:Nat} {gt:Bool} (h:G.tk tl J gt=false):G.so tl J gt=false:=by unfold Rg.so;rw[h];rfl
theorem ZOg {tl:Nat→Int} {J:Nat} {gt:Bool} (h:G.tk tl J gt=true):G.J2 tl J gt=J+1:=if_pos h
theorem ZNP {tl:Nat→Int} {J:Nat} {gt:Bool} (h:G.tk tl J gt=false):G.J2 tl J gt=J:=by unfold Rg.J2;rw[h];rfl
theorem ZPc {tl:Nat→Int} {v:Int} {J:Nat} {gt:Bool}:∀i∈G.b2 tl v J gt a,(i.Kind=2∧∃f,f<G.n∧i.m.To=(f:Int))∨(G.so tl J gt=true∧a=G.pt J∧i=Zae (G.mq (J+1))):=by
 intro i hi
 unfold Rg.b2 at hi
 split at hi
 ·rename_i h
  simp only[Bool.and_eq_true,decide_eq_true_eq] at h
  exact .inr ⟨h.1,h.2,List.mem_singleton.1 hi⟩
 ·split at hi
  ·obtain ⟨h1,f,h2,_,h3⟩:=ZPA i hi
   exact .inl ⟨h1,f,h2,h3⟩
  ·cases hi
theorem ZPP (ok:G.Ok) (hr:2≤r) (hs:RSt G r s k) (hi:RgI G s):∃x,RSt G r (G.nxt s x) (rnd G k)∧Lst G s x:=by
 have hn:=ok.n
 have hJ:=ZRa ok hi
 have hp:=ZPX ok s.J
 have hnp:=ZOe ok s.J hp
 have htl:=ZPU ok hi
 have hpq:G.κ (G.pt s.J)=true→s.v≤G.tq s.J:=λhk=>by
  have:=hi.i2 _ hp hk
  rwa [hnp.2.2.2.2.1 rfl] at this
 have h1:=ZRc ok hr (inB:=s.inB) (gt:=s.gt) (λhh=>by have:=(hi.g1 hh.2).2.2.2.2;rw[hh.1] at this;cases this) hs (λa ha=>⟨(hi.le a ha).1,(hi.le a ha).2,by have:=htl a ha;omega⟩) (λhb=>⟨hpq,hi.i1g (.inr hb)⟩) ZQ3
 have h2:=ZRl ok h1 (by omega) hi.v0 htl λ_=>hpq
 have hgt:G.gt2 s=true→1≤G.J2 s.tl s.J s.gt∧s.v≤G.tq (G.J2 s.tl s.J s.gt - 1)∧G.κ (G.J2 s.tl s.J s.gt % G.n)=true∧G.κ (G.sx (G.J2 s.tl s.J s.gt % G.n))=false:=by
  intro hg
  cases htk:G.tk s.tl s.J s.gt with
  | true=>
   rw[ZOg htk,Nat.add_sub_cancel]
   unfold Rg.gt2 at hg
   rw[htk,Bool.true_and,(ZOs htk).1,Bool.false_or] at hg
   have hso:G.so s.tl s.J s.gt=false:=by
    rw[(ZOs htk).1]
    simpa using hg
   obtain ⟨k1,k2⟩:=ZPb htk hso
   exact ⟨by omega,hpq k1,k1,k2⟩
  | false=>
   rw[ZNP htk]
   unfold Rg.gt2 at hg
   rw[htk,Bool.false_and,Bool.or_false] at hg
   obtain ⟨g1,g2,g3,g4,_⟩:=hi.g1 hg
   exact ⟨g1,g2,g3,by rw[ZO9];exact g4⟩
 have hrel:∀j,j<G.J2 s.tl s.J s.gt→G.κ ((j+1) % G.n)=true→G.κ (G.sx ((j+1) % G.n))=false→¬(G.gt2 s=true∧j+1=G.J2 s.tl s.J s.gt)→G.tq j<s.v:=by
  intro j hj k1 k2 hne
  cases htk:G.tk s.tl s.J s.gt with
  | true=>
   rw[ZOg htk] at hj hne
   have hg:=(ZOs htk).1
   by_cases hjJ:j=s.J
   ·subst hjJ
    refine absurd ⟨?_,rfl⟩ hne
    cases hso:G.so s.tl s.J s.gt with
    | true=>
     have:=(ZPS hso).2 k1
     rw[show G.sx (G.pt s.J)=G.sx ((s.J+1) % G.n) from rfl,k2] at this
     cases this
    | false=>unfold Rg.gt2;rw[htk,hso];simp
   ·exact hi.g2 j (by omega) k1 k2 λhh=>by rw[hg] at hh;cases hh.1
  | false=>
   rw[ZNP htk] at hj hne
   refine hi.g2 j hj k1 k2 λhh=>hne ⟨?_,hh.2⟩
   unfold Rg.gt2
   rw[hh.1]
   rfl
 have hJ2:G.J2 s.tl s.J s.gt≤s.J+1:=by unfold Rg.J2;split <;> omega
 obtain ⟨x,h3,hx,hge⟩:=ZRz (gt:=G.gt2 s) ok h2 (by omega) htl (λa ha i hi2=>by
   rcases ZPc i hi2 with ⟨g1,f,g2,g3⟩ | ⟨_,_,rfl⟩
   ·exact ⟨by rw[g3];omega,λhne=>absurd g1 hne⟩
   ·refine ⟨?_,λ_=>?_⟩
    ·show (0:Int)≤(((s.J+1+1) % G.n:Nat):Int)∧(((s.J+1+1) % G.n:Nat):Int)<G.n
     have:=Nat.mod_lt (s.J+1+1) (show 0<G.n by omega)
     omega
    ·show 0≤G.tq (s.J+1)∧G.tq (s.J+1)≤1000000
     have:=ZOm ok (s.J+1)
     omega) hi.v0.2 (λa ha hk hw=>by
   unfold Rg.w2 at hw
   simp only[Bool.and_eq_true,Bool.not_eq_true',decide_eq_true_eq] at hw
   rw[ZNP hw.1.2]
   rw[hw.2] at hk
   exact hpq hk) (λa c ha hk hc hkc=>hi.i3 a c ha hk hc hkc) hgt hrel
 refine ⟨x,?_,?_⟩
 ·unfold RSt
  refine h3.congr (λb _=>?_) (λa _=>?_) λ_ _ _ _=>rfl
  ·show G.nd b s.tl (G.t2 s.tl s.v s.J s.gt b) (G.v2 s x) (G.J2 s.tl s.J s.gt) (G.w2 s.tl s.J s.gt b)=G.nd b s.tl (G.t2 s.tl s.v s.J s.gt b) (G.v2 s x) (G.J2 s.tl s.J s.gt) (!(G.gt2 s&&!decide (G.tq (G.J2 s.tl s.J s.gt - 1)<G.v2 s x))&&!(G.so s.tl s.J s.gt || G.rl s x)&&decide (b=G.pt (G.J2 s.tl s.J s.gt)))
   congr 1
   unfold Rg.rl Rg.w2 Rg.gt2
   generalize decide (G.tq (G.J2 s.tl s.J s.gt - 1)<G.v2 s x)=q
   cases htk:G.tk s.tl s.J s.gt with
   | true=>
    rw[(ZOs htk).1]
    cases G.so s.tl s.J false <;> cases q <;> simp
   | false=>
    rw[ZP0 htk,ZNP htk]
    cases s.gt <;> cases q <;> simp
  ·show G.b2 s.tl s.v s.J s.gt a++(if (G.gt2 s&&decide (a=G.J2 s.tl s.J s.gt % G.n)&&decide (G.tq (G.J2 s.tl s.J s.gt - 1)<G.v2 s x))=true then [Zae (G.mq (G.J2 s.tl s.J s.gt))] else []) =
    (if (decide (s.tl a<G.t2 s.tl s.v s.J s.gt a))=true then ZOA G.n G.κ a (G.t2 s.tl s.v s.J s.gt a) else [])++(if ((G.so s.tl s.J s.gt || G.rl s x)&&decide (a=G.J2 s.tl s.J s.gt % G.n))=true then [Zae (G.mq (G.J2 s.tl s.J s.gt))] else [])
   unfold Rg.rl
   generalize decide (G.tq (G.J2 s.tl s.J s.gt - 1)<G.v2 s x)=q
   cases hso:(G.so s.tl s.J s.gt&&decide (a=G.pt s.J)) with
   | true=>
    have e1:G.b2 s.tl s.v s.J s.gt a=[Zae (G.mq (s.J+1))]:=if_pos hso
    have e2:G.t2 s.tl s.v s.J s.gt a=s.tl a:=if_pos hso
    simp only[Bool.and_eq_true,decide_eq_true_eq] at hso
    have htk:=(ZPS hso.1).1
    have e3:G.gt2 s=false:=by unfold Rg.gt2;rw[hso.1,(ZOs htk).1];simp
    have e4:a=(s.J+1) % G.n:=hso.2
    rw[e1,e2,e3,hso.1,ZOg htk,decide_eq_false (Int.lt_irrefl _),decide_eq_true e4]
    rfl
   | false=>
    have e1:G.b2 s.tl s.v s.J s.gt a=if s.tl a<G.n2 s.tl s.v s.J s.gt a then ZOA G.n G.κ a (G.n2 s.tl s.v s.J s.gt a) else []:=if_neg (by rw[hso];decide)
    have e2:G.t2 s.tl s.v s.J s.gt a=max (s.tl a) (G.n2 s.tl s.v s.J s.gt a):=if_neg (by rw[hso];decide)
    rw[e1,e2]
    congr 1
    ·by_cases hlt:s.tl a<G.n2 s.tl s.v s.J s.gt a
     ·rw[if_pos hlt,if_pos (by simp only[decide_eq_true_eq];omega),show max (s.tl a) (G.n2 s.tl s.v s.J s.gt a)=G.n2 s.tl s.v s.J s.gt a by omega]
     ·rw[if_neg hlt,if_neg (by simp only[decide_eq_true_eq];omega)]
    ·cases hs2:G.so s.tl s.J s.gt with
     | false=>
      rw[Bool.false_or,Bool.and_right_comm]
     | true=>
      have htk:=(ZPS hs2).1
      rw[hs2,Bool.true_and] at hso
      have e3:G.gt2 s=false:=by unfold Rg.gt2;rw[hs2,(ZOs htk).1];simp
      rw[e3,ZOg htk,show decide (a=(s.J+1) % G.n)=false from hso]
      rfl
 ·refine ⟨λa ha hk hw=>?_,λa c ha hk hc hkc=>(hx a ha hk).2.1 c hc hkc,λhso hk=>?_,λhtk z hz hzq hzl=>hge z hz λa ha hk=>⟨λhw=>?_,λc hc _=>hzl c hc,λi hib hki _=>?_⟩⟩
  ·have h4:=(hx a ha hk).1 hw
   unfold Rg.w2 at hw
   simp only[Bool.and_eq_true,Bool.not_eq_true',decide_eq_true_eq] at hw
   rwa [ZNP hw.1.2] at h4
  ·have h4:=(hx _ hp hk).2.2 (Zae (G.mq (s.J+1))) (by
    unfold Rg.b2
    rw[if_pos (by rw[hso,decide_eq_true rfl];rfl)]
    exact List.mem_singleton.2 rfl) (show ¬(0:Int)=2 by decide)
   refine h4 ?_
   have e1:(Zae (G.mq (s.J+1))).m.To.toNat=G.sx (G.pt s.J):=by
    show (G.mq (s.J+1)).To.toNat=_
    rw[ZQ2,Int.toNat_natCast]
    rfl
   rw[e1]
   exact (ZPS hso).2 hk
  ·rw[ZNP htk];exact hzq
  ·rcases ZPc i hib with ⟨g1,_⟩ | ⟨g1,_⟩
   ·exact absurd g1 hki
   ·rw[ZP0 htk] at g1;cases g1
end Go.Proofs.YtkpdpddmaoablaaGreat
end
