/- Texts of the proof, joined. Conditions: none. -/
import Derived.Test.YtceipnkeijhebaaGreatS6
section
namespace Go.Proofs.YtceipnkeijhebaaGreat
open Go Go.E
set_option maxRecDepth 100000
variable {e w:World} {L Q R:List HP} {K:KV} {S S2:HP}
variable {n f k:Nat} {wd:Wd} {fd:Fed} {N:WN}
theorem ZlJ (t:Int):(Ys N t).base fd=ZjE fd (N.base fd) (Zc6 t N.ms):=Zi8 fd N.old _ _
theorem Ztl (h:WOk wd f fd N k) (t:Int):(Ys N t).now fd=N.now fd:=by
 unfold WN.now;rw[ZlJ];show ZjE fd (ZjE fd (N.base fd)<|Zc6 t N.ms) (ZmO t N.ms)=_;rw[<-Zi8,ZnE h.ups]
theorem Zl5 (h:WOk wd f fd N k) (t:Int):(Ys N t).past wd f fd=ZzN t (N.past wd f fd):=by
 unfold WN.past;rw[ZlJ];exact (Zlk<|ZpI h.ups t).2.symm
theorem Zky (h:WOk wd f fd N k) (t:Int):Zx0 t (N.past wd f fd)=ZaC wd f fd N t:=(Zlk<|ZpI h.ups t).1
theorem ZnH (t:Int):(Ys N t).log wd f fd=N.log wd f fd++(ZaC wd f fd N t).map ZfV:=by
 show (Zc8 wd f fd (ZxV fd)<|N.old++Zc6 t N.ms).map ZfV=_;rw[Zi3,List.map_append];rfl
theorem ZBr (h:WOk wd f fd N k):(N.past wd f fd).Pairwise λa b=>Zv a.m.key b.m.key:=ZvE h.ups
def Zek (wd:Wd) (f:Nat) (fd:Fed) (N:WN) (t:Int):List Msg:=(Yq wd<|ZaC wd f fd N t).map Yz.m
theorem ZAT (h:WOk wd f fd N k):(N.log wd f fd).length<=k:=by
 have:=h.cnt;unfold WN.log;rw[List.length_map,ZbA];omega
theorem Zoe {t:Int} (hk0:k<=1000) (hS:Sat e w<|Ya n wd f fd N k::Q)
  (hno:ZaB N t≠0->∀w',Sat e w' (Ya n wd f fd N k::Q)->K (.tuple #[Sn,Sn,Iw<|ZaB N t]) w')
  (hyes:ZaB N t=0->∀v u w',Sat e w' (DD v ((ZaC wd f fd N t).map ZfV)::Zz 85 6 Msg.cs u (Zek wd f fd N t)::Ya n wd f fd (Ys N t) k::Q)->K (.tuple #[v,u,Iw 0]) w') :
  Cl prog 100 #[pt n,Iw t] w K:=by
 refine ZeP ?_;unfold ZeF;obtain ⟨X,q,p,g,b,m,lv,hX,h1⟩:=Zb4 hS;refine Zh<|Za<|Zb h1 0 rfl (v:=pt p) rfl<|Zfi (h1.pick 2 rfl)<|Za7 (λc=>Zi ?_)<|λc=>Zf ?_
 .have he:ZaB N t=110:=if_pos c;rw[he] at hno;exact hno (by decide) _ hS
 refine ZkN hS λw2 h2=>Ztu (λc2=>Zi ?_)<|λc2=>Zf ?_
 .have he:ZaB N t=130:=by unfold ZaB;rw[if_neg c,if_pos c2]
  rw[he] at hno;exact hno (by decide) _ h2
 have he:ZaB N t=0:=by unfold ZaB;rw[if_neg c,if_neg c2]
 clear h1;obtain ⟨X,q,p,g,b,m,lv,hX,h1⟩:=Zb4 h2;have hok:=hX.ok;refine Zh<|Za<|Zb h1 0 rfl (v:=pt p) rfl<|Zoq (h1.pick 2 rfl) λv w3 h3=>?_;rw[Zky hok,<-Zl5 hok] at h3;obtain ⟨xs,hxs,h4⟩:=ZxO h3;generalize hse:ZaC wd f fd N t=se at hxs hyes;have hsl:se.length<=64:=by
  rw[<-hse];unfold ZaC;rw[ZbA];exact Nat.le_trans (List.length_filter_le _ _) hok.ml
 have hxl:xs.length=se.length:=by rw[<-hxs,List.length_map]
 refine Qln h4 0 rfl ?_;rw[Zxk]
 replace h4:Sat e w3 (DE v xs::Yh (xs.map ZcP)::Yf p (max N.fl t) ((Ys N t).past wd f fd)::BW n X f (N.now fd).1 (N.now fd).2 q p g b lv::IsQ q N.q::Yo g N.fl (Yq wd<|N.past wd f fd)::Zag X::Zaj kI kI b m::DD lv (N.log wd f fd)::Q):=h4
 refine ZjF (λmm t7 t30 w=>∃j:Nat,j<=se.length/\t30=Iw j/\mm=se.length - j/\Sat e w (DD t7 ((se.take j).map ZfV)::DE v xs::Yh (xs.map ZcP)::Yf p (max N.fl t) ((Ys N t).past wd f fd)::BW n X f (N.now fd).1 (N.now fd).2 q p g b lv::IsQ q N.q::Yo g N.fl (Yq wd<|N.past wd f fd)::Zag X::Zaj kI kI b m::DD lv (N.log wd f fd)::Q)) se.length
  ⟨0,Nat.zero_le _,rfl,rfl,h4.own_nil 129 7 Zak.cs⟩ ?_
 rintro mm t7 _ w g1 ⟨j,hj,rfl,rfl,h5⟩ hg1;rw[hxl];refine Za7 (λc3=>Zi ?_)<|λc3=>Zf ?_
 .obtain ⟨x,hx⟩:=Zk (l:=xs) (j:=j) (by omega);have hxe:se[j]?=some x.e:=by rw[<-hxs,List.getElem?_map,hx];rfl
  refine Qix h5 1 rfl hx λa ha=>Ym h5 1 rfl ha rfl<|Yp (cs:=EnX.zero.cs) h5 rfl λt9 w6 h6=>Zq h6 0 rfl (vs:=x.cs) rfl rfl (by simp[EnX.zero,EnX.cs]) (EnX.flat<|ZlV 3 h6 rfl<|List.mem_of_getElem? hx) (cs':=x.cs) (by rfl) λw7 h7=>?_;refine Za<|Zo h7 0 (vs:=x.m.cs) rfl (by rfl) rfl<|Za<|Zb h7 0 rfl (v:=Iw x.st) rfl<|Zaf (ZfV x.e).cs (by kernel_rfl) ?_;refine Zj7 ZVt (f:=Zak.cs) (λ_=>rfl) (λ_=>Zg _) (h7.pick 1 rfl) (x:=ZfV x.e) rfl (by rw[List.length_map,List.length_take];omega) λv' w8 h8=>?_;refine Qincs<|hg1 _ _ _ _ (by omega) ⟨j+1,by omega,rfl,rfl,?_⟩;rw[Zx hxe,List.map_append];exact h8.sn 2 [0]
 .have ej:j=se.length:=by omega
  rw[ej,List.take_length] at h5;refine Zh<|Za<|Zb h5 4 rfl (v:=lv) rfl ?_;have hlf:=ZAT hok;refine Zeo ZVt ZVt.und (f:=Zak.cs) (l:=N.log wd f fd) (m:=se.map ZfV) (λ_=>rfl) (λ_=>Zg _) (h5.sn 10 [9,0,1,2,3,4,5,6,7,8]) (λ_=>Zp) (by rw[List.length_map];omega) λlv' w6 h6=>?_;have q1:=h6.own_cells 0 rfl;refine Zh (Za<|Zq h6 5 rfl (vs:=[lv']) q1.1 rfl (Nat.le_of_ble_eq_true rfl) (λc hc=>by rw[List.mem_singleton.1 hc];exact q1.2) (cs':=wcs X f (N.now fd).1 (N.now fd).2 q p g b lv') (by rfl) λw7 h7=>?_)
  replace h7:Sat e w7 (DD lv' (N.log wd f fd++se.map ZfV)::DD t7 (se.map ZfV)::DE v xs::Yh (xs.map ZcP)::Yf p (max N.fl t) ((Ys N t).past wd f fd)::BW n X f (N.now fd).1 (N.now fd).2 q p g b lv'::IsQ q N.q::Yo g N.fl (Yq wd<|N.past wd f fd)::Zag X::Zaj kI kI b m::Q):=h7
  refine Zh<|Za<|Zb h7 5 rfl (v:=pt g) rfl<|ZqO t (h7.pick 7 rfl) (ZiV hok) λu w8 h8=>?_;obtain ⟨hft,_⟩:=Zkb he;have hmax:max N.fl t=t:=by omega
  have hop:Zs6 (Yq wd<|N.past wd f fd) t=Yq wd se:=by
   rw[ZrI<|ZBr hok,<-hse,<-Zky hok];rfl
  have hleft:ZwV (Yq wd<|N.past wd f fd) t=Yq wd ((Ys N t).past wd f fd):=by
   rw[Zuu,Zl5 hok];rfl
  rw[hmax,hop,hleft] at h8;have hlog:N.log wd f fd++se.map ZfV=(Ys N t).log wd f fd:=by rw[ZnH,hse]
  rw[hlog] at h8;have hnow:=Ztl hok t;rw[<-hnow] at h8;have hop2:Zek wd f fd N t=(Yq wd se).map Yz.m:=by unfold Zek;rw[hse]
  rw[hop2] at hyes;have h9:=ZbQ (N:=Ys N t) (X:=X) (q:=q) (p:=p) (g:=g) (b:=b) (m:=m) (lv:=lv') ⟨hX.eq,hX.short,hok.commit he,hX.map⟩<|h8.sn 11 [7,8,6,1,9,10,2,3,0];exact hyes he t7 u _<|h9.sn 3 [1,2,0]
theorem Zyo {l:List Msg} {b:Int × Int} {m:Msg} (h:Upk<|l++[m]):Zx4 (Zc8 wd f fd b l) m.key:=by
 intro x hx;have h1:=List.mem_of_getLast? hx;exact h.mid (Zdm h1).1 (by simp)
theorem Zqd {m:Msg} {r:List Msg} (hq:N.q=m::r):(Zcv N).past wd f fd=N.past wd f fd++[ZoQ wd f fd (N.now fd) m]:=by
 rw[ZiD hq];show Zc8 wd f fd (N.base fd) (N.ms++[m])=_;rw[Zi3];rfl
theorem Zwi {m:Msg} {r:List Msg} (hq:N.q=m::r):(Zcv N).now fd=Zhz fd (N.now fd) m:=by
 rw[ZiD hq];show ZjE fd (N.base fd) (N.ms++[m])=_;rw[Zi8];rfl
theorem ZtN {m:Msg} {r:List Msg} (hq:N.q=m::r):Yq wd ((Zcv N).past wd f fd)=Yq wd (N.past wd f fd)++ZmR wd (ZoQ wd f fd (N.now fd) m):=by
 rw[Zqd hq,Zw5];congr 1;exact List.flatMap_singleton ..
theorem Zrp (hk0:k<=1000) (hS:Sat e w<|Ya n wd f fd N k::Q)
  (hno:Zcl wd f fd N≠0->∀w',Sat e w' (Ya n wd f fd N k::Q)->K (.tuple #[.agg Zak.zero.cs.toArray,Sn,Iw<|Zcl wd f fd N]) w')
  (hyes:Zcl wd f fd N=0->∀v w',Sat e w' (DI v (ZqQ wd<|Zin wd f fd N)::Ya n wd f fd (Zcv N) (k+1)::Q)->K (.tuple #[.agg (ZfV<|Zin wd f fd N).cs.toArray,v,Iw 0]) w') :
  Cl prog 296 #[pt n] w K:=by
 refine ZgF ?_;unfold ZgX;rw[ZYc,ZOc];refine Yp (cs:=Zak.zero.cs) hS rfl λt2 w1 h1=>?_;obtain ⟨X,q,p,g,b,mm,lv,hX,h2⟩:=Zb4 h1.swap;have hok:=hX.ok;have hEnd:X.End=wd.End:=congrArg Wd.End hX.eq;refine Zh (Za<|Zb h2 0 rfl (v:=pt q) rfl<|Zlv (h2.pick 1 rfl) λw3 h3=>Zam<|Zal<|Yp (cs:=Msg.zero.cs) h3 rfl λt5 w4 h4=>Zq h4 0 rfl (vs:=(hdM N.q).cs) rfl rfl (by decide) (Zg _) (cs':=(hdM N.q).cs) (by rfl) λw5 h5=>?_)
 replace h5:Sat e w5 (blk t5 85 (hdM N.q).cs::IsQ q N.q::BW n X f (N.now fd).1 (N.now fd).2 q p g b lv::Yf p N.fl (N.past wd f fd)::Yo g N.fl (Yq wd<|N.past wd f fd)::Zag X::Zaj kI kI b mm::DD lv (N.log wd f fd)::blk t2 129 Zak.zero.cs::Q):=h5
 refine ZaY h5 λw6 h6=>?_;have refuse:∀(er:Int) (w':World),Zcl wd f fd N=er->er≠0->Sat e w' (blk t5 85 (hdM N.q).cs::IsQ q N.q::BW n X f (N.now fd).1 (N.now fd).2 q p g b lv::Yf p N.fl (N.past wd f fd)::Yo g N.fl (Yq wd<|N.past wd f fd)::Zag X::Zaj kI kI b mm::DD lv (N.log wd f fd)::blk t2 129 Zak.zero.cs::Q)->
   bld (Zl prog 129) #[(0,6),(6,1)] [] w' λt35 w=>stN 7 (pt t2) t35 w λ_ w=>ldN 7 (pt t2) w λr0 _=>K (Value.tuple #[r0,Sn,Iw er]) w:=by
  intro er w' he hne h;refine Zaf Zak.zero.cs (by kernel_rfl) ?_;refine Zq h 8 rfl (vs:=Zak.zero.cs) rfl rfl (by decide) (Zg _) (cs':=Zak.zero.cs) (by kernel_rfl) λw7 h7=>?_;refine Zo h7 8 (vs:=Zak.zero.cs) rfl (by rfl) rfl ?_;subst he;exact hno hne _<|ZbQ hX<|h7.sn 9 [2,1,3,4,5,6,7]
 cases hq:ZjD N.q with
 | false=>
  exact Zch (Zd<|Zd<|Zd<|Zd<|Zd<|Zd<|Zd<|Zd<|Zd<|Yv<|Zi<|refuse 150 _ (if_pos<|λh=>by rw[hq] at h;cases h.1) (by decide) h6)
 | true=>
  refine ZaJ<|Zj<|Za<|Zj<|Za<|Zj<|Zb h6 0 rfl (v:=Iw (hdM N.q).key.T) rfl<|Zj<|Zj<|Zwz<|Zj<|Za<|Zj<|Za<|Zj<|Zb h6 2 rfl (v:=Iw X.End) rfl<|Zj<|Zu5 (λc1=>Yd<|Zi ?_)<|λc1=>Yd<|Zf ?_
  .exact refuse 150 _ (if_pos (λh=>by have:=h.2;omega)) (by decide) h6
  have hc:¬¬(ZjD N.q=true/\(hdM N.q).key.T<wd.End):=λh=>h ⟨hq,by omega⟩;refine Zh<|Za<|Zb h6 2 rfl (v:=pt p) rfl<|Znx (h6.pick 3 rfl) ?_;have hpl:(N.past wd f fd).length=N.ms.length:=ZbA ..;rw[hpl];have hml:=hok.ml;by_cases c2:(64:Int)<=N.ms.length
  .exact Zqv c2<|Zd<|Zd<|Zd<|Zd<|Zd<|Zd<|Zd<|Yv<|Zi<|refuse 2 _ (by unfold Zcl;rw[if_neg hc,if_pos (.inl<|by omega)]) (by decide) h6
  refine ZnR c2<|Zj<|Zj<|Zwz<|Zj<|Za<|Zj<|Zb h6 2 rfl (v:=pt g) rfl<|Zj<|Zrw (h6.pick 4 rfl) (ZiV hok) λv48 w7 h7=>?_;have hgl:=ZiV hok;refine Zj<|Qln h7 0 rfl<|Zj ?_;rw[List.length_map]
  replace h7:Sat e w7 (Zz 85 6 Msg.cs v48 ((Yq wd<|N.past wd f fd).map Yz.m)::Yo g N.fl (Yq wd<|N.past wd f fd)::blk t5 85 (hdM N.q).cs::IsQ q N.q::BW n X f (N.now fd).1 (N.now fd).2 q p g b lv::Yf p N.fl (N.past wd f fd)::Zag X::Zaj kI kI b mm::DD lv (N.log wd f fd)::blk t2 129 Zak.zero.cs::Q):=h7
  have h8:Sat e w7 (blk t5 85 (hdM N.q).cs::IsQ q N.q::BW n X f (N.now fd).1 (N.now fd).2 q p g b lv::Yf p N.fl (N.past wd f fd)::Yo g N.fl (Yq wd<|N.past wd f fd)::Zag X::Zaj kI kI b mm::DD lv (N.log wd f fd)::blk t2 129 Zak.zero.cs::Q):=h7.sn 10 [2,3,4,5,1,6,7,8,9];refine Ztu (λc3=>Yd<|Zi ?_)<|λc3=>Yd<|Zf ?_
  .exact refuse 2 _ (by unfold Zcl;rw[if_neg hc,if_pos (.inr<|by omega)]) (by decide) h8
  have he:Zcl wd f fd N=0:=by unfold Zcl;rw[if_neg hc,if_neg (by omega)]
  obtain ⟨m,r,hmr⟩:=ZoL hq;have hhd:hdM N.q=m:=by rw[hmr];rfl
  rw[hhd] at h8;obtain ⟨⟨m',r',hmr',hmt⟩,_,_⟩:=Zr5 he;rw[hmr] at hmr';obtain ⟨rfl,rfl⟩:=List.cons.inj hmr';clear h1 h2 h3 h4 h5 h6 h7 refuse hmr' hno;obtain ⟨fx,hfx,rfl⟩:=hX.fed;have hfxm:=List.mem_of_getElem? hfx;have hsf:=hX.short.fed fx hfxm;have hXp:X.Parents=wd.Parents:=congrArg Wd.Parents hX.eq;refine Zh<|Za<|Zb h8 2 rfl (v:=pt q) rfl<|Zvc (h8.pick 1 rfl) λw9 h9=>?_;rw[show N.q.tail=r from by rw[hmr];rfl] at h9
  replace h9:Sat e w9 (IsQ q r::blk t5 85 m.cs::BW n X f (N.now fx.f).1 (N.now fx.f).2 q p g b lv::Yf p N.fl (N.past wd f fx.f)::Yo g N.fl (Yq wd<|N.past wd f fx.f)::Zag X::Zaj kI kI b mm::DD lv (N.log wd f fx.f)::blk t2 129 Zak.zero.cs::Q):=h9
  refine ZaY h9 λw10 h10=>Zh<|Za<|Za<|Zb h10 2 rfl (v:=X.fv) rfl<|Zh<|Za<|Zb h10 2 rfl (v:=Iw f) rfl<|Zw h10 5 rfl (λg hg=>(Zct hg).feds) (λ_=>rfl) hfx λa ha=>Zbd ha λa1 ha1=>Yt h10 5 rfl ha1 (v:=fx.rv) rfl<|Zh<|Za<|Zb h10 2 rfl (v:=Iw (N.now fx.f).1) rfl<|Za<|Zb h10 1 rfl (v:=Iw m.Class) rfl<|Zkr (l:=fx.Rules) (s:=(N.now fx.f).1) (c:=m.Class) (h10.pick 5 rfl) (λg hg=>((Zct hg).fed fx hfxm).rules) hsf.rules hsf.sends λov w11 h11=>?_;obtain ⟨so,hso⟩:∃so,so=ZbY fx.f.Rules (N.now fx.f).1 m.Class:=⟨_,rfl⟩;have hso2:ZbY (fx.Rules.map Yg.r) (N.now fx.f).1 m.Class=so:=hso.symm;rw[hso2] at h11 ⊢;have houts:=ZlA hok.may (List.mem_of_getElem? hok.hfd) (N.now fx.f).1 m.Class;rw[<-hso] at houts;refine Zam (Zal ?_)
  replace h11:Sat e w11 (Zz 133 3 Out.cs ov so.2::Zag X::IsQ q r::blk t5 85 m.cs::BW n X f (N.now fx.f).1 (N.now fx.f).2 q p g b lv::Yf p N.fl (N.past wd f fx.f)::Yo g N.fl (Yq wd<|N.past wd f fx.f)::Zaj kI kI b mm::DD lv (N.log wd f fx.f)::blk t2 129 Zak.zero.cs::Q):=h11
  refine ZaY h11 λw12 h12=>Zh<|Za<|Zo h12 4 (vs:=X.cs) rfl (by rfl) rfl ?_;refine Zh<|Za<|Zb h12 4 rfl (v:=Iw f) rfl<|Zh<|Za<|Zb h12 4 rfl (v:=Iw (N.now fx.f).2) rfl<|Za<|Za<|Zb h12 3 rfl (v:=Iw m.key.T) rfl<|Za<|Zb h12 3 rfl (v:=Iw m.Body) rfl ?_;have hsu:=hok.sent;refine Zog (x:=X) (outs:=so.2) 1 0 rfl rfl h12 (λg hg=>Zct hg) (λ_=>Zp) hX.short (by rw[hXp];exact hok.may.tree) (λo ho=>by rw[hXp];exact (houts.2 o ho).1) (by omega) ⟨by omega,by omega⟩ λmv w13 h13=>?_;obtain ⟨en,hen⟩:∃en,en=ZoQ wd f fx.f (N.now fx.f) m:=⟨_,rfl⟩;have hsp:Zau X.w.Parents X.w.Feds f (N.now fx.f).2 m.key.T m.Body so.2=en.outs:=by rw[hX.eq,hso,hen];rfl
  rw[hsp] at h13;have hent:=ZnV hok.may hok.hfd (N.now fx.f) m;rw[<-hen] at hent;refine ZaY h13 λw14 h14=>Zh<|Za<|Zb h14 5 rfl (v:=pt p) rfl<|Zo h14 4 (vs:=m.cs) rfl (by rfl) rfl ?_;refine Zh<|Za<|Zb h14 5 rfl (v:=Iw (N.now fx.f).1) rfl<|Zh<|Za<|Zb h14 5 rfl (v:=Iw (N.now fx.f).2) rfl ?_;obtain ⟨A,cp,hmv,_⟩:=h14.shape 0 rfl<|λ_=>Zp;subst hmv;generalize hmv:Value.slice A en.outs.length cp=mv at h14;refine Zaf (EnX.cs ⟨m,(N.now fx.f).1,(N.now fx.f).2,so.1,.slice A en.outs.length cp,en.outs⟩) (by kernel_rfl) ?_;rw[hmv];have qm:=h14.own_cells 0 rfl;refine ⟨Zb h14 5 rfl (v:=pt p) rfl ⟨rfl,rfl⟩,?_⟩
  replace h14:Sat e w14 (Zz 85 6 Msg.cs mv en.outs::Zz 133 3 Out.cs ov so.2::Zag X::IsQ q r::blk t5 85 m.cs::BW n X f (N.now fx.f).1 (N.now fx.f).2 q p g b lv::Yf p N.fl (N.past wd f fx.f)::Yo g N.fl (Yq wd<|N.past wd f fx.f)::Zaj kI kI b mm::DD lv (N.log wd f fx.f)::blk t2 129 Zak.zero.cs::Q):=h14
  have hfl:¬m.key.T<N.fl:=by
   have:=hok.hi m (by rw[hmr];simp);omega
  have hup:Upk (N.ms++[m]):=by
   have:=hok.line;rw[hmr,show N.ms++m::r=(N.ms++[m])++r from by simp] at this;exact this.left
  refine Zri (x:=⟨m,(N.now fx.f).1,(N.now fx.f).2,so.1,mv,en.outs⟩) 0 rfl (show en.outs.length<=1000 by omega) (λ_=>Zp) hfl (Zyo hup) (show (N.past wd f fx.f).length<64 by omega) (h14.pick 6 rfl) λw15 h15=>?_;rw[show EnX.e ⟨m,(N.now fx.f).1,(N.now fx.f).2,so.1,mv,en.outs⟩=en from by rw[hso,hen];rfl] at h15
  replace h15:Sat e w15 (Yf p N.fl (N.past wd f fx.f++[en])::Zz 85 6 Msg.cs mv en.outs::Zz 133 3 Out.cs ov so.2::Zag X::IsQ q r::blk t5 85 m.cs::BW n X f (N.now fx.f).1 (N.now fx.f).2 q p g b lv::Yo g N.fl (Yq wd<|N.past wd f fx.f)::Zaj kI kI b mm::DD lv (N.log wd f fx.f)::blk t2 129 Zak.zero.cs::Q):=h15
  refine Zh<|Za<|Zb h15 6 rfl (v:=Iw (N.now fx.f).2) rfl<|Qln h15 2 rfl<|Qadds ?_;have hnb:Zhz fx.f (N.now fx.f) m=(so.1,(N.now fx.f).2+so.2.length):=by rw[hso];rfl
  refine Zh<|Za<|Zq h15 6 rfl (vs:=Yi [so.1]) rfl rfl (Nat.le_of_ble_eq_true rfl) (Zg _) (cs':=wcs X f so.1 (N.now fx.f).2 q p g b lv) (by rfl) λw16 h16=>?_;refine Zh (Za<|Zq h16 6 rfl (vs:=Yi [(N.now fx.f).2+so.2.length]) rfl rfl (Nat.le_of_ble_eq_true rfl) (Zg _) (cs':=wcs X f so.1 ((N.now fx.f).2+so.2.length) q p g b lv) (by rfl) λw17 h17=>?_)
  replace h17:Sat e w17 (Yf p N.fl (N.past wd f fx.f++[en])::Zz 85 6 Msg.cs mv en.outs::Zz 133 3 Out.cs ov so.2::Zag X::IsQ q r::blk t5 85 m.cs::BW n X f so.1 ((N.now fx.f).2+so.2.length) q p g b lv::Yo g N.fl (Yq wd<|N.past wd f fx.f)::Zaj kI kI b mm::DD lv (N.log wd f fx.f)::blk t2 129 Zak.zero.cs::Q):=h17
  refine Qln h17 1 rfl ?_;refine ZjF (λq' t10 t132 w=>∃i:Nat,i<=en.outs.length/\t132=Iw i/\q'=en.outs.length - i/\Sat e w (DI t10 (((en.outs.take i).filter λm=>Zci wd m.To).map Zae)::Yo g N.fl (Yq wd (N.past wd f fx.f)++((en.outs.take i).filter λm=>!Zci wd m.To).map λo=>⟨m.key,o⟩)::Yf p N.fl (N.past wd f fx.f++[en])::Zz 85 6 Msg.cs mv en.outs::Zag X::IsQ q r::blk t5 85 m.cs::BW n X f so.1 ((N.now fx.f).2+so.2.length) q p g b lv::Zaj kI kI b mm::DD lv (N.log wd f fx.f)::blk t2 129 Zak.zero.cs::Q)) en.outs.length
   ⟨0,Nat.zero_le _,rfl,rfl,?_⟩ ?_
  .rw[List.take_zero,List.filter_nil,List.filter_nil,List.map_nil,List.map_nil,List.append_nil];exact (h17.sn 11 [7,0,1,3,4,5,6,8,9,10]).own_nil 88 8 Zn.cs
  rintro q' t10 _ w g1 ⟨i,hi,rfl,rfl,h18⟩ hg1;refine Za7 (λd=>Zi ?_)<|λd=>Zf ?_
  .obtain ⟨o,ho⟩:=Zk (l:=en.outs) (j:=i) (by omega);have hot:=hent.2 o<|List.mem_of_getElem? ho;have hfs1:=Zdw (p:=λm=>Zci wd m.To) ho;have hfs2:=Zdw (p:=λm=>!Zci wd m.To) ho;have hl1:=List.length_filter_le (λm=>Zci wd m.To)<|en.outs.take i;have hl2:=List.length_filter_le (λm=>!Zci wd m.To)<|en.outs.take i;rw[List.length_take] at hl1 hl2;refine J1.cut (λt10' w=>Sat e w<|DI t10' (((en.outs.take<|i+1).filter λm=>Zci wd m.To).map Zae)::Yo g N.fl (Yq wd (N.past wd f fx.f)++((en.outs.take<|i+1).filter λm=>!Zci wd m.To).map λo=>⟨m.key,o⟩)::Yf p N.fl (N.past wd f fx.f++[en])::Zz 85 6 Msg.cs mv en.outs::Zag X::IsQ q r::blk t5 85 m.cs::BW n X f so.1 ((N.now fx.f).2+so.2.length) q p g b lv::Zaj kI kI b mm::DD lv (N.log wd f fx.f)::blk t2 129 Zak.zero.cs::Q) (λk2 hk2=>?_) ?_
   .refine Qix h18 3 rfl ho λa ha=>Ym h18 3 rfl ha rfl (Yp (cs:=Msg.zero.cs) h18 rfl λt12 w19 h19=>Zq h19 0 rfl (vs:=o.cs) rfl rfl (by decide) (Zg _) (cs':=o.cs) (by rfl) λw20 h20=>?_)
    replace h20:Sat e w20 (blk t12 85 o.cs::DI t10 (((en.outs.take i).filter λm=>Zci wd m.To).map Zae)::Yo g N.fl (Yq wd (N.past wd f fx.f)++((en.outs.take i).filter λm=>!Zci wd m.To).map λo=>⟨m.key,o⟩)::Yf p N.fl (N.past wd f fx.f++[en])::Zz 85 6 Msg.cs mv en.outs::Zag X::IsQ q r::blk t5 85 m.cs::BW n X f so.1 ((N.now fx.f).2+so.2.length) q p g b lv::Zaj kI kI b mm::DD lv (N.log wd f fx.f)::blk t2 129 Zak.zero.cs::Q):=h20
    refine Za<|Zb h20 0 rfl (v:=Iw o.To) rfl<|ZxA ⟨hot.1,by rw[hX.len];exact hot.2.1⟩ 8 5 rfl rfl h20 ?_;rw[hX.eq];cases hb:Zci wd o.To with
    | true=>
     refine Zi<|Zo h20 0 (vs:=o.cs) rfl (by rfl) rfl ?_;refine Zaf (Zae o).cs (by kernel_rfl) ?_;refine Zj7 ZW8 (f:=Zn.cs) (λ_=>rfl) (λ_=>Zg _) (h20.pick 1 rfl) (x:=Zae o) rfl (by rw[List.length_map];omega) λv' w21 h21=>?_;refine hk2 _ _ ?_;rw[hfs1,hfs2,hb];simp only[if_true,List.map_append,List.map_singleton,Bool.not_true,Bool.false_eq_true,if_false,List.append_nil];exact h21.sn 12 [0,2,3,4,5,6,7,8,9,10,11]
    | false=>
     refine Zf<|ZaY h20 λw21 h21=>Zh<|Za<|Zb h21 8 rfl (v:=pt g) rfl<|Za<|Zo h21 7 (vs:=m.key.cs) rfl (by rfl) rfl<|Zo h21 0 (vs:=o.cs) rfl (by rfl) rfl ?_;have hgl2:(Yq wd (N.past wd f fx.f)++((en.outs.take i).filter λm=>!Zci wd m.To).map λo=>(⟨m.key,o⟩:Yz)).length<256:=by
      rw[List.length_append,List.length_map];omega
     refine Zrq m.key o (h21.pick 2 rfl) (by omega) λw22 h22=>?_;have hhold:ZsN N.fl (Yq wd (N.past wd f fx.f)++((en.outs.take i).filter λm=>!Zci wd m.To).map λo=>(⟨m.key,o⟩:Yz)) m.key o=Yq wd (N.past wd f fx.f)++(((en.outs.take i).filter λm=>!Zci wd m.To).map λo=>(⟨m.key,o⟩:Yz))++[⟨m.key,o⟩]:=by
      unfold ZsN;rw[if_neg hfl,if_neg (by omega)]
     rw[hhold] at h22;refine hk2 _ _ ?_;rw[hfs1,hfs2,hb];simp only[Bool.not_false,if_true,List.map_append,List.map_singleton,Bool.false_eq_true,if_false,List.append_nil];rw[<-List.append_assoc];exact h22.sn 12 [2,0,3,4,5,6,7,8,9,10,11]
   .intro t10' w19 h19;exact Qincs<|hg1 _ _ _ _ (by omega) ⟨i+1,by omega,rfl,rfl,h19⟩
  .have ei:i=en.outs.length:=by omega
   rw[ei,List.take_length] at h18;refine Zo h18 6 (vs:=m.cs) rfl (by rfl) rfl ?_;refine Zaf (⟨m,so.1⟩:Zak).cs (by kernel_rfl) ?_;refine Zq h18 10 rfl (vs:=(⟨m,so.1⟩:Zak).cs) rfl rfl (Nat.le_of_ble_eq_true rfl) (Zg _) (cs':=(⟨m,so.1⟩:Zak).cs) (by rfl) λw19 h19=>?_;refine Zo h19 10 (vs:=(⟨m,so.1⟩:Zak).cs) rfl (by rfl) rfl ?_;have hsE:Zin wd f fx.f N=en:=by rw[hen];unfold Zin;rw[hhd]
   have hdE:ZfV en=⟨m,so.1⟩:=by rw[hen,hso];rfl
   rw[hsE,hdE] at hyes;refine hyes he t10 _ ?_;have hn2:(Zcv N).now fx.f=(so.1,(N.now fx.f).2+so.2.length):=by rw[Zwi hmr,hnb]
   have hp2:(Zcv N).past wd f fx.f=N.past wd f fx.f++[en]:=by rw[Zqd hmr,hen]
   have hg2:Yq wd ((Zcv N).past wd f fx.f)=Yq wd (N.past wd f fx.f)++(en.outs.filter λm=>!Zci wd m.To).map λo=>⟨m.key,o⟩:=by rw[ZtN hmr,<-hen];congr 1;unfold ZmR;rw[hen];rfl
   have hq2:(Zcv N).q=r:=by rw[ZiD hmr]
   have h20:=ZbQ (N:=Zcv N) (X:=X) (q:=q) (p:=p) (g:=g) (b:=b) (m:=mm) (lv:=lv) (k:=k+1) (n:=n) (f:=f) (wd:=wd) (fd:=fx.f) ⟨hX.eq,hX.short,hok.step he,hX.map⟩ (Q:=DI t10 ((en.outs.filter λm=>Zci wd m.To).map Zae)::Q) (e:=e) (w:=w19) (by
    rw[hn2,hg2,hp2,hq2];exact h19.sn 11 [7,5,2,1,4,8,9,0])
   exact h20.swap
def ZAM (wd:Wd) (f:Nat):Nd->Prop
 | .slow N=>Zzg N/\QOk N.q
 | .bold N _ _=>∃k,WOk wd f (Zs wd f) N k
def ZtC (wd:Wd) (f:Nat) (n n':Nd):Prop:=∃l,n'.log wd f=n.log wd f++l
def KOk (wd:Wd) (k:KS):Prop:=∀f,f<k.nodes.length->ZAM wd f (k.node f)
def ZdM (wd:Wd) (k k':KS):Prop:=k'.nodes.length=k.nodes.length/\∀f,ZtC wd f (k.node f)<|k'.node f
theorem ZtC.refl (f:Nat) (n:Nd):ZtC wd f n n:=⟨[],(List.append_nil _).symm⟩
theorem ZdM.refl (k:KS):ZdM wd k k:=⟨rfl,λf=>ZtC.refl f _⟩
theorem ZdM.trans {a b c:KS} (h:ZdM wd a b) (h':ZdM wd b c):ZdM wd a c:=⟨h'.1.trans h.1,λf=>by
 obtain ⟨l,hl⟩:=h.2 f;obtain ⟨l',hl'⟩:=h'.2 f;exact ⟨l++l',by rw[hl',hl,List.append_assoc]⟩⟩
theorem KOk.setN {k:KS} (h:KOk wd k) {a:Nat} {n:Nd} (hn:a<k.nodes.length->ZAM wd a n/\ZtC wd a (k.node a) n):KOk wd (k.setN a n)/\ZdM wd k (k.setN a n):=by
 have hlen:(k.setN a n).nodes.length=k.nodes.length:=List.length_set;refine ⟨λf hf=>?_,hlen,λf=>?_⟩
 .rw[hlen] at hf;rw[ZaK];split
  .rename_i h1;rw[<-h1.1];exact (hn h1.2).1
  .exact h f hf
 .rw[ZaK];split
  .rename_i h1;rw[<-h1.1];exact (hn h1.2).2
  .exact ZtC.refl f _
theorem ZwM (wd:Wd) (f:Nat) (fd:Fed) (N:WN) (j:Int) (i:Zn):(ZbE wd f fd N j i).N.old=N.old:=by
 have h6:∀{c:Prop} [Decidable c] {a b:HR},a.N.old=N.old->b.N.old=N.old->(if c then a else b).N.old=N.old:=by
  intro c _ a b ha hb;split
  .exact ha
  .exact hb
 unfold ZbE;exact h6 rfl<|h6 (h6 rfl<|h6 rfl rfl)<|h6 (h6 rfl<|h6 rfl<|h6 rfl rfl)<|h6 (h6 rfl<|h6 rfl<|h6 rfl<|h6 rfl<|h6 rfl rfl) rfl
theorem Zsl {N:ND} (h:QOk N.q) (j:Int) (i:Zn):QOk (Zd0 N j i).q:=by
 unfold Zd0;split
 .exact h
 .split
  .exact h.push _
  .exact h
theorem Ztf (c:Clk) (a b:Int):(c.tell a b).bound=c.bound:=by
 unfold Clk.tell;split <;> rfl
theorem Zpg {N:ND} (h:Zzg N) (fd:Fed):Zzg (ZiG fd N):=⟨h.up,λd hd=>by
 show _/\_<(N.clk.tell (Zcd N) fd.Look).bound;rw[Ztf];exact h.ahead d hd⟩
theorem ZlX {k:KS} (h:KOk wd k) (t:Int):KOk wd (k.settle wd t)/\ZdM wd k (k.settle wd t):=by
 unfold KS.settle;generalize List.range k.nodes.length=l;induction l generalizing k with
 | nil=>exact ⟨h,ZdM.refl k⟩
 | cons f l ih=>
  have one:∀k':KS,KOk wd k'->ZdM wd k k'->KOk wd (l.foldl (λk f=>match k.node f with
   | .slow _=>k
   | .bold N r told=>if ZaB N t=0 then (k.setN f (.bold (Ys N t) r told)).put f (((Yq wd<|ZaC wd f (Zs wd f) N t).map Yz.m).map Zae) else k) k')/\ZdM wd k (l.foldl (λk f=>match k.node f with
   | .slow _=>k
   | .bold N r told=>if ZaB N t=0 then (k.setN f (.bold (Ys N t) r told)).put f (((Yq wd<|ZaC wd f (Zs wd f) N t).map Yz.m).map Zae) else k) k'):=λk' h1 h2=>by
   obtain ⟨h3,h4⟩:=ih h1;exact ⟨h3,h2.trans h4⟩
  rw[List.foldl_cons];cases hn:k.node f with
  | slow N=>exact one _ h (ZdM.refl k)
  | bold N r told=>
   dsimp only;split
   .rename_i he;obtain ⟨g1,g2⟩:=h.setN (a:=f) (n:=.bold (Ys N t) r told) λhf=>by
     have h1:=h f hf;rw[hn] at h1;obtain ⟨m,hW⟩:=h1;refine ⟨⟨m,hW.commit he⟩,(ZaC wd f (Zs wd f) N t).map ZfV,?_⟩;rw[hn];exact ZnH t
    exact one _ g1 g2
   .exact one _ h<|ZdM.refl k
theorem ZrD {k k':KS} (h1:KOk wd k') (h2:ZdM wd k k') (t:Int):KOk wd (k'.settle wd t)/\ZdM wd k (k'.settle wd t):=⟨(ZlX h1 t).1,h2.trans (ZlX h1 t).2⟩
theorem ZzL {k:KS} (h:KOk wd k) (kind a b:Nat):KOk wd (k.do' wd kind a b).2/\ZdM wd k (k.do' wd kind a b).2:=by
 have same:KOk wd k/\ZdM wd k k:=⟨h,ZdM.refl k⟩;unfold KS.do';split
 .unfold KS.step;split
  .exact same
  .split
   .rename_i N hn;split
    .rename_i hs;exact h.setN (a:=a) (n:=.slow<|Zmn (Zs wd a) N) λha=>by
      have h1:=h a ha;rw[hn] at h1 ⊢;exact ⟨⟨Zps h1.1 h1.2 hs,h1.2.tail⟩,[ZmU (Zs wd a) N],rfl⟩
    .exact same
   .rename_i N r t hn;split
    .rename_i he;exact h.setN (a:=a) (n:=.bold (Zcv N) r t) λha=>by
      have h1:=h a ha;rw[hn] at h1 ⊢;obtain ⟨m,hW⟩:=h1;exact ⟨⟨m+1,hW.step he⟩,[],(List.append_nil _).symm⟩
    .exact same
 .unfold KS.flush;split
  .exact same
  .split
   .exact same
   .dsimp only;split
    .exact same
    .exact same
 .unfold KS.deliver;split
  .exact same
  .rename_i i r hb;dsimp only;split
   .exact same
   .have hs:KOk wd (k.setN b (k.hears wd a b i).2.2)/\ZdM wd k (k.setN b (k.hears wd a b i).2.2):=h.setN λhbl=>by
     have h1:=h b hbl;unfold KS.hears;cases hn:k.node b with
     | slow N=>
      rw[hn] at h1;obtain ⟨⟨e1,_⟩,_⟩:=Zmf N a i;exact ⟨⟨Zpb h1.1 _ _,Zsl h1.2 _ _⟩,[],by rw[List.append_nil];exact e1⟩
     | bold N rk t=>
      rw[hn] at h1;obtain ⟨m,hW⟩:=h1;refine ⟨⟨m,hW.hear _ _⟩,[],?_⟩;rw[List.append_nil];show (Zc8 wd b (Zs wd b) (ZxV<|Zs wd b) (ZbE wd b (Zs wd b) N a i).N.old).map ZfV=_;rw[ZwM];rfl
    split
    .exact hs
    .exact hs
 .unfold KS.tell;split
  .exact same
  .split
   .rename_i N hn;split
    .exact h.setN (a:=a) (n:=.slow<|ZiG (Zs wd a) N) λha=>by
      have h1:=h a ha;rw[hn] at h1 ⊢;exact ⟨⟨Zpg h1.1 _,h1.2⟩,[],(List.append_nil _).symm⟩
    .exact same
   .rename_i N r t hn;split
    .exact same
    .exact h.setN (a:=a) (n:=.bold N r<|Za6 (Zs wd a) N) λha=>by
      have h1:=h a ha;rw[hn] at h1 ⊢;exact ⟨h1,[],(List.append_nil _).symm⟩
 .unfold KS.begin';split
  .exact same
  .split
   .exact same
   .exact same
 .unfold KS.turn;split
  .split
   .exact same
   .exact same
  .exact same
 .unfold KS.report;split
  .split
   .exact same
   .split
    .exact same
    .dsimp only;split
     .show KOk wd (KS.settle wd _ _)/\ZdM wd k (KS.settle wd _ _);refine ZrD ?_ ?_ _
      .exact h
      .exact ZdM.refl k
     .exact same
  .exact same
theorem Zya (t:Int):Yu (ZaD t)=true:=by
 unfold Yu;rw[decide_eq_true_iff];unfold ZaD Inf Zsq
 (repeat' split) <;> omega
theorem ZjT (a b:Int):Yu (ZvS a b)=true:=Zya _
theorem ZsR {a b:Int} (ha:Yu a=true) (hb:Yu b=true):Yu (min a b)=true:=by
 unfold Yu at*;rw[decide_eq_true_iff] at*;unfold Inf Zsq at*;omega
theorem Zo9:∀l:List Int,Yu (ZaP l)=true:=by
 have key:∀(l:List Int) (n:Int),Yu n=true->Yu (l.foldl (λn t=>min n<|ZaD t) n)=true:=by
  intro l;induction l with
  | nil=>exact λn h=>h
  | cons t l ih=>exact λn h=>ih _<|ZsR h<|Zya t
 exact λl=>key l Inf (by decide)
theorem Zmc {t:Int} (h:Yu t=true):0<=t/\t<=Inf/\ZmY t:=by
 unfold Yu at h;rw[decide_eq_true_iff] at h;unfold ZmY;unfold Inf Zsq at*;omega
structure Zb8 (n:Nat) (i:Zn):Prop where
 kind:0<=i.Kind/\i.Kind<=2
 col:0<=i.Colour/\i.Colour<=1
 to:0<=i.m.To/\i.m.To<n
 time:Yu i.m.key.T=true
def Zrh (n:Nat) (m:Msg):Prop:=(0<=m.To/\m.To<n)/\Yu m.key.T=true
structure ZeV (c:CL) (m s:Nat):Prop where
 t:c.T.length=m
 r:c.Rp.length=m
 begun:0<=c.begun/\c.begun<=s
 over:0<=c.over/\c.over<=c.begun
 on:(0<=c.on0/\c.on0<=s)/\0<=c.on1/\c.on1<=s
def Zai (wd:Wd):Nat:=(wd.Feds.filter λf=>!decide (f.Kind=0)).length
structure Ze1 (wd:Wd) (k:KS) (s:Nat):Prop where
 may:ZoS wd
 ok:KOk wd k
 nl:k.nodes.length=wd.Feds.length
 bl:k.boxes.length=wd.Feds.length
 netl:k.net.length=wd.Feds.length
 rowl:∀a,a<wd.Feds.length->(k.net.getD a []).length=wd.Feds.length
 box:∀a,∀i∈k.box a,Zb8 wd.Feds.length i
 q:∀a b,∀i∈k.q a b,Zb8 wd.Feds.length i
 self:∀a,k.q a a=[]
 rank:∀a,a<wd.Feds.length->(k.node a).isBold=true->(k.node a).rank<Zai wd
 kind:∀a,a<wd.Feds.length->(k.node a).isBold=!decide ((Zs wd a).Kind=0)
 cut:if Zai wd=0 then k.cut=none else ∃c,k.cut=some c/\ZeV c (Zai wd) s
 len:∀a,(k.box a).length<=40000*(s+1)
theorem Zi2 {ps:List Int} {feds:List Fed} {f seq now body:Int} {outs:List Out} {m:Msg} (h:m∈Zau ps feds f seq now body outs):Zrh feds.length m:=by
 obtain ⟨i,o,to,_,h2,rfl⟩:=Znf h;exact ⟨⟨(ZhA h2).1,(ZhA h2).2.1⟩,ZjT _ _⟩
theorem Zb8.plain {n:Nat} {m:Msg} (h:Zrh n m):Zb8 n (Zae m):=⟨⟨Int.le_refl 0,show (0:Int)<=2 by decide⟩,⟨Int.le_refl 0,show (0:Int)<=1 by decide⟩,h.1,h.2⟩
theorem Zb8.anti {n:Nat} {m:Msg} (h:Zrh n m):Zb8 n (Zs1 m):=⟨⟨show (0:Int)<=1 by decide,show (1:Int)<=2 by decide⟩,⟨Int.le_refl 0,show (0:Int)<=1 by decide⟩,h.1,h.2⟩
theorem ZxX {f:Nat} {fd:Fed} {b:Int × Int} {l:List Msg} {x:En} (h:x∈Zc8 wd f fd b l) {m:Msg} (hm:m∈x.outs):Zrh wd.Feds.length m:=by
 obtain ⟨_,b',hx⟩:=Zdm h;rw[hx] at hm;exact Zi2 hm
theorem Zz9 {f:Nat} {fd:Fed} {b:Int × Int} {x:Msg} {m:Msg} (hm:m∈(ZoQ wd f fd b x).outs):Zrh wd.Feds.length m:=Zi2 hm
theorem ZzU {f:Nat} {fd:Fed} {b:Int × Int} {l:List Msg} {i:Zn} (h:i∈Zk4 wd (Zc8 wd f fd b l)):Zb8 wd.Feds.length i:=by
 unfold Zk4 at h;obtain ⟨x,hx,hi⟩:=List.mem_flatMap.1 h;unfold Zjg at hi;obtain ⟨m,hm,rfl⟩:=List.mem_map.1 hi;exact .anti<|ZxX (List.mem_reverse.1 hx) (List.mem_filter.1 hm).1
theorem ZAj {f:Nat} {fd:Fed} {b:Int × Int} {l:List Msg} {i:Zn} (h:i∈((Yq wd<|Zc8 wd f fd b l).map Yz.m).map Zae):Zb8 wd.Feds.length i:=by
 obtain ⟨m,hm,rfl⟩:=List.mem_map.1 h;obtain ⟨y,hy,rfl⟩:=List.mem_map.1 hm;unfold Yq at hy;obtain ⟨x,hx,hy⟩:=List.mem_flatMap.1 hy;exact .plain<|ZxX hx (ZbU hy).2.1
theorem Zls {f:Nat} {fd:Fed} {N:WN} {j:Int} {i:Zn}:(ZbE wd f fd N j i).out=[]\/(ZbE wd f fd N j i).out=Zk4 wd (ZiU wd f fd N i.m.key):=by
 have h6:∀{c:Prop} [Decidable c] {a b:HR} {l:List Zn},(a.out=[]\/a.out=l)->(b.out=[]\/b.out=l)->((if c then a else b).out=[]\/(if c then a else b).out=l):=by
  intro c _ a b l ha hb;split
  .exact ha
  .exact hb
 have o:∀{a:HR} {l:List Zn},a.out=[]->(a.out=[]\/a.out=l):=λh=>.inl h;unfold ZbE;exact h6 (o rfl)<|h6 (h6 (o rfl)<|h6 (o rfl)<|o rfl)<|h6 (h6 (o rfl)<|h6 (o rfl)<|h6 (o rfl) (.inr rfl))<|h6 (h6 (o rfl)<|h6 (o rfl)<|h6 (o rfl)<|h6 (o rfl)<|h6 (o rfl) (.inr rfl))<|o rfl
theorem Zn5 {α β:Type} (g:α->List β) (c:Nat):∀l:List α,(∀a∈l,(g a).length<=c)->(l.flatMap g).length<=l.length*c
 | [],_=>by simp
 | a::l,h=>by
  rw[List.flatMap_cons,List.length_append,List.length_cons,Nat.add_mul];have h1:=h a<|List.mem_cons_self ..;have h2:=Zn5 g c l λx hx=>h x<|List.mem_cons_of_mem _ hx;omega
theorem Zge (h:ZoS wd) {f:Nat} {fd:Fed} (hfd:wd.Feds[f]?=some fd) {b:Int × Int} {x:Msg}:(ZoQ wd f fd b x).outs.length<=24:=by
 have h1:=Zoj h hfd b.1 x.Class;have h2:=ZcU wd.Parents wd.Feds f b.2 x.key.T x.Body (ZbY fd.Rules b.1 x.Class).2;have h3:=Nat.mul_le_mul h1 h.n.2;exact Nat.le_trans h2 h3
theorem Zuf (h:ZoS wd) {f:Nat} {fd:Fed} (hfd:wd.Feds[f]?=some fd) {b:Int × Int} {l:List Msg} {x:En} (hx:x∈Zc8 wd f fd b l):x.outs.length<=24:=by
 obtain ⟨_,b',hx'⟩:=Zdm hx;rw[hx'];exact Zge h hfd
theorem ZrY (h:ZoS wd) {f:Nat} {fd:Fed} (hfd:wd.Feds[f]?=some fd) {b:Int × Int} {l:List Msg}:(Zk4 wd<|Zc8 wd f fd b l).length<=l.length*24:=by
 unfold Zk4;have:=Zn5 (Zjg wd) 24 (Zc8 wd f fd b l).reverse λx hx=>by
  unfold Zjg;rw[List.length_map];exact Nat.le_trans (List.length_filter_le _ _)<|Zuf h hfd<|List.mem_reverse.1 hx
 rwa [List.length_reverse,ZbA] at this
theorem Zxq (h:ZoS wd) {f:Nat} {fd:Fed} (hfd:wd.Feds[f]?=some fd) {b:Int × Int} {l:List Msg}:(Yq wd<|Zc8 wd f fd b l).length<=l.length*24:=by
 unfold Yq;have:=Zn5 (ZmR wd) 24 (Zc8 wd f fd b l) λx hx=>by
  unfold ZmR;rw[List.length_map];exact Nat.le_trans (List.length_filter_le _ _)<|Zuf h hfd hx
 rwa [ZbA] at this
theorem ZaN {a:Nat} (ha:a<wd.Feds.length):wd.Feds[a]?=some (Zs wd a):=by
 unfold Zs;rw[List.getD_eq_getElem?_getD,List.getElem?_eq_getElem ha];rfl
theorem Ze1.mono {k:KS} {s t:Nat} (h:Ze1 wd k s) (hs:s<=t):Ze1 wd k t:=by
 refine ⟨h.may,h.ok,h.nl,h.bl,h.netl,h.rowl,h.box,h.q,h.self,h.rank,h.kind,?_,λa=>Nat.le_trans (h.len a)<|by omega⟩;have:=h.cut;split
 .rename_i hb;rwa [if_pos hb] at this
 .rename_i hb;rw[if_neg hb] at this;obtain ⟨c,hc,h1,h2,h3,h4,h5⟩:=this;exact ⟨c,hc,h1,h2,by omega,h4,by omega⟩
structure ZdF (wd:Wd) (k:KS) (s:Nat) (n:Nat):Prop where
 inv:Ze1 wd { k with boxes:=List.replicate wd.Feds.length [] } s
 bl:k.boxes.length=wd.Feds.length
 box:∀a,∀i∈k.box a,Zb8 wd.Feds.length i
 len:∀a,(k.box a).length<=n
theorem ZsB (k:KS) (n a:Nat):KS.box { k with boxes:=List.replicate n [] } a=[]:=by
 unfold KS.box;rw[List.getD_eq_getElem?_getD,List.getElem?_replicate];split <;> rfl
theorem ZlO {k:KS} {n m:Nat}:∀a,∀i∈KS.box { k with boxes:=List.replicate n [] } a,Zb8 m i:=λa i hi=>by
 rw[ZsB] at hi;cases hi
theorem Zii {k:KS} {n m:Nat}:∀a,(KS.box { k with boxes:=List.replicate n [] } a).length<=m:=λa=>by
 rw[ZsB];exact Nat.zero_le _
theorem Ze1.pre {k:KS} {s:Nat} (h:Ze1 wd k s):ZdF wd k s (40000*(s+1)):=
 ⟨⟨h.may,h.ok,h.nl,List.length_replicate,h.netl,h.rowl,ZlO,h.q,h.self,h.rank,h.kind,h.cut,Zii⟩,h.bl,h.box,h.len⟩
theorem ZdF.all {k:KS} {s n:Nat} (h:ZdF wd k s n) (hn:n<=40000*(s+1)):Ze1 wd k s:=
 ⟨h.inv.may,h.inv.ok,h.inv.nl,h.bl,h.inv.netl,h.inv.rowl,h.box,h.inv.q,h.inv.self,h.inv.rank,h.inv.kind,h.inv.cut,λa=>Nat.le_trans (h.len a) hn⟩
theorem ZdF.mono {k:KS} {s t n m:Nat} (h:ZdF wd k s n) (hs:s<=t) (hn:n<=m):ZdF wd k t m:=⟨h.inv.mono hs,h.bl,h.box,λa=>Nat.le_trans (h.len a) hn⟩
theorem ZdF.put {k:KS} {s n:Nat} (h:ZdF wd k s n) {a m:Nat} {l:List Zn} (hl:∀i∈l,Zb8 wd.Feds.length i) (hm:l.length<=m):ZdF wd (k.put a l) s (n+m):=by
 refine ⟨h.inv,by unfold KS.put;rw[List.length_set];exact h.bl,λf i hi=>?_,λf=>?_⟩
 .rw[Zmr] at hi;split at hi
  .rcases List.mem_append.1 hi with hi | hi
   .exact h.box a i hi
   .exact hl i hi
  .exact h.box f i hi
 .rw[Zmr];have h1:=h.len a;have h2:=h.len f;split
  .rw[List.length_append];omega
  .omega
theorem ZdF.setN {k:KS} {s n:Nat} (h:ZdF wd k s n) {a:Nat} {N:Nd} (hN:a<wd.Feds.length->ZAM wd a N) (hb:N.isBold=(k.node a).isBold) (hr:N.rank=(k.node a).rank):ZdF wd (k.setN a N) s n:=by
 have hnode:∀f,(k.setN a N).node f=if a=f/\a<k.nodes.length then N else k.node f:=λf=>ZaK ..
 have hnl:k.nodes.length=wd.Feds.length:=h.inv.nl;have hb':∀f,((k.setN a N).node f).isBold=(k.node f).isBold:=λf=>by
  rw[hnode];split
  .rename_i h1;rw[<-h1.1];exact hb
  .rfl
 have hr':∀f,((k.setN a N).node f).rank=(k.node f).rank:=λf=>by
  rw[hnode];split
  .rename_i h1;rw[<-h1.1];exact hr
  .rfl
 have hl:(k.setN a N).nodes.length=wd.Feds.length:=by
  have:(k.setN a N).nodes.length=k.nodes.length:=List.length_set;rw[this,hnl]
 refine ⟨⟨h.inv.may,λf hf=>?_,hl,List.length_replicate,h.inv.netl,h.inv.rowl,ZlO,h.inv.q,h.inv.self,λf hf hfb=>?_,λf hf=>?_,h.inv.cut,Zii⟩,h.bl,h.box,h.len⟩
 .show ZAM wd f ((k.setN a N).node f);rw[hnode];split
  .rename_i h1;rw[<-h1.1];exact hN (by rw[<-hnl];exact h1.2)
  .refine h.inv.ok f ?_;show f<k.nodes.length;rw[hnl,<-hl];exact hf
 .show ((k.setN a N).node f).rank<Zai wd;rw[hr'];refine h.inv.rank f hf ?_;show (k.node f).isBold=true;rw[<-hb' f];exact hfb
 .show ((k.setN a N).node f).isBold=_;rw[hb'];exact h.inv.kind f hf
theorem Zy2 (l:List<|List<|List Zn) (a b c d:Nat) (x:List Zn):((l.set a<|(l.getD a []).set b x).getD c []).getD d []=if a=c/\b=d/\a<l.length/\b<(l.getD a []).length then x else (l.getD c []).getD d []:=by
 rw[ZaX];by_cases h1:a=c
 .subst h1;by_cases h2:a<l.length
  .rw[if_pos ⟨rfl,h2⟩,ZaX];by_cases h3:b=d/\b<(l.getD a []).length
   .rw[if_pos h3,if_pos ⟨rfl,h3.1,h2,h3.2⟩]
   .rw[if_neg h3,if_neg<|λh=>h3 ⟨h.2.1,h.2.2.2⟩]
  .rw[if_neg<|λh=>h2 h.2,if_neg<|λh=>h2 h.2.2.1]
 .rw[if_neg<|λh=>h1 h.1,if_neg<|λh=>h1 h.1]
theorem Zy1 (k:KS) (a b c d:Nat) (l:List Zn):(k.setQ a b l).q c d=if a=c/\b=d/\a<k.net.length/\b<(k.net.getD a []).length then l else k.q c d:=Zy2 ..
theorem ZdF.setQ {k:KS} {s n:Nat} (h:ZdF wd k s n) {a b:Nat} {l:List Zn} (hl:∀i∈l,Zb8 wd.Feds.length i) (hab:a=b->l=[]):ZdF wd (k.setQ a b l) s n:=by
 refine ⟨⟨h.inv.may,h.inv.ok,h.inv.nl,List.length_replicate,?_,λf hf=>?_,ZlO,λc d i hi=>?_,λc=>?_,h.inv.rank,h.inv.kind,h.inv.cut,Zii⟩,h.bl,h.box,h.len⟩
 .show (k.net.set a _).length=_;rw[List.length_set];exact h.inv.netl
 .show ((k.net.set a<|(k.net.getD a []).set b l).getD f []).length=_;rw[ZaX];split
  .rename_i h1;rw[List.length_set,h1.1];exact h.inv.rowl f hf
  .exact h.inv.rowl f hf
 .have hi':i∈(k.setQ a b l).q c d:=hi;rw[Zy1] at hi';split at hi'
  .exact hl i hi'
  .exact h.inv.q c d i hi'
 .show (k.setQ a b l).q c c=[];rw[Zy1];split
  .rename_i h1;exact hab<|h1.1.trans h1.2.1.symm
  .exact h.inv.self c
theorem ZdF.cut {k:KS} {s t n:Nat} (h:ZdF wd k s n) (hs:s<=t) {c:CL} (hc:Zai wd≠0) (ho:ZeV c (Zai wd) t):ZdF wd { k with cut:=some c } t n:=by
 have h':=h.mono hs<|Nat.le_refl _;refine ⟨⟨h.inv.may,h.inv.ok,h.inv.nl,List.length_replicate,h.inv.netl,h.inv.rowl,ZlO,h.inv.q,h.inv.self,h.inv.rank,h.inv.kind,?_,Zii⟩,h.bl,h.box,h.len⟩;rw[if_neg hc];exact ⟨c,rfl,ho⟩
theorem Ze1.cutIs {k:KS} {s:Nat} (h:Ze1 wd k s) {c:CL} (hc:k.cut=some c):Zai wd≠0/\ZeV c (Zai wd) s:=by
 have h1:=h.cut;by_cases hb:Zai wd=0
 .rw[if_pos hb,hc] at h1;cases h1
 .rw[if_neg hb] at h1;obtain ⟨c',hc',ho⟩:=h1;rw[hc] at hc';cases hc';exact ⟨hb,ho⟩
theorem ZeV.setOn {c:CL} {m s:Nat} (h:ZeV c m s) {k x:Int} (hx:0<=x/\x<=(s+1:Nat)):ZeV (c.setOn k x) m (s+1):=by
 have h5:=h.on;have h3:=h.begun;unfold CL.setOn;split
 .exact ⟨h.t,h.r,by dsimp only;omega,h.over,by dsimp only;omega⟩
 .exact ⟨h.t,h.r,by dsimp only;omega,h.over,by dsimp only;omega⟩
theorem ZeV.onk {c:CL} {m s:Nat} (h:ZeV c m s) (k:Int):0<=c.on k/\c.on k<=s:=by
 have h5:=h.on;unfold CL.on;split <;> omega
theorem ZeV.sent {c:CL} {m s:Nat} (h:ZeV c m s) (i:Nat) (t:Int):ZeV (c.sent i t) m (s+1):=by
 have h1:=h.onk<|c.t i % 2;have h2:=h.setOn (k:=c.t i % 2) (x:=c.on (c.t i % 2)+1) (by omega);unfold CL.sent;split
 .exact ⟨h2.t,h2.r,h2.begun,h2.over,h2.on⟩
 .exact h2
theorem ZeV.got {c:CL} {m s:Nat} (h:ZeV c m s) (x:Int):ZeV (c.got x) m (s+1):=by
 have h1:=h.onk x;have h3:=h.begun;have h5:=h.on;unfold CL.got;split
 .exact ⟨h.t,h.r,by omega,h.over,by omega⟩
 .rename_i hx;have:c.on x≠0:=λh0=>hx (.inr h0);exact h.setOn (by omega)
theorem Zpf {k:KS} {s:Nat} (h:Ze1 wd k s) {a:Nat} (ha:a<wd.Feds.length) (hb:(k.node a).isBold=true):Zai wd≠0:=by
 have:=h.rank a ha hb;omega
def settle1 (wd:Wd) (t:Int) (k:KS) (f:Nat):KS:=match k.node f with
 | .slow _=>k
 | .bold N r told=>if ZaB N t=0 then (k.setN f (.bold (Ys N t) r told)).put f (((Yq wd<|ZaC wd f (Zs wd f) N t).map Yz.m).map Zae) else k
theorem ZlS (k:KS) (t:Int):k.settle wd t=(List.range k.nodes.length).foldl (settle1 wd t) k:=rfl
theorem Znh (h:ZoS wd) {f m:Nat} (hf:f<wd.Feds.length) {N:WN} (hW:WOk wd f (Zs wd f) N m) (t:Int):((Yq wd<|ZaC wd f (Zs wd f) N t).map Yz.m).length<=4000:=by
 rw[List.length_map];have h2:=Zxq h (ZaN hf) (f:=f) (b:=N.base<|Zs wd f) (l:=Zc6 t N.ms);have h3:(Zc6 t N.ms).length<=N.ms.length:=List.length_filter_le _ _;have h4:=hW.ml;unfold ZaC;omega
theorem ZqZ {k:KS} {s n:Nat} (h:ZdF wd k s n) (t:Int) {f:Nat} (hf:f<wd.Feds.length):ZdF wd (settle1 wd t k f) s (n+4000):=by
 have same:ZdF wd k s (n+4000):=h.mono (Nat.le_refl _) (by omega);unfold settle1;cases hn:k.node f with
 | slow N=>exact same
 | bold N r told=>
  dsimp only;split
  .rename_i he;have h1:ZAM wd f (k.node f):=h.inv.ok f (by have h1:k.nodes.length=wd.Feds.length:=h.inv.nl;show f<k.nodes.length;omega);rw[hn] at h1;obtain ⟨m,hW⟩:=h1;refine (h.setN (a:=f) (N:=.bold (Ys N t) r told) (λ_=>⟨m,hW.commit he⟩) (by rw[hn];rfl)<|by rw[hn];rfl).put (λi hi=>ZAj hi) ?_;rw[List.length_map];exact Znh h.inv.may hf hW t
  .exact same
theorem ZhP {t:Int}:∀(l:List Nat) {k:KS} {s n:Nat},(∀f∈l,f<wd.Feds.length)->ZdF wd k s n->ZdF wd (l.foldl (settle1 wd t) k) s (n+l.length*4000)
 | [],_,_,_,_,h=>h
 | f::l,_,_,_,hm,h=>(ZhP l (λg hg=>hm g<|List.mem_cons_of_mem _ hg)<|ZqZ h t<|hm f<|List.mem_cons_self ..).mono (Nat.le_refl _) (by rw[List.length_cons];omega)
theorem ZtD {k:KS} {s n:Nat} (h:ZdF wd k s n) (t:Int):ZdF wd (k.settle wd t) s (n+8*4000):=by
 rw[ZlS];have h1:k.nodes.length=wd.Feds.length:=h.inv.nl;have h8:=h.inv.may.n;refine (ZhP (List.range k.nodes.length) (λf hf=>by rw[<-h1];exact List.mem_range.1 hf) h).mono (Nat.le_refl _) ?_;rw[List.length_range];omega
theorem ZrT {k:KS} (hl:k.nodes.length=wd.Feds.length) (hn:wd.Feds.length<=8) {a:Nat} {t:Int} (ht:Yu t=true):(∀i∈ZaW k a t,Zb8 wd.Feds.length i)/\(ZaW k a t).length<=4000:=by
 constructor
 .intro i hi;obtain ⟨f,hf,rfl⟩:=List.mem_map.1 hi;have:=List.mem_range.1 (List.mem_filter.1 hf).1;exact ⟨⟨show (0:Int)<=2 by decide,Int.le_refl 2⟩,⟨Int.le_refl 0,show (0:Int)<=1 by decide⟩,⟨by show (0:Int)<=f;omega,by show (f:Int)<_;omega⟩,ht⟩
 .unfold ZaW;rw[List.length_map];refine Nat.le_trans (List.length_filter_le _ _) ?_;rw[List.length_range];omega
theorem Ze1.do' {k:KS} {s:Nat} (h:Ze1 wd k s) (kind a b:Nat) (ha:kind≠4->a<wd.Feds.length) (hb:kind=2->b<wd.Feds.length):Ze1 wd (k.do' wd kind a b).2 (s+1):=by
 have same:Ze1 wd k (s+1):=h.mono<|Nat.le_succ _;have pre:=h.pre;have p1:=pre.mono (Nat.le_succ s)<|Nat.le_refl _;have hok:=(ZzL h.ok kind a b).1;have hself:=h.self;have hn8:=h.may.n.2;have nd:∀f,f<wd.Feds.length->ZAM wd f (k.node f):=λf hf=>h.ok f (by rw[h.nl];exact hf);unfold KS.do' at hok ⊢;split
 .have ha:=ha (by decide);have h0:=nd a ha;unfold KS.step;split
  .exact same
  .split
   .rename_i N hn;rw[hn] at h0;split
    .rename_i hs;refine ZdF.all ((p1.setN (a:=a) (N:=.slow<|Zmn (Zs wd a) N) (λ_=>⟨Zps h0.1 h0.2 hs,h0.2.tail⟩) (by rw[hn];rfl)<|by rw[hn];rfl).put (m:=4000) (λi hi=>?_) ?_) (by omega)
     .obtain ⟨m,hm,rfl⟩:=List.mem_map.1 hi;exact .plain<|Zi2 hm
     .rw[List.length_map];have:=Zge h.may (ZaN ha) (b:=(N.st,N.sent)) (x:=hdM N.q);exact Nat.le_trans this (by omega)
    .exact same
   .rename_i N r t hn;rw[hn] at h0;obtain ⟨m,hW⟩:=h0;split
    .rename_i he;refine ZdF.all ((p1.setN (a:=a) (N:=.bold (Zcv N) r t) (λ_=>⟨m+1,hW.step he⟩) (by rw[hn];rfl)<|by rw[hn];rfl).put (m:=4000) (λi hi=>?_) ?_) (by omega)
     .unfold ZqQ at hi;obtain ⟨m,hm,rfl⟩:=List.mem_map.1 hi;exact .plain<|Zz9 (List.mem_filter.1 hm).1
     .unfold ZqQ;rw[List.length_map];exact Nat.le_trans (List.length_filter_le _ _)<|Nat.le_trans (Zge h.may<|ZaN ha) (by omega)
    .exact same
 .unfold KS.flush;split
  .exact same
  .rename_i i r hbx;have hbox:∀j∈i::r,Zb8 wd.Feds.length j:=by rw[<-hbx];exact h.box a
   have hi:=hbox i<|List.mem_cons_self ..;split
   .exact same
   .rename_i hro;have hab:a=i.m.To.toNat->k.q a i.m.To.toNat++[i]=[]:=λh=>absurd (if_neg λh'=>h'.2.2.2<|by omega) hro;have hab2:∀x:Zn,a=i.m.To.toNat->k.q a i.m.To.toNat++[x]=[]:=λ_ h=>absurd (if_neg λh'=>h'.2.2.2<|by omega) hro;have p2:ZdF wd { k with boxes:=k.boxes.set a r } (s+1) (40000*(s+1)):=by
     refine ⟨p1.inv,by dsimp only;rw[List.length_set];exact h.bl,λf j hj=>?_,λf=>?_⟩
     .unfold KS.box at hj;dsimp only at hj;rw[ZaX] at hj;split at hj
      .exact hbox j<|List.mem_cons_of_mem _ hj
      .exact h.box f j hj
     .have h1:=h.len f;have h2:=h.len a;rw[hbx,List.length_cons] at h2;unfold KS.box at h1 ⊢;dsimp only;rw[ZaX];split <;> omega
    dsimp only;split
    .rename_i c _ hc;obtain ⟨hb0,hco⟩:=h.cutIs hc;have h3:ZeV (c.sent (k.node a).rank i.m.key.T) (Zai wd) (s+1):=hco.sent _ _;have h4:=p2.cut (Nat.le_refl _) hb0 h3;refine ZdF.all (h4.setQ (λj hj=>?_)<|hab2 _) (by omega);rcases List.mem_append.1 hj with hj | hj
     .exact h.q _ _ j hj
     .rw[List.mem_singleton.1 hj];exact ⟨hi.kind,⟨by dsimp only;omega,by dsimp only;omega⟩,hi.to,hi.time⟩
    .refine ZdF.all (p2.setQ (λj hj=>?_) hab) (by omega);rcases List.mem_append.1 hj with hj | hj
     .exact h.q _ _ j hj
     .rw[List.mem_singleton.1 hj];exact hi
 .have ha:=ha (by decide);have hb:=hb rfl;unfold KS.deliver;split
  .exact same
  .rename_i i r hq;have hqs:∀j∈i::r,Zb8 wd.Feds.length j:=by rw[<-hq];exact h.q a b
   have h0:=nd b hb;have hab:a=b->r=[]:=λh=>by
    subst h;rw[hself] at hq;cases hq
   dsimp only;split
   .exact same
   .have p3:ZdF wd (((k.setN b (k.hears wd a b i).2.2).setQ a b r).put b (k.hears wd a b i).2.1) (s+1) (40000*(s+1)+4000):=by
     unfold KS.hears;cases hn:k.node b with
     | slow N=>
      rw[hn] at h0;exact ((p1.setN (a:=b) (N:=.slow<|Zd0 N a i) (λ_=>⟨Zpb h0.1 _ _,Zsl h0.2 _ _⟩) (by rw[hn];rfl)<|by rw[hn];rfl).setQ (λj hj=>hqs j<|List.mem_cons_of_mem _ hj) hab).put (by simp) (by simp)
     | bold N rk t=>
      rw[hn] at h0;obtain ⟨m,hW⟩:=h0;dsimp only;refine ((p1.setN (a:=b) (N:=.bold (ZbE wd b (Zs wd b) N a i).N rk t) (λ_=>⟨m,hW.hear _ _⟩) (by rw[hn];rfl)<|by rw[hn];rfl).setQ (λj hj=>hqs j<|List.mem_cons_of_mem _ hj) hab).put ?_ ?_
      .intro j hj;rcases Zls (wd:=wd) (f:=b) (fd:=Zs wd b) (N:=N) (j:=a) (i:=i) with ho | ho
       .rw[ho] at hj;cases hj
       .rw[ho] at hj;exact ZzU hj
      .rcases Zls (wd:=wd) (f:=b) (fd:=Zs wd b) (N:=N) (j:=a) (i:=i) with ho | ho
       .rw[ho];exact Nat.zero_le _
       .rw[ho];unfold ZiU;have h2:=ZrY h.may (ZaN hb) (f:=b) (b:=ZjE (Zs wd b) (N.base<|Zs wd b)<|ZbF i.m.key N.ms) (l:=Yj i.m.key N.ms);have h3:(Yj i.m.key N.ms).length<=N.ms.length:=List.length_filter_le _ _;have h4:=hW.ml;omega
    split
    .rename_i c _ hc;obtain ⟨hb0,hco⟩:=h.cutIs hc;exact ZdF.all (p3.cut (Nat.le_refl _) hb0<|hco.got i.Colour) (by omega)
    .exact p3.all (by omega)
 .have ha:=ha (by decide);have h0:=nd a ha;unfold KS.tell;split
  .exact same
  .split
   .rename_i N hn;rw[hn] at h0;split
    .have hb:=ZrT (k:=k) (a:=a) h.nl hn8<|ZjT (ZaP [Zcd N,N.clk.bound]) (Zs wd a).Look;exact ZdF.all ((p1.setN (a:=a) (N:=.slow<|ZiG (Zs wd a) N) (λ_=>⟨Zpg h0.1 _,h0.2⟩) (by rw[hn];rfl)<|by rw[hn];rfl).put hb.1 hb.2) (by omega)
    .exact same
   .rename_i N r t hn;rw[hn] at h0;split
    .exact same
    .have hb:=ZrT (k:=k) (a:=a) h.nl hn8<|ZjT N.fl (Zs wd a).Look;exact ZdF.all ((p1.setN (a:=a) (N:=.bold N r<|Za6 (Zs wd a) N) (λ_=>h0) (by rw[hn];rfl)<|by rw[hn];rfl).put hb.1 hb.2) (by omega)
 .unfold KS.begin';split
  .exact same
  .rename_i c hc;split
   .exact same
   .obtain ⟨hb0,hco⟩:=h.cutIs hc;have h3:=hco.begun;have h4:=hco.over;have h5:=hco.on;exact ZdF.all (p1.cut (Nat.le_refl _) hb0 ⟨hco.t,hco.r,by dsimp only;omega,by dsimp only;omega,by dsimp only;omega⟩) (by omega)
 .unfold KS.turn;split
  .rename_i c _ hc;split
   .exact same
   .obtain ⟨hb0,hco⟩:=h.cutIs hc;have h3:=hco.begun;have h5:=hco.on;exact ZdF.all (p1.cut (Nat.le_refl _) hb0 ⟨by dsimp only;rw[List.length_set];exact hco.t,hco.r,by dsimp only;omega,hco.over,by dsimp only;omega⟩) (by omega)
  .exact same
 .unfold KS.report;split
  .rename_i N r _ c _ hc;obtain ⟨hb0,hco⟩:=h.cutIs hc;have h3:=hco.begun;have h4:=hco.over;have h5:=hco.on;split
   .exact same
   .split
    .exact same
    .dsimp only;split
     .refine (ZtD (p1.cut (Nat.le_refl _) hb0 ?_) _).all (by omega);exact ⟨hco.t,(List.length_set).trans hco.r,by dsimp only;omega,by dsimp only;omega,by dsimp only;omega⟩
     .exact ZdF.all (p1.cut (Nat.le_refl _) hb0 ⟨hco.t,by dsimp only;rw[List.length_set];exact hco.r,by dsimp only;omega,by dsimp only;omega,by dsimp only;omega⟩) (by omega)
  .exact same
theorem Zua {f:Fed} {most:Int} (h:Zre f most=0):f.Kind=0\/f.Kind=1:=by
 unfold Zre Zs3 at h;rw[Zbt] at h;split at h
 .rename_i h1;omega
 .rw[if_neg (by decide)] at h;cases h
theorem ZlD (h:(Za4 wd).2=0):∀f∈wd.Feds,f.Kind=0\/f.Kind=1:=by
 unfold Za4 at h;split at h
 .rename_i h1;exact absurd h h1
 .split at h
  .cases h
  .exact λf hf=>Zua<|ZjJ h f hf
theorem Zni:∀(l:List Fed) (n:Nat),(Zjo l n).length=l.length
 | [],_=>rfl
 | f::l,n=>by
  show (n::Zjo l _).length=_;rw[List.length_cons,Zni l,List.length_cons]
theorem Zno:∀(l:List Fed) (n a:Nat),a<l.length->(Zjo l n)[a]?=some (n+((l.take a).filter λf=>!decide (f.Kind=0)).length)
 | [],_,_,h=>by cases h
 | f::l,n,0,_=>rfl
 | f::l,n,a+1,h=>by
  show (n::Zjo l (if f.Kind=0 then n else n+1))[a+1]?=_;rw[List.getElem?_cons_succ,Zno l _ a (by rw[List.length_cons] at h;omega),List.take_succ_cons,List.filter_cons];by_cases hk:f.Kind=0
  .rw[if_pos hk,if_neg (by rw[decide_eq_true hk];decide)]
  .rw[if_neg hk,if_pos (by rw[decide_eq_false hk];rfl),List.length_cons];congr 1;omega
def KS.init0 (wd:Wd) (room:Nat):KS:=
 ⟨((wd.Feds.zip<|Zjo wd.Feds 0).zipIdx).map λp=>ZpY wd wd.Feds.length p.2 p.1.1 p.1.2,List.replicate wd.Feds.length [],List.replicate wd.Feds.length<|List.replicate wd.Feds.length [],room,if Zai wd=0 then none else some (CL.zero<|Zai wd)⟩
def ZxY (k:KS) (m:Msg):KS:=k.put m.key.From.toNat [Zae m]
theorem ZuV (room:Nat):KS.init wd room=(Zaz wd.Parents wd.Feds wd.Feds).foldl ZxY (KS.init0 wd room):=rfl
def Zcz (wd:Wd) (a:Nat):Nat:=((wd.Feds.take a).filter λf=>!decide (f.Kind=0)).length
theorem ZmG (room:Nat):(KS.init0 wd room).nodes=(List.range wd.Feds.length).map λa=>ZpY wd wd.Feds.length a (Zs wd a) (Zcz wd a):=by
 apply List.ext_getElem?;intro a;show (((wd.Feds.zip<|Zjo wd.Feds 0).zipIdx).map λp=>ZpY wd wd.Feds.length p.2 p.1.1 p.1.2)[a]?=_;rw[List.getElem?_map,List.getElem?_map,List.getElem?_zipIdx];by_cases ha:a<wd.Feds.length
 .have h1:=ZaN ha;have h2:=Zno wd.Feds 0 a ha;have h3:(wd.Feds.zip<|Zjo wd.Feds 0)[a]?=some (Zs wd a,0+Zcz wd a):=by
   rw[List.getElem?_zip_eq_some];exact ⟨h1,h2⟩
  rw[h3,List.getElem?_range ha];simp
 .rw[List.getElem?_eq_none (by rw[List.length_zip,Zni];omega),List.getElem?_eq_none (by rw[List.length_range];omega)];rfl
theorem Zgi {room a:Nat} (ha:a<wd.Feds.length):(KS.init0 wd room).node a=ZpY wd wd.Feds.length a (Zs wd a) (Zcz wd a):=by
 unfold KS.node;rw[ZmG,List.getD_eq_getElem?_getD,List.getElem?_map,List.getElem?_range ha];rfl
theorem ZmC (room a:Nat):(KS.init0 wd room).box a=[]:=by
 show (List.replicate _ _).getD a []=_;rw[List.getD_eq_getElem?_getD,List.getElem?_replicate];split <;> rfl
theorem ZqT (room a b:Nat):(KS.init0 wd room).q a b=[]:=by
 show ((List.replicate _<|List.replicate _ []).getD a []).getD b []=_;rw[List.getD_eq_getElem?_getD,List.getD_eq_getElem?_getD,List.getElem?_replicate];split
 .rw[Option.getD_some,List.getElem?_replicate];split <;> rfl
 .rfl
theorem Zgj {n a:Nat} {fd:Fed} {rk:Nat} (h:fd.Kind=0):ZpY wd n a fd rk=.slow (ZoV n a fd):=if_pos h
theorem Zgb {n a:Nat} {fd:Fed} {rk:Nat} (h:¬fd.Kind=0):ZpY wd n a fd rk=.bold (ZiQ wd) rk 0:=if_neg h
theorem ZAa {a:Nat} (ha:a<wd.Feds.length) (hk:¬(Zs wd a).Kind=0):Zcz wd a<Zai wd:=by
 have h1:wd.Feds=wd.Feds.take a++Zs wd a::wd.Feds.drop (a+1):=by
  have:=Zaq<|ZaN ha;rw[<-this,List.take_append_drop]
 have h2:Zai wd=((wd.Feds.take a++Zs wd a::wd.Feds.drop (a+1)).filter λf=>!decide (f.Kind=0)).length:=by rw[<-h1];rfl
 rw[h2,List.filter_append,List.filter_cons,if_pos (by rw[decide_eq_false hk];rfl),List.length_append,List.length_cons];unfold Zcz;omega
theorem Zqp (h:(Za4 wd).2=0) (room:Nat):ZdF wd (KS.init0 wd room) 0 0:=by
 have hw:=ZfI h;have hk:=ZlD h;have hnl:(KS.init0 wd room).nodes.length=wd.Feds.length:=by rw[ZmG,List.length_map,List.length_range]
 have hno:∀a,a<wd.Feds.length->(Zs wd a).Kind=0\/(Zs wd a).Kind=1:=λa ha=>hk _<|List.mem_of_getElem?<|ZaN ha;refine ⟨⟨hw,λa ha=>?_,hnl,List.length_replicate,List.length_replicate,λa ha=>?_,ZlO,λa b i hi=>?_,λa=>ZqT room a a,λa ha hb=>?_,λa ha=>?_,?_,Zii⟩,List.length_replicate,(λa i hi=>by rw[ZmC] at hi;cases hi),λa=>by rw[ZmC];exact Nat.le_refl _⟩
 .have ha':a<wd.Feds.length:=by rw[<-hnl];exact ha
  show ZAM wd a ((KS.init0 wd room).node a);rw[Zgi ha'];rcases hno a ha' with h0 | h1
  .rw[Zgj h0];exact ⟨⟨List.Pairwise.nil,λd hd=>by cases hd⟩,List.Pairwise.nil,by show 0<=64;omega⟩
  .rw[Zgb (by omega)];exact ⟨0,WOk.init hw (ZaN ha') h1⟩
 .show ((List.replicate _<|List.replicate _ []).getD a []).length=_;rw[List.getD_eq_getElem?_getD,List.getElem?_replicate,if_pos ha,Option.getD_some,List.length_replicate]
 .have hi':i∈(KS.init0 wd room).q a b:=hi;rw[ZqT] at hi';cases hi'
 .show ((KS.init0 wd room).node a).rank<_;have hb':((KS.init0 wd room).node a).isBold=true:=hb;rw[Zgi ha] at hb' ⊢;rcases hno a ha with h0 | h1
  .rw[Zgj h0] at hb';cases hb'
  .rw[Zgb (by omega)];exact ZAa ha (by omega)
 .show ((KS.init0 wd room).node a).isBold=_;rw[Zgi ha];rcases hno a ha with h0 | h1
  .rw[Zgj h0,decide_eq_true h0];rfl
  .rw[Zgb (by omega),decide_eq_false (by omega)];rfl
 .split
  .rename_i hb;exact if_pos hb
  .rename_i hb;exact ⟨_,if_neg hb,List.length_replicate,List.length_replicate,⟨Int.le_refl _,Int.le_refl _⟩,⟨Int.le_refl _,Int.le_refl _⟩,⟨Int.le_refl _,Int.le_refl _⟩,Int.le_refl _,Int.le_refl _⟩
theorem Zql {l:List Fed} {m:Msg} (h:m∈Zaz wd.Parents wd.Feds l):Zrh wd.Feds.length m:=by
 obtain ⟨i,fd,_,h1⟩:=Znu h;exact Zi2 h1
theorem Zof {s:Nat}:∀(l:List Msg) (k:KS) (n:Nat),(∀m∈l,Zrh wd.Feds.length m)->ZdF wd k s n->ZdF wd (l.foldl ZxY k) s (n+l.length)
 | [],_,_,_,h=>h
 | m::l,k,n,hm,h=>by
  rw[List.foldl_cons,List.length_cons];have h1:ZdF wd (ZxY k m) s (n+1):=h.put (λi hi=>by rw[List.mem_singleton.1 hi];exact .plain<|hm m<|List.mem_cons_self ..)<|Nat.le_refl _;exact (Zof l _ (n+1) (λx hx=>hm x<|List.mem_cons_of_mem _ hx) h1).mono (Nat.le_refl _) (by omega)
theorem Ze1.init (h:(Za4 wd).2=0) (room:Nat):Ze1 wd (KS.init wd room) 0:=by
 have hw:=ZfI h;rw[ZuV];refine (Zof _ _ 0 (λm hm=>Zql hm)<|Zqp h room).all ?_;have:=ZtB (ps:=wd.Parents) (feds:=wd.Feds) (l:=wd.Feds) hw.n.2 λf hf=>(hw.init f hf).1;have:=hw.n;omega
instance:DecidableEq Zn:=λa b=>decidable_of_iff (a.ns=b.ns) ⟨λh=>by
 obtain ⟨a0,⟨⟨a1,a2,a3⟩,a4,a5,a6⟩,a7⟩:=a;obtain ⟨b0,⟨⟨b1,b2,b3⟩,b4,b5,b6⟩,b7⟩:=b;simp[Zn.ns] at h;simp[h],λh=>by rw[h]⟩
def Zn.zero:Zn:=⟨0,⟨⟨0,0,0⟩,0,0,0⟩,0⟩
theorem Zn.eq_ns (a b:Zn):(a.ns==b.ns)=decide (a=b):=by
 rw[Bool.eq_iff_iff];obtain ⟨a0,⟨⟨a1,a2,a3⟩,a4,a5,a6⟩,a7⟩:=a;obtain ⟨b0,⟨⟨b1,b2,b3⟩,b4,b5,b6⟩,b7⟩:=b;simp[Zn.ns,and_assoc]
def Zq9 (N:Nat) (D:Nat->Int):List Value:=Yi<|(List.range N).map D
theorem Zdg (N:Nat) (D:Nat->Int):(Zq9 N D).length=N:=by simp[Zq9,Yi]
theorem Zah {N k:Nat} {D:Nat->Int} (h:k<N):(Zq9 N D)[k]?=some (Iw<|D k):=by simp[Zq9,Yi,h]
theorem Zsf {N k m:Nat} {D:Nat->Int} (h:k+m<=N):((Zq9 N D).drop k).take m=Yi ((List.range m).map λj=>D<|k+j):=by
 apply List.ext_getElem
 .simp[Zq9,Yi];omega
 .intro i h1 h2;simp[Zq9,Yi]
def ZvU (D:Nat->Int) (k:Nat) (xs:List Int):Nat->Int:=λi=>if k<=i/\i<k+xs.length then xs.getD (i - k) 0 else D i
theorem Zlg {N k:Nat} {D:Nat->Int} {xs:List Int} (h:k+xs.length<=N):wrL (Zq9 N D) k (Yi xs)=Zq9 N (ZvU D k xs):=by
 apply List.ext_getElem?;intro i;rw[Zkk _ _ _ (by rw[Zdg,Zen];exact h),Zen];by_cases hi:i<N
 .rw[Zah hi,Zah hi];unfold ZvU;by_cases h1:i<k
  .rw[if_pos h1,if_neg (by omega)]
  .rw[if_neg h1];by_cases h2:i<k+xs.length
   .rw[if_pos h2,if_pos ⟨by omega,h2⟩];have:i - k<xs.length:=by omega
    simp[Yi,this]
   .rw[if_neg h2,if_neg (by omega)]
 .rw[if_neg (by omega),if_neg (by omega)];rw[List.getElem?_eq_none (by rw[Zdg];omega),List.getElem?_eq_none (by rw[Zdg];omega)]
theorem ZbC {D:Nat->Int} {k:Nat} {xs:List Int} {i:Nat} (h:i<k\/k+xs.length<=i):ZvU D k xs i=D i:=if_neg (by omega)
theorem Zu9 {D:Nat->Int} {k:Nat} {xs:List Int} {j:Nat} (h:j<xs.length):ZvU D k xs (k+j)=xs.getD j 0:=by
 unfold ZvU;rw[if_pos ⟨by omega,by omega⟩,Nat.add_sub_cancel_left]
theorem Zq3 {D:Nat->Int} {k:Nat} {x:Int}:ZvU D k [x] k=x:=Zu9 (j:=0) (k:=k) (by simp)
structure Zc3 (D:Nat->Int) (o:Nat) (q:List Zn) (f:Nat):Prop where
 hf:f<16
 df:D (o+128)=f
 dm:D (o+129)=q.length
 len:q.length<=16
 item:∀j x,q[j]?=some x->∀i,i<8->D (o+(f+j) % 16*8+i)=x.ns.getD i 0
theorem Zc3.congr {D E:Nat->Int} {o:Nat} {q:List Zn} {f:Nat} (h:Zc3 D o q f) (hd:∀i,i<130->E (o+i)=D (o+i)):Zc3 E o q f:=by
 refine ⟨h.hf,by rw[hd _ (by omega)];exact h.df,by rw[hd _ (by omega)];exact h.dm,h.len,λj x hx i hi=>?_⟩;have:=Nat.mod_lt (f+j) (show 0<16 by omega);rw[Nat.add_assoc,hd _ (by omega),<-Nat.add_assoc];exact h.item j x hx i hi
theorem Zc3.sub {D:Nat->Int} {o:Nat} {q:List Zn} {f:Nat} (h:Zc3 D o q f) {x:Zn} (hx:q[0]?=some x):((List.range 8).map λj=>D<|o+f*8+j)=x.ns:=by
 have h0:=h.item 0 x hx;rw[Nat.add_zero,Nat.mod_eq_of_lt h.hf] at h0;show [D<|o+f*8+0,D<|o+f*8+1,D<|o+f*8+2,D<|o+f*8+3,D<|o+f*8+4,D<|o+f*8+5,D<|o+f*8+6,D<|o+f*8+7]=_;rw[h0 0 (by omega),h0 1 (by omega),h0 2 (by omega),h0 3 (by omega),h0 4 (by omega),h0 5 (by omega),h0 6 (by omega),h0 7 (by omega)];rfl
theorem Zc3.push {D:Nat->Int} {o:Nat} {q:List Zn} {f:Nat} (h:Zc3 D o q f) (hl:q.length<16) (x:Zn) :
  Zc3 (ZvU (ZvU D (o+(f+q.length) % 16*8) x.ns) (o+129) [((q.length:Int)+1)]) o (q++[x]) f:=by
 have hm:=Nat.mod_lt (f+q.length) (show 0<16 by omega);have hx8:x.ns.length=8:=rfl;refine ⟨h.hf,?_,?_,by simp;omega,λj y hy i hi=>?_⟩
 .rw[ZbC (by simp),ZbC (by rw[hx8];omega)];exact h.df
 .rw[Zq3];simp
 .have hj:=Nat.mod_lt (f+j) (show 0<16 by omega);rw[ZbC (by left;omega)];by_cases hjl:j<q.length
  .rw[List.getElem?_append_left hjl] at hy;have hne:(f+j) % 16≠(f+q.length) % 16:=by have:=h.hf;omega
   rw[ZbC (by rw[hx8];omega)];exact h.item j y hy i hi
  .have hjq:j=q.length:=by
    have:=(List.getElem?_eq_some_iff.1 hy).1;simp at this;omega
   subst hjq;rw[List.getElem?_append_right<|Nat.le_refl _,Nat.sub_self] at hy;simp at hy;subst hy;rw[Zu9 (by rw[hx8];exact hi)]
theorem Zc3.pop {D:Nat->Int} {o:Nat} {q:List Zn} {f:Nat} {x:Zn} (h:Zc3 D o (x::q) f) :
  Zc3 (ZvU (ZvU D (o+128) [(((f+1) % 16:Nat):Int)]) (o+129) [(q.length:Int)]) o q ((f+1) % 16):=by
 refine ⟨Nat.mod_lt _ (by omega),?_,Zq3,by have:=h.len;simp at this;omega,λj y hy i hi=>?_⟩
 .rw[ZbC (by left;omega),Zq3]
 .have hj:=Nat.mod_lt ((f+1) % 16+j) (show 0<16 by omega);rw[ZbC (by left;omega),ZbC (by left;omega)];have:=h.item (j+1) y hy i hi;rw[show (f+(j+1)) % 16=((f+1) % 16+j) % 16 from by omega] at this;exact this
def Zkq (a b:Nat):Nat:=2+a*1040+b*130
structure Zpk (D:Nat->Int) (n room:Int) (Q:Nat->Nat->List Zn):Prop where
 dn:D 0=n
 dr:D 1=room
 hn:1<=n/\n<=8
 hr:1<=room/\room<=16
 ring:∀a b,a<8->b<8->∃f,Zc3 D (Zkq a b) (Q a b) f
 room:∀a b,a<8->b<8->((Q a b).length:Int)<=room
def Yx (g:Nat) (n room:Int) (Q:Nat->Nat->List Zn):HP:=hex λD:Nat->Int=>Yh [blk g 145<|Zq9 8322 D,pur<|Zpk D n room Q]
def ZvY (Q:Nat->Nat->List Zn) (a b:Nat) (q:List Zn):Nat->Nat->List Zn:=λc d=>if c=a/\d=b then q else Q c d
theorem Zpk.upd {D E:Nat->Int} {n room:Int} {Q:Nat->Nat->List Zn} (h:Zpk D n room Q) {a b:Nat} (ha:a<8) (hb:b<8) {q:List Zn} {f:Nat} (hq:Zc3 E (Zkq a b) q f) (hl:(q.length:Int)<=room)
  (hE:∀i,(i<Zkq a b\/Zkq a b+130<=i)->E i=D i):Zpk E n room (ZvY Q a b q):=by
 refine ⟨by rw[hE 0 (by unfold Zkq;omega)];exact h.dn,by rw[hE 1 (by unfold Zkq;omega)];exact h.dr,h.hn,h.hr,λc d hc hd=>?_,λc d hc hd=>?_⟩
 .by_cases hcd:c=a/\d=b
  .obtain ⟨rfl,rfl⟩:=hcd;exact ⟨f,by unfold ZvY;rw[if_pos ⟨rfl,rfl⟩];exact hq⟩
  .obtain ⟨f',hf'⟩:=h.ring c d hc hd;refine ⟨f',?_⟩;unfold ZvY;rw[if_neg hcd];refine hf'.congr λi hi=>hE _ ?_;unfold Zkq;omega
 .unfold ZvY;split
  .exact hl
  .exact h.room c d hc hd
theorem Yx.open {g:Nat} {n room:Int} {Q:Nat->Nat->List Zn} (hS:Sat e w<|Yx g n room Q::R):∃D,Zpk D n room Q/\Sat e w (blk g 145 (Zq9 8322 D)::R):=by
 obtain ⟨D,h0⟩:=hS.ex;have h1:=h0.split;have h2:=h1.pick 1 rfl;obtain ⟨h3,h4⟩:=h2.pure;exact ⟨D,h3,h4⟩
theorem Yx.close {g:Nat} {n room:Int} {Q:Nat->Nat->List Zn} {D:Nat->Int} (h:Zpk D n room Q) (hS:Sat e w<|blk g 145 (Zq9 8322 D)::R):Sat e w (Yx g n room Q::R):=by
 exact .mk_ex D (.join (l':=[_,_])<|(Sat.mk_pure h hS).swap)
theorem Zvq:(Zl prog 145).toList=List.replicate 8322 (Iw 0):=by kernel_rfl
theorem Zv1 {z:Array Value} {a b:Int} (hz:2<=z.size):Instr.fill ((#[(0,1),(1,1),(2,8320)]:Array<|Nat × Nat)[·]?) z [(0,Iw a),(1,Iw b)]=some ((z.setIfInBounds 0<|Iw a).setIfInBounds 1<|Iw b):=by
 have h1:¬z.size<1:=by omega
 have h2:¬z.size<2:=by omega
 simp[Instr.fill,Value.cells,h1,h2]
theorem ZsT {n room:Int} (h1:1<=n) (h2:n<=8) (h3:1<=room) (h4:room<=16) (hS:Sat e w R)
  (hk:∀g w',Sat e w' (Yx g n room (λ_ _=>[])::R)->K (.tuple #[pt g,Iw 0]) w'):Cl prog 25 #[Iw n,Iw room] w K:=by
 refine Zhf ?_;unfold Zn6;refine Qltf<|Zj<|Ze<|Qgtf<|Yd<|Zj<|Ze<|Qltf<|Yd<|Zj<|Ze<|Qgtf<|Yd<|Zf ?_;have hsz:(Zl prog 145).size=8322:=by rw[<-Array.length_toList,Zvq,List.length_replicate]
 refine ⟨_,Zv1 (by omega),?_⟩;refine Yp (cs:=Zq9 8322<|λi=>if i=0 then n else if i=1 then room else 0) hS ?_ λg w2 hg=>?_
 .show (((Zl prog 145).setIfInBounds 0<|Iw n).setIfInBounds 1<|Iw room).toList=_;rw[Array.toList_setIfInBounds,Array.toList_setIfInBounds,Zvq];apply List.ext_getElem?;intro i;rw[List.getElem?_set,List.getElem?_set,List.getElem?_replicate];by_cases hi:i<8322
  .rw[Zah hi];by_cases h0:i=0
   .subst h0;simp
   .by_cases h1:i=1
    .subst h1;simp
    .have e0:¬0=i:=by omega
     have e1:¬1=i:=by omega
     simp[h0,h1,e0,e1,hi]
  .rw[List.getElem?_eq_none (by rw[Zdg];omega)];have e0:¬0=i:=by omega
   have e1:¬1=i:=by omega
   simp[e0,e1,hi]
 .refine hk _ _<|Yx.close ⟨rfl,rfl,⟨h1,h2⟩,⟨h3,h4⟩,λa b ha hb=>⟨0,by omega,?_,?_,by simp,λj x hx=>by simp at hx⟩,λa b _ _=>by simp;omega⟩ hg
  .show (if _ then _ else if _ then _ else (0:Int))=_;unfold Zkq;rw[if_neg (by omega),if_neg (by omega)];rfl
  .show (if _ then _ else if _ then _ else (0:Int))=_;unfold Zkq;rw[if_neg (by omega),if_neg (by omega)];rfl
def okL (n a b:Int):Prop:=0<=a/\0<=b/\a<n/\b<n/\a≠b
instance (n a b:Int):Decidable (okL n a b):=inferInstanceAs<|Decidable<|_/\_
theorem ZlH {g:Nat} {n room:Int} {Q:Nat->Nat->List Zn} {a b:Int} (hb:¬okL n a b) (hS:Sat e w<|Yx g n room Q::R) (hk:K Pn w):Cl prog 147 #[pt g,Iw a,Iw b] w K:=by
 obtain ⟨D,hD,h1⟩:=Yx.open hS;refine Zd1 ?_;unfold ZhG;have hn:(Zq9 8322 D)[0]?=some (Iw n):=by rw[Zah (by omega),hD.dn]
 unfold okL at hb;refine Za7 (λc1=>?_)<|λc1=>?_
 .exact Zd<|Zd<|Yv<|Zd<|Zd<|Zd<|Zd<|Zd<|Zd<|Yv<|Zd<|Zd<|Zd<|Zd<|Zd<|Zd<|Yv<|Zd<|Zd<|Zd<|Yv<|Zi hk
 .refine Zj<|Zj<|Za7 (λc2=>?_)<|λc2=>?_
  .exact Yd<|Zd<|Zd<|Zd<|Zd<|Zd<|Zd<|Yv<|Zd<|Zd<|Zd<|Zd<|Zd<|Zd<|Yv<|Zd<|Zd<|Zd<|Yv<|Zi hk
  .refine Yd<|Zj<|Zj<|Ze<|Zh<|Ze<|Za<|Ze<|Zb h1 0 rfl hn<|Zj<|Zu5 (λc3=>?_)<|λc3=>?_
   .exact Yd<|Zd<|Zd<|Zd<|Zd<|Zd<|Zd<|Yv<|Zd<|Zd<|Zd<|Yv<|Zi hk
   .refine Yd<|Zj<|Zj<|Ze<|Zh<|Ze<|Za<|Ze<|Zb h1 0 rfl hn<|Zj<|Zu5 (λc4=>?_)<|λc4=>?_
    .exact Yd<|Zd<|Zd<|Zd<|Yv<|Zi hk
    .exact Yd<|Zj<|Zj<|Ze<|Qeqt<|Yd<|Zi hk
theorem Zfl {g:Nat} {n room:Int} {Q:Nat->Nat->List Zn} {a b:Nat} (hb:okL n a b) (hS:Sat e w<|Yx g n room Q::R) (hk:K (.pointer<|some ⟨g,Zkq a b,none⟩) w):Cl prog 147 #[pt g,Iw a,Iw b] w K:=by
 obtain ⟨D,hD,h1⟩:=Yx.open hS;obtain ⟨b1',b2',b3',b4',b5'⟩:=hb;have hn8:=hD.hn;refine Zd1 ?_;unfold ZhG;have hn:(Zq9 8322 D)[0]?=some (Iw n):=by rw[Zah (by omega),hD.dn]
 refine Qltf<|Zj<|Ze<|Qltf<|Yd<|Zj<|Zj<|Ze<|Zh<|Ze<|Za<|Ze<|Zb h1 0 rfl hn<|Ze<|Qgef<|Yd<|Zj<|Zj<|Ze<|Zh<|Ze<|Za<|Ze<|Zb h1 0 rfl hn<|Ze<|Qgef<|Yd<|Zj<|Zj<|Ze<|Qeqf<|Yd<|Zf<|Zh<|Za<|Zcb (by omega) ?_;refine Zcb (by omega) ?_;rw[show 0+2+a*1040+b*130=Zkq a b from by unfold Zkq;omega];exact hk
def Zut (n a b:Int) (x:Zn):Prop:=¬okL n a b\/x.Kind<0\/2<x.Kind\/x.Colour / 2≠0
theorem ZqC {g:Nat} {n room:Int} {Q:Nat->Nat->List Zn} {a b:Nat} {x:Zn} (hb:¬Zut n a b x) (hS:Sat e w<|Yx g n room Q::R)
  (hfull:((Q a b).length:Int)=room->∀w',Sat e w' (Yx g n room Q::R)->K (Iw 2) w')
  (hk:((Q a b).length:Int)<room->∀w',Sat e w' (Yx g n room (ZvY Q a b<|Q a b++[x])::R)->K (Iw 0) w') :
  Cl prog 89 #[pt g,Iw a,Iw b,.agg x.cs.toArray] w K:=by
 have ho:okL n a b:=by by_cases h:okL n a b;exact h;exact absurd (Or.inl h) hb
 have c1:¬x.Kind<0:=λh=>hb (.inr (.inl h));have c2:¬2<x.Kind:=λh=>hb (.inr (.inr (.inl h)));have c3:x.Colour / 2=0:=by by_cases h:x.Colour / 2=0;exact h;exact absurd (Or.inr (.inr (.inr h))) hb
 refine ZhI ?_;unfold Ziw;refine Yp (cs:=x.cs) hS rfl λc w1 h1=>Zfl ho h1.swap<|ZmP _<|Ze<|Za<|Ze<|Zb h1 0 rfl (v:=Iw x.Kind) rfl<|Ze<|Qltf<|Yd<|Ze<|Za<|Ze<|Zb h1 0 rfl (v:=Iw x.Kind) rfl<|Ze<|Qgtf<|Yd<|Ze<|Za<|Ze<|Zb h1 0 rfl (v:=Iw x.Colour) rfl<|Zj<|Zx8<|Zj<|ZoP c3<|Yd<|Zf<|Zh<|Za ?_;obtain ⟨D,hD,h2⟩:=Yx.open h1.swap;have hn8:=hD.hn;have hr16:=hD.hr;have hab:a<8/\b<8:=by obtain ⟨o1,o2,o3,o4,o5⟩:=ho;omega
 obtain ⟨f,hf⟩:=hD.ring a b hab.1 hab.2;have hlr:=hD.room a b hab.1 hab.2;have hoff:Zkq a b+130<=8322:=by unfold Zkq;omega
 have hf16:=hf.hf;have h3:=h2.drew;have hlen:=hf.len;refine Zb h3 0 rfl (Zah<|by omega) ?_;refine Zh<|Za<|Zb h3 0 rfl (Zah<|by omega) ?_;rw[show (0+1:Nat)=1 from rfl,hD.dr,hf.dm];refine ZoR (λc4=>Zi<|hfull c4 _<|Yx.close hD<|h3.sn 2 [0])<|λc4=>Zf<|ZaY h3 λw4 h4=>Zh<|Za<|Zb h4 0 rfl (Zah<|by omega) ?_;refine Zh<|Za<|Zb h4 0 rfl (Zah<|by omega) ?_;rw[hf.df,hf.dm];refine Qadds<|Zwn (by decide) ?_;rw[Int.tmod_eq_emod_of_nonneg (by omega)];refine Zo h4 1 (vs:=x.cs) rfl (by rfl) rfl ?_;refine Zh<|Za ?_;rw[show ((f:Int)+((Q a b).length:Int)) % 16=(((f+(Q a b).length) % 16:Nat):Int) from by omega];have hm:=Nat.mod_lt (f+(Q a b).length) (show 0<16 by omega);refine Zcb hm<|Zq h4 0 rfl (vs:=x.cs) rfl rfl (by rw[Zdg];omega) (Zg _) (Zlg<|by show _+8<=8322;omega) λw5 h5=>?_;refine Zh<|Za ?_;have hx8:x.ns.length=8:=rfl;refine Zb h5 0 rfl (Zah<|by omega) ?_;rw[ZbC (by rw[hx8];omega),hf.dm];refine Qadds<|Zh<|Za<|Zq h5 0 rfl (vs:=Yi [((Q a b).length:Int)+1]) rfl rfl (by rw[Zdg];omega) (Zg _) (Zlg<|by show _+1<=8322;omega) λw6 h6=>?_;have hlt:(Q a b).length<16:=by omega
 refine hk (by omega) _<|Yx.close (hD.upd hab.1 hab.2 (hf.push hlt x) (by rw[List.length_append];simp;omega) λi hi=>?_)<|h6.sn 2 [0];rw[ZbC (by simp;omega),ZbC (by rw[hx8];omega)]
theorem Zm1 {g:Nat} {n room:Int} {Q:Nat->Nat->List Zn} {a b:Int} (hb:¬okL n a b\/Q a.toNat b.toNat=[]) (hS:Sat e w<|Yx g n room Q::R) (hk:∀w',Sat e w' (Yx g n room Q::R)->K (.tuple #[.agg Zn.zero.cs.toArray,Bf]) w') :
  Cl prog 90 #[pt g,Iw a,Iw b] w K:=by
 refine ZcH ?_;unfold ZdK;rw[ZWS];refine Yp (cs:=Zn.zero.cs) hS rfl λc w1 h1=>?_;by_cases ho:okL n a b
 .obtain ⟨a,rfl⟩:∃m:Nat,a=m:=⟨a.toNat,by have:=ho.1;omega⟩;obtain ⟨b,rfl⟩:∃m:Nat,b=m:=⟨b.toNat,by have:=ho.2.1;omega⟩;have hq:Q a b=[]:=by
   have:=hb.resolve_left<|λh=>h ho
   simpa using this
  refine Zfl ho h1.swap<|ZmP _<|Zj<|Ze<|Zh<|Ze<|Za<|Ze ?_;obtain ⟨D,hD,h2⟩:=Yx.open h1.swap;have hn8:=hD.hn;have hab:a<8/\b<8:=by obtain ⟨o1,o2,o3,o4,o5⟩:=ho;omega
  obtain ⟨f,hf⟩:=hD.ring a b hab.1 hab.2;have hoff:Zkq a b+130<=8322:=by unfold Zkq;omega
  refine Zb h2 0 rfl (Zah<|by omega) ?_;rw[hf.dm,hq];refine Zj<|Znq rfl<|Yd<|Zi<|Zaf Zn.zero.cs (by kernel_rfl) ?_;refine Zq h1 0 rfl (vs:=Zn.zero.cs) rfl rfl (by decide) (Zg _) (cs':=Zn.zero.cs) (by kernel_rfl) λw3 h3=>?_;refine Zo h3 0 (vs:=Zn.zero.cs) rfl (by rfl) rfl ?_;exact hk _ h3.drop
 .refine ZlH ho h1.swap<|Ztj<|Zd<|Zd<|Zd<|Zd<|Zd<|Yv<|Zi<|Zaf Zn.zero.cs (by kernel_rfl) ?_;refine Zq h1 0 rfl (vs:=Zn.zero.cs) rfl rfl (by decide) (Zg _) (cs':=Zn.zero.cs) (by kernel_rfl) λw3 h3=>?_;refine Zo h3 0 (vs:=Zn.zero.cs) rfl (by rfl) rfl ?_;exact hk _ h3.drop
theorem ZkF {g:Nat} {n room:Int} {Q:Nat->Nat->List Zn} {a b:Nat} {x:Zn} {q:List Zn} (ho:okL n a b) (hq:Q a b=x::q) (hS:Sat e w<|Yx g n room Q::R) (hk:∀w',Sat e w' (Yx g n room Q::R)->K (.tuple #[.agg x.cs.toArray,Bt]) w') :
  Cl prog 90 #[pt g,Iw a,Iw b] w K:=by
 refine ZcH ?_;unfold ZdK;rw[ZWS];refine Yp (cs:=Zn.zero.cs) hS rfl λc w1 h1=>Zfl ho h1.swap<|ZmP _<|Zj<|Ze<|Zh<|Ze<|Za<|Ze ?_;obtain ⟨D,hD,h2⟩:=Yx.open h1.swap;have hn8:=hD.hn;have hab:a<8/\b<8:=by obtain ⟨o1,o2,o3,o4,o5⟩:=ho;omega
 obtain ⟨f,hf⟩:=hD.ring a b hab.1 hab.2;have hf16:=hf.hf;have hoff:Zkq a b+130<=8322:=by unfold Zkq;omega
 refine Zb h2 0 rfl (Zah<|by omega) ?_;rw[hf.dm,hq];refine Zj<|Zd8 (by simp;omega) ?_;refine Yd<|Zf<|Zh<|Za ?_;have h3:=h2.drew;refine Zb h3 0 rfl (Zah<|by omega) ?_;rw[hf.df];refine Zh<|Za<|Zcb hf16<|Zo h3 0 (vs:=x.cs) rfl ?_ rfl ?_
 .rw[Zsf (by omega),Nat.add_zero];exact congrArg Yi<|hf.sub (by rw[hq];rfl)
 refine Zq h3 1 rfl (vs:=x.cs) rfl rfl (by decide) (Zg _) (cs':=x.cs) (by kernel_rfl) λw4 h4=>?_;refine Zo h4 1 (vs:=x.cs) rfl (by rfl) rfl ?_;exact hk _<|Yx.close hD<|h4.sn 2 [0]
theorem ZrE {g:Nat} {n room:Int} {Q:Nat->Nat->List Zn} {a b:Nat} {x:Zn} {q:List Zn} (ho:okL n a b) (hq:Q a b=x::q) (hS:Sat e w<|Yx g n room Q::R) (hk:∀w',Sat e w' (Yx g n room (ZvY Q a b q)::R)->K (.tuple #[.agg x.cs.toArray,Bt]) w') :
  Cl prog 91 #[pt g,Iw a,Iw b] w K:=by
 refine ZhB ?_;unfold ZiP;rw[ZWS];refine Yp (cs:=Zn.zero.cs) hS rfl λc w1 h1=>ZkF ho hq h1.swap λw2 h2=>Zam<|Zal<|Yp (cs:=Zn.zero.cs) h2 rfl λd w3 h3=>Zq h3 0 rfl (vs:=x.cs) rfl rfl (by decide) (Zg _) (cs':=x.cs) (by kernel_rfl) λw4 h4=>?_;refine J0.cut (λw=>Sat e w<|blk d 88 x.cs::Yx g n room (ZvY Q a b q)::blk c 88 Zn.zero.cs::R) (λk1 hcut=>Zi ?_)<|λw5 h5=>?_
 .refine Zfl ho (h4.pick 1 rfl) ?_;obtain ⟨D,hD,h5⟩:=Yx.open<|h4.pick 1 rfl;have hn8:=hD.hn;have hab:a<8/\b<8:=by obtain ⟨o1,o2,o3,o4,o5⟩:=ho;omega
  obtain ⟨f,hf⟩:=hD.ring a b hab.1 hab.2;have hf16:=hf.hf;have hlr:=hD.room a b hab.1 hab.2;rw[hq] at hlr hf;have hlen:=hf.len;simp only[List.length_cons] at hlr hlen;have hoff:Zkq a b+130<=8322:=by unfold Zkq;omega
  refine Zh<|Za<|Zb h5 0 rfl (Zah<|by omega) ?_;rw[hf.df];refine Qadds<|Zwn (by decide) ?_;rw[Int.tmod_eq_emod_of_nonneg (by omega),show ((f:Int)+1) % 16=(((f+1) % 16:Nat):Int) from by omega];refine Zh<|Za<|Zq h5 0 rfl (vs:=Yi [(((f+1) % 16:Nat):Int)]) rfl rfl (by rw[Zdg];omega) (Zg _) (Zlg<|by show _+1<=8322;omega) λw6 h6=>?_;refine Zh<|Za<|Zb h6 0 rfl (Zah<|by omega) ?_;rw[ZbC (by simp),hf.dm];simp only[List.length_cons];refine Qsubs ?_;rw[show ((q.length+1:Nat):Int) - 1=(q.length:Int) from by omega];refine Zh<|Za<|Zq h6 0 rfl (vs:=Yi [(q.length:Int)]) rfl rfl (by rw[Zdg];omega) (Zg _) (Zlg<|by show _+1<=8322;omega) λw7 h7=>?_;refine hcut _<|Sat.swap<|Yx.close (hD.upd hab.1 hab.2 hf.pop (by omega) λi hi=>?_) h7;rw[ZbC (by simp;omega),ZbC (by simp;omega)]
 .refine Zo h5 0 (vs:=x.cs) rfl (by rfl) rfl ?_;refine Zq h5 2 rfl (vs:=x.cs) rfl rfl (by decide) (Zg _) (cs':=x.cs) (by kernel_rfl) λw6 h6=>?_;refine Zo h6 2 (vs:=x.cs) rfl (by rfl) rfl ?_;exact hk _<|h6.sn 3 [1]
theorem ZqV {g:Nat} {n room:Int} {Q:Nat->Nat->List Zn} {a b:Int} (hS:Sat e w<|Yx g n room Q::R) (hk:∀w',Sat e w' (Yx g n room Q::R)->K (Iw<|if okL n a b then room - (Q a.toNat b.toNat).length else 0) w') :
  Cl prog 86 #[pt g,Iw a,Iw b] w K:=by
 refine ZhN ?_;unfold Zi1;by_cases ho:okL n a b
 .rw[if_pos ho] at hk;obtain ⟨a,rfl⟩:∃m:Nat,a=m:=⟨a.toNat,by have:=ho.1;omega⟩;obtain ⟨b,rfl⟩:∃m:Nat,b=m:=⟨b.toNat,by have:=ho.2.1;omega⟩;refine Zfl ho hS<|ZtQ _ ?_;obtain ⟨D,hD,h2⟩:=Yx.open hS;have hn8:=hD.hn;have hr16:=hD.hr;have hab:a<8/\b<8:=by obtain ⟨o1,o2,o3,o4,o5⟩:=ho;omega
  obtain ⟨f,hf⟩:=hD.ring a b hab.1 hab.2;have hlen:=hf.len;have hoff:Zkq a b+130<=8322:=by unfold Zkq;omega
  refine Zi<|ZaY h2 λw3 h3=>Zh<|Za<|Zb h3 0 rfl (Zah<|by omega) ?_;refine Zh<|Za<|Zb h3 0 rfl (Zah<|by omega) ?_;rw[show (0+1:Nat)=1 from rfl,hD.dr,hf.dm];exact Qsubs<|hk _<|Yx.close hD h3
 .rw[if_neg ho] at hk;exact ZlH ho hS<|ZtL<|Zf<|hk _ hS
def fl {α:Type} (f:Nat->List α) (n:Nat):List α:=(List.range n).flatMap f
theorem ZjZ {α:Type} (f:Nat->List α) (n:Nat):fl f (n+1)=fl f n++f n:=by
 unfold fl;rw[List.range_succ,List.flatMap_append];simp
theorem Zxe {α:Type} {l:List α} {x:α}:((l++[x]).length:Int)=l.length+1:=by simp
theorem Zop {α:Type} (f:Nat->List α):∀{n a:Nat},a<n->∃post,fl f n=fl f a++(f a++post)
 | 0,_,h=>by omega
 | n+1,a,h=>by
  rw[ZjZ];by_cases h1:a=n
  .subst h1;exact ⟨[],by simp⟩
  .obtain ⟨p,hp⟩:=Zop f (n:=n) (a:=a) (by omega);exact ⟨p++f n,by rw[hp];simp⟩
theorem Zux {α:Type} (f:Nat->List α) {c:Nat}:∀{n:Nat},(∀a,a<n->(f a).length<=c)->(fl f n).length<=n*c
 | 0,_=>by simp[fl]
 | n+1,h=>by
  rw[ZjZ,List.length_append,Nat.add_mul];have h1:=Zux f (c:=c) (n:=n) λa ha=>h a (by omega);have h2:=h n (by omega);omega
def ZrF (n:Nat) (Q:Nat->Nat->List Zn) (a:Nat):List Zn:=fl (Q a) n
def ZpJ (n:Nat) (Q:Nat->Nat->List Zn):List Zn:=fl (ZrF n Q) n
theorem Zpk.all_len {D:Nat->Int} {n:Nat} {room:Int} {Q:Nat->Nat->List Zn} (h:Zpk D n room Q):(ZpJ n Q).length<=1024:=by
 have hn:=h.hn;have hr:=h.hr;have h1:∀a,a<n->(ZrF n Q a).length<=n*16:=λa ha=>Zux (Q a) λb hb=>by
  have:=h.room a b (by omega) (by omega);omega
 have h2:=Zux (ZrF n Q) h1;have h3:n<=8:=by omega
 have h4:n*(n*16)<=8*(8*16):=Nat.mul_le_mul h3<|Nat.mul_le_mul_right 16 h3;unfold ZpJ;omega
theorem Zc3.subk {D:Nat->Int} {o:Nat} {q:List Zn} {f k:Nat} (h:Zc3 D o q f) {x:Zn} (hx:q[k]?=some x):((List.range 8).map λj=>D<|o+(f+k) % 16*8+j)=x.ns:=by
 have h0:=h.item k x hx;show [D<|o+(f+k) % 16*8+0,D<|o+(f+k) % 16*8+1,D<|o+(f+k) % 16*8+2,D<|o+(f+k) % 16*8+3,D<|o+(f+k) % 16*8+4,D<|o+(f+k) % 16*8+5,D<|o+(f+k) % 16*8+6,D<|o+(f+k) % 16*8+7]=_;rw[h0 0 (by omega),h0 1 (by omega),h0 2 (by omega),h0 3 (by omega),h0 4 (by omega),h0 5 (by omega),h0 6 (by omega),h0 7 (by omega)];rfl
abbrev ZxE (c g:Nat):HP:=blk c 59 [pt g]
theorem ZpK {g:Nat} (hS:Sat e w R) (hk:∀c w',Sat e w' (ZxE c g::R)->K (.func (.func 180) #[] #[pt c]) w'):Cl prog 124 #[pt g] w K:=by
 refine ZgQ ?_;unfold Zg8;exact Yp (cs:=[pt g]) hS rfl λc w1 h1=>hk _ _ h1
theorem Zn7 {g c:Nat} {n:Nat} {room:Int} {Q:Nat->Nat->List Zn} {yv:Value} {I:List Zn->List HP}
  (hy:∀(pre:List Zn) (x:Zn) (post:List Zn) (W:World) (K:KV),ZpJ n Q=pre++x::post->Sat e W (Yx g n room Q::ZxE c g::I pre)->
   (∀W',Sat e W' (Yx g n room Q::ZxE c g::I (pre++[x]))->K Bt W')->clV prog yv #[Iw pre.length,.agg x.cs.toArray] W K)
  (hS:Sat e w<|Yx g n room Q::ZxE c g::I []) (hk:∀w',Sat e w' (Yx g n room Q::ZxE c g::I (ZpJ n Q))->K (.tuple #[]) w') :
  Cl prog 180 #[yv,pt c] w K:=by
 refine Ze5<|Zb hS 1 rfl rfl<|Zh<|Za ?_;obtain ⟨D,hD,h1⟩:=Yx.open hS;have hn8:=hD.hn;have hr16:=hD.hr;have hall:=hD.all_len;refine Zb h1 0 rfl (Zah<|by omega) ?_;rw[hD.dn];clear h1;refine ZjF (λm t3 t12 w=>∃a:Nat,a<=n/\t12=Iw a/\t3=Iw (fl (ZrF n Q) a).length/\m=n - a/\Sat e w (Yx g n room Q::ZxE c g::I (fl (ZrF n Q) a))) n ⟨0,Nat.zero_le _,rfl,rfl,rfl,hS⟩ ?_;rintro m _ _ w g1 ⟨a,ha,rfl,rfl,rfl,h1⟩ hg1;refine Za7 (λc1=>Zi ?_)<|λc1=>Zf ?_
 .have c1:a<n:=by omega
  refine Zb h1 1 rfl rfl<|Zh<|Za ?_;obtain ⟨D1,hD1,h2⟩:=Yx.open h1;refine Zb h2 0 rfl (Zah<|by omega) ?_;rw[hD1.dn];clear h2;refine ZjF (λm t3 t19 w=>∃b:Nat,b<=n/\t19=Iw b/\t3=Iw (fl (ZrF n Q) a++fl (Q a) b).length/\m=n - b/\Sat e w (Yx g n room Q::ZxE c g::I (fl (ZrF n Q) a++fl (Q a) b))) n
   ⟨0,Nat.zero_le _,rfl,by simp[fl],rfl,by simpa [fl] using h1⟩ ?_
  rintro m _ _ w g2 ⟨b,hb,rfl,rfl,rfl,h2⟩ hg2;refine Za7 (λc2=>Zi ?_)<|λc2=>Zf ?_
  .have c2:b<n:=by omega
   refine Zb h2 1 rfl rfl<|Zh<|Za<|Zcb (by omega) ?_;refine Zcb (by omega) ?_;rw[show 0+2+a*1040+b*130=Zkq a b from by unfold Zkq;omega];refine Zh<|Za ?_;obtain ⟨D2,hD2,h3⟩:=Yx.open h2;obtain ⟨f0,hf0⟩:=hD2.ring a b (by omega) (by omega);have hoff:Zkq a b+130<=8322:=by unfold Zkq;omega
   refine Zb h3 0 rfl (Zah<|by omega) ?_;rw[hf0.dm];clear h3;have hql:(Q a b).length<=16:=hf0.len;obtain ⟨p1,hp1⟩:=Zop (ZrF n Q) c1;obtain ⟨p2,hp2⟩:=Zop (Q a) c2;have hp3:ZpJ n Q=(fl (ZrF n Q) a++fl (Q a) b)++(Q a b++(p2++p1)):=by
    show fl (ZrF n Q) n=_;rw[hp1];show _++(fl (Q a) n++_)=_;rw[hp2];simp
   refine ZjF (λm t3 t33 w=>∃k:Nat,k<=(Q a b).length/\t33=Iw k/\t3=Iw (fl (ZrF n Q) a++fl (Q a) b++(Q a b).take k).length/\m=(Q a b).length - k/\Sat e w (Yx g n room Q::ZxE c g::I (fl (ZrF n Q) a++fl (Q a) b++(Q a b).take k))) (Q a b).length
    ⟨0,Nat.zero_le _,rfl,by simp,rfl,by simpa using h2⟩ ?_
   rintro m _ _ w g3 ⟨k,hkl,rfl,rfl,rfl,h3⟩ hg3;refine Za7 (λc3=>Zi ?_)<|λc3=>Zf ?_
   .have c3:k<(Q a b).length:=by omega
    obtain ⟨x,hx⟩:=Zk (l:=Q a b) (j:=k) c3;obtain ⟨D3,hD3,h4⟩:=Yx.open h3.drew;obtain ⟨f,hf⟩:=hD3.ring a b (by omega) (by omega);have hf16:=hf.hf;have hm:=Nat.mod_lt (f+k) (show 0<16 by omega);refine Zh<|Za<|Zb h4 0 rfl (Zah<|by omega) ?_;rw[hf.df];refine Qadds<|Zwn (by decide) ?_;rw[Int.tmod_eq_emod_of_nonneg (by omega),show ((f:Int)+(k:Int)) % 16=(((f+k) % 16:Nat):Int) from by omega];refine Zh<|Za<|Zcb hm<|Zo h4 0 (vs:=x.cs) rfl ?_ rfl ?_
    .rw[Zsf (by omega),Nat.add_zero];exact congrArg Yi<|hf.subk hx
    have htk:(Q a b).take (k+1)=(Q a b).take k++[x]:=by
     rw[List.take_add_one,hx];rfl
    have hdr:(Q a b).drop k=x::(Q a b).drop (k+1):=by
     rw[List.drop_eq_getElem_cons c3];congr 1;have:=List.getElem?_eq_getElem c3;rw[this] at hx;exact Option.some.inj hx
    refine hy (fl (ZrF n Q) a++fl (Q a) b++(Q a b).take k) x ((Q a b).drop (k+1)++(p2++p1)) _ _ ?_ (Yx.close hD3 h4) λW' h5=>?_
    .rw[hp3,List.append_assoc _<|(Q a b).take k,<-List.cons_append,<-hdr,<-List.append_assoc ((Q a b).take k),List.take_append_drop]
    .refine ZaJ<|Zf ?_;have hlen:(fl (ZrF n Q) a++fl (Q a) b++(Q a b).take k).length<=1024:=by
      refine Nat.le_trans ?_ hall;rw[hp3];simp only[List.length_append,List.length_take];omega
     refine Qadds<|Qadds<|hg3 _ _ _ _ (by omega) ⟨k+1,by omega,rfl,?_,rfl,?_⟩
     .rw[htk,<-List.append_assoc,Zxe]
     .rw[htk,<-List.append_assoc];exact h5
   .have e1:k=(Q a b).length:=by omega
    subst e1;rw[List.take_length] at h3 ⊢;refine Qadds<|hg2 _ _ _ _ (by omega) ⟨b+1,by omega,rfl,?_,rfl,?_⟩
    .rw[ZjZ,<-List.append_assoc]
    .rw[ZjZ,<-List.append_assoc];exact h3
  .have e1:b=n:=by omega
   subst e1;refine Qadds<|hg1 _ _ _ _ (by omega) ⟨a+1,by omega,rfl,?_,rfl,?_⟩
   .rw[ZjZ];rfl
   .rw[ZjZ];exact h2
 .have e1:a=n:=by omega
  subst e1;exact hk _ h1
def Zpr (colour:Int) (l:List Zn):Nat:=l.countP λx=>decide (x.Kind≠2)&&decide (x.Colour=colour)
theorem Zmg (colour:Int) (l:List Zn) (x:Zn):Zpr colour (l++[x])=Zpr colour l+if x.Kind≠2/\x.Colour=colour then 1 else 0:=by
 unfold Zpr;rw[List.countP_append];simp[List.countP_singleton]
theorem ZqW (colour:Int) (l:List Zn):Zpr colour l<=l.length:=List.countP_le_length
theorem ZF3 {a b u:Value}:(#[a,b]:Array Value).getD 1 u=b:=rfl
theorem Zg9 {g:Nat} {n:Nat} {room colour:Int} {Q:Nat->Nat->List Zn} (hS:Sat e w<|Yx g n room Q::R) (hk:∀w',Sat e w' (Yx g n room Q::R)->K (Iw<|Zpr colour<|ZpJ n Q) w') :
  Cl prog 55 #[pt g,Iw colour] w K:=by
 refine ZeT ?_;unfold Zez;obtain ⟨D,hD,_⟩:=Yx.open hS;have hall:=hD.all_len;refine Yp (cs:=[Iw colour]) hS rfl λp w0 h0=>?_;rw[Zr6];refine Yp (cs:=[Iw 0]) h0 rfl λc w1 h1=>Zq h1 0 rfl (vs:=Yi [0]) rfl rfl (by decide) (Zg _) (cs':=[Iw 0]) (by kernel_rfl) λw2 h2=>?_;refine ZpK h2 λd w3 h3=>ZHL rfl (by kernel_rfl) h3 λl E LR w4 Kf rule fin h4=>?_;refine Zn7 (I:=λpre=>lpC LR l .ready::dfC E::blk c 3 [Iw<|Zpr colour pre]::blk p 3 [Iw colour]::R) (λpre x post W K heq hW hK=>?_) (h4.sn 6 [5,2,0,1,3,4]) λw5 h5=>?_
 .refine rule (hW.pick 2 rfl) rfl ?_;have hl:Zpr colour pre<=1024:=by
   refine Nat.le_trans (ZqW _ _)<|Nat.le_trans ?_ hall;rw[heq];simp
  simp only[ZF3];rw[ZWS];refine Yp (cs:=Zn.zero.cs) hW rfl λt w5 h5=>Zq h5 0 rfl (vs:=x.cs) rfl rfl (by decide) (Zg _) (cs':=x.cs) (by kernel_rfl) λw6 h6=>?_;refine ZB7 (h6.pick 3 rfl) λw7 h7=>Za<|Zb h7 1 rfl (v:=Iw x.Kind) rfl<|ZrP (λc1=>?_)<|λc1=>?_
  .refine Ze<|Za<|Ze<|Zb h7 1 rfl (v:=Iw x.Colour) rfl<|Ze<|Zb h7 6 rfl rfl<|Ze<|ZoR (λc2=>?_)<|λc2=>?_
   .refine Yv<|Zi<|Zb h7 5 rfl rfl<|Qadds<|Zq h7 5 rfl (vs:=Yi [(Zpr colour pre:Int)+1]) rfl rfl (by simp) (Zg _) (cs':=[Iw<|(Zpr colour pre:Int)+1]) (by rfl) λw8 h8=>?_;refine ZwR h8 λw9 h9=>hK _ ?_;rw[Zmg,if_pos ⟨c1,c2⟩];exact h9.sn 7 [2,3,0,4,5,6]
   .refine Yv<|Zf<|ZwR h7 λw9 h9=>hK _ ?_;rw[Zmg,if_neg λh=>c2 h.2];exact h9.sn 7 [2,3,0,4,5,6]
  .refine Zd<|Zd<|Zd<|Zd<|Yd<|Zf<|ZwR h7 λw9 h9=>hK _ ?_;rw[Zmg,if_neg λh=>h.1 c1];exact h9.sn 7 [2,3,0,4,5,6]
 .exact fin (h5.pick 2 rfl) λw6 h6=>Zb h6 3 rfl rfl<|Zvn (h6.pick 2 rfl) λw7 h7=>hk _<|h7.sn 4 [0]
def ZwN (c:Nat) (l:List Int):HP:=hex λv:Value=>Yh [blk c 22 [v],Zz 3 1 (Ye .i64) v l]
theorem ZwN.open {c:Nat} {l:List Int} (hS:Sat e w<|ZwN c l::R):∃v,Sat e w (blk c 22 [v]::Zz 3 1 (Ye .i64) v l::R):=by
 obtain ⟨v,h0⟩:=hS.ex;exact ⟨v,h0.split⟩
theorem ZwN.close {c:Nat} {l:List Int} {v:Value} (hS:Sat e w<|blk c 22 [v]::Zz 3 1 (Ye .i64) v l::R):Sat e w (ZwN c l::R):=.mk_ex v (.join (l':=[_,_]) hS)
def one (v:Value):List Value:=[v]
structure KM where
 nv:Value
 bv:Value
 g:Nat
 c:Nat
 ms:Nat->Nat × Nat
 vs:Nat->Value
def ndV:Nd->Nat × Nat->Value
 | .slow _,m=>.iface 71 (.agg #[pt m.1])
 | .bold _ _ _,m=>.iface 75<|pt m.2
abbrev ZfN (m:Nat × Nat) (r:Nat) (t:Int):HP:=blk m.2 77 [pt m.1,Iw (r:Int),Iw t]
def ndH (wd:Wd) (k f:Nat):Nd->Nat × Nat->HP
 | .slow N,m=>Zbu m.1 wd f N k
 | .bold N r t,m=>Yh [ZfN m r t,Ya m.1 wd f (Zs wd f) N k]
def ZG0:Option CL->Nat->Value
 | none,_=>Pn
 | some _,g=>pt g
def Zcg (m:Nat) (c:CL):Zan:=⟨m,c.begun,c.over,λi=>c.T.getD i 0,λi=>c.Rp.getD i 0,c.on0,c.on1,c.least,c.value⟩
def ZBC (m:Nat):Option CL->Nat->HP
 | none,_=>pur True
 | some c,g=>ZbI g<|Zcg m c
def kcs (wd:Wd) (k:KS) (M:KM):List Value:=[Iw wd.End,M.nv,M.bv,pt M.g,ZG0 k.cut M.c]
abbrev Zat (wd:Wd) (n:Nat) (k:KS) (M:KM):List HP:=(List.range wd.Feds.length).map λf=>ndH wd n f (k.node f)<|M.ms f
abbrev Zar (wd:Wd) (k:KS) (M:KM):List HP:=(List.range wd.Feds.length).map λf=>DI (M.vs f)<|k.box f
abbrev Zju (wd:Wd) (k:KS) (M:KM):List Value:=(List.range wd.Feds.length).map λf=>ndV (k.node f)<|M.ms f
abbrev Zg7 (wd:Wd) (M:KM):List Value:=(List.range wd.Feds.length).map M.vs
abbrev BK (p:Nat) (wd:Wd) (k:KS) (M:KM):HP:=blk p 66<|kcs wd k M
abbrev NK (wd:Wd) (k:KS) (M:KM):HP:=Zz 116 1 one M.nv<|Zju wd k M
abbrev XK (wd:Wd) (M:KM):HP:=Zz 46 1 one M.bv<|Zg7 wd M
abbrev GK (wd:Wd) (k:KS) (M:KM):HP:=Yx M.g wd.Feds.length k.room<|λa b=>k.q a b
abbrev CK (wd:Wd) (k:KS) (M:KM):HP:=ZBC (Zai wd) k.cut M.c
abbrev KP (p:Nat) (wd:Wd) (n:Nat) (k:KS) (M:KM):List HP:=[Yh<|Zat wd n k M,Yh<|Zar wd k M,BK p wd k M,NK wd k M,XK wd M,GK wd k M,CK wd k M]
def Zby (p:Nat) (wd:Wd) (k:KS) (n s:Nat):HP:=hex λM:KM=>Yh<|pur (Ze1 wd k s)::KP p wd n k M
theorem ZpC {p n s:Nat} {k:KS} (h:Sat e w<|Zby p wd k n s::Q):∃M,Ze1 wd k s/\Sat e w (KP p wd n k M++Q):=by
 obtain ⟨M,h0⟩:=h.ex;exact ⟨M,Sat.pure h0.split⟩
theorem ZkQ {p n s:Nat} {k:KS} {M:KM} (hk:Ze1 wd k s) (h:Sat e w<|KP p wd n k M++Q):Sat e w (Zby p wd k n s::Q):=
 .mk_ex M (.join (l':=pur (Ze1 wd k s)::KP p wd n k M) (.mk_pure hk h))
theorem ZcQ {α:Type} {n f:Nat} {F F':Nat->α} (h:∀j,j<n->j≠f->F' j=F j) {x:α} (hx:f<n->x=F' f):((List.range n).map F).set f x=(List.range n).map F':=by
 apply List.ext_getElem?;intro j;rw[List.getElem?_set,List.length_map,List.length_range,List.getElem?_map,List.getElem?_map];by_cases hj:j<n
 .rw[List.getElem?_range hj];by_cases hf:f=j
  .subst hf;rw[if_pos rfl,if_pos hj,hx hj];rfl
  .rw[if_neg hf];show some (F j)=some (F' j);rw[h j hj λh=>hf h.symm]
 .rw[List.getElem?_eq_none (by rw[List.length_range];omega)];split
  .rw[if_neg (by omega)];rfl
  .rfl
theorem Yk {α:Type} {n f:Nat} {F:Nat->α} (h:f<n):((List.range n).map F)[f]?=some (F f):=by rw[List.getElem?_map,List.getElem?_range h];rfl
variable {k:KS} {M:KM} {p:Nat}
theorem Zcy (hl:k.nodes.length=wd.Feds.length) (N:Nd):(Zat wd n k M).set f (ndH wd n f N<|M.ms f)=Zat wd n (k.setN f N) M:=
 ZcQ (λj _ hne=>by rw[ZaK,if_neg λh=>hne h.1.symm]) λhf=>by rw[ZaK,if_pos ⟨rfl,by omega⟩]
theorem Zpe (hl:k.boxes.length=wd.Feds.length) (v:Value) (l:List Zn):(Zar wd k M).set f (DI v l)=Zar wd { k with boxes:=k.boxes.set f l } { M with vs:=λj=>if j=f then v else M.vs j }:=
 ZcQ (λj _ hne=>by
  show DI (if j=f then v else M.vs j) ((k.boxes.set f l).getD j [])=_;rw[if_neg hne,ZaX,if_neg λh=>hne h.1.symm];rfl) λhf=>by
  show _=DI (if f=f then v else M.vs f) ((k.boxes.set f l).getD f []);rw[if_pos rfl,ZaX,if_pos ⟨rfl,by omega⟩]
theorem Zf9 {N:Nd} (hv:f<wd.Feds.length->ndV N (M.ms f)=ndV (k.node f) (M.ms f)):Zju wd (k.setN f N) M=Zju wd k M:=by
 refine List.map_congr_left λj hj=>?_;have hj:=List.mem_range.1 hj;rw[ZaK];split
 .rename_i h;obtain ⟨rfl,_⟩:=h;exact hv hj
 .rfl
theorem ZvB (hl:k.net.length=wd.Feds.length) (hr:∀a,a<wd.Feds.length->(k.net.getD a []).length=wd.Feds.length) {a b:Nat} (ha:a<wd.Feds.length) (hb:b<wd.Feds.length) (l:List Zn) :
  ZvY (λa b=>k.q a b) a b l=λc d=>(k.setQ a b l).q c d:=by
 funext c d;rw[Zy1];unfold ZvY;by_cases h:a=c/\b=d
 .rw[if_pos ⟨h.1.symm,h.2.symm⟩,if_pos ⟨h.1,h.2,by omega,by rw[hr a ha];exact hb⟩]
 .rw[if_neg<|λh'=>h ⟨h'.1.symm,h'.2.symm⟩,if_neg<|λh'=>h ⟨h'.1,h'.2.1⟩]
theorem Zdx {j:Int} (hS:Sat e w<|KP p wd n k M++Q) (hk:K (.bool<|decide<|0<=j/\j<wd.Feds.length) w):Cl prog 37 #[pt p,Iw j] w K:=by
 refine ZhU ?_;unfold Zip;refine Zu5 (λc1=>?_)<|λc1=>?_
 .refine Ze<|Ze<|Ze<|Zh<|Ze<|Za<|Ze<|Zb hS 2 rfl (v:=M.nv) rfl<|Ze<|Qln hS 3 rfl ?_;rw[List.length_map,List.length_range];refine Ze<|ZwL<|Yv ?_;rw[show decide (0<=j/\j<(wd.Feds.length:Int))=decide (j<(wd.Feds.length:Int)) from by simp[c1]] at hk;exact hk
 .refine Zu<|Zu<|Zd<|Zd<|Zd<|Zd<|Zd<|Yd ?_;rw[show decide (0<=j/\j<(wd.Feds.length:Int))=false from by simp;omega] at hk;exact hk
theorem Zml (hf:f<wd.Feds.length) (hS:Sat e w<|KP p wd n k M++Q) (hk:K (ndV (k.node f)<|M.ms f) w) :
  ld1 (.pointer<|some ⟨p,0+1,none⟩) w λt w=>ixS 1 t (Iw (f:Int)) w λt w=>ld1 t w K:=by
 exact Zb hS 2 rfl (v:=M.nv) rfl<|Qix hS 3 rfl (Yk hf) λa ha=>Yt hS 3 rfl ha (v:=ndV (k.node f)<|M.ms f) rfl hk
theorem Zjt (hf:f<wd.Feds.length) (hS:Sat e w<|KP p wd n k M++Q) (hk:K (M.vs f) w) :
  ld1 (.pointer<|some ⟨p,0+2,none⟩) w λt w=>ixS 1 t (Iw (f:Int)) w λt w=>ld1 t w K:=by
 exact Zb hS 2 rfl (v:=M.bv) rfl<|Qix hS 4 rfl (Yk hf) λa ha=>Yt hS 4 rfl ha (v:=M.vs f) rfl hk
theorem ZwE {v:Value} (hk:K (.tuple #[Pn,Bf]) w):tyA prog (.iface 71 v) 116 75 true w K:=Yn (by rfl) hk
theorem Zwg {v:Value} (hk:K (.tuple #[v,Bt]) w):tyA prog (.iface 75 v) 116 75 true w K:=Yn (by rfl) hk
def Zum:Nd->Nat × Nat->Value
 | .slow _,_=>Pn
 | .bold _ _ _,m=>pt m.2
theorem ZbX (hf:f<wd.Feds.length) (hS:Sat e w<|KP p wd n k M++Q) (hk:K (Zum (k.node f)<|M.ms f) w):Cl prog 43 #[pt p,Iw (f:Int)] w K:=by
 refine Zfq<|Zh<|Za<|Zml hf hS ?_;cases hn:k.node f with
 | slow N=>
  rw[hn] at hk;exact ZwE (Zal<|Zam<|Zf hk)
 | bold N r t=>
  rw[hn] at hk;exact Zwg<|Zal<|Zam<|Zi hk
theorem Zir {N:Nd} {m:Nat × Nat} (h:N.isBold=false):Zum N m=Pn:=by
 cases N with
 | slow _=>rfl
 | bold _ _ _=>cases h
theorem Zli {N:Nd} {m:Nat × Nat} (h:N.isBold=true):Zum N m=pt m.2:=by
 cases N with
 | slow _=>cases h
 | bold _ _ _=>rfl
theorem ZdQ {v:Value} {l:List Zn} (hf:f<wd.Feds.length) (hl:k.boxes.length=wd.Feds.length) (hb:(k.box f).length<=100000000000) (hm:l.length<=1000000) (hS:Sat e w<|KP p wd n k M++S::Q) (hr:∀g,S g->rdS 8 Zn.cs v l g)
  (hk:∀M' w',M'.ms=M.ms->Sat e w' (KP p wd n (k.put f l) M'++S::Q)->K (.tuple #[]) w'):Cl prog 30 #[pt p,Iw (f:Int),v] w K:=by
 refine Zgq<|ZaY hS λw1 h1=>Zh<|Za<|Zb h1 2 rfl (v:=M.bv) rfl<|Zh<|Za<|Zjt hf h1 ?_;have h2:Sat e w1 (Yh (Zar wd k M)::([Yh<|Zat wd n k M,BK p wd k M,NK wd k M,XK wd M,GK wd k M,CK wd k M,S]++Q)):=h1.sn 8 [1,0,2,3,4,5,6,7];have h3:=h2.focus f<|Yk hf;refine Zeo ZW8 ZW8.und (f:=Zn.cs) (l:=k.box f) (m:=l) (λ_=>rfl) (λ_=>Zg _) (h3.sn 9 [0,8,1,2,3,4,5,6,7]) hr (by omega) λv' w4 h4=>?_;have q1:=h4.own_cells 0 rfl;refine ⟨Zb h4 4 rfl (v:=M.bv) rfl ⟨rfl,rfl⟩,ZdJ h4 6 rfl (λ_=>rfl) (by rw[List.length_map,List.length_range];exact hf) (x:=v') q1.1 (λc hc=>by rw[List.mem_singleton.1 hc];exact q1.2) λw5 h5=>?_⟩;have h6:Sat e w5 (DI v' (k.box f++l)::Yh ((Zar wd k M).eraseIdx f)::([Yh<|Zat wd n k M,BK p wd k M,NK wd k M,Zz 46 1 one M.bv<|(Zg7 wd M).set f v',GK wd k M,CK wd k M,S]++Q)):=h5.sn 9 [0,2,3,4,5,6,7,8,1];have h7:=Sat.unfocus f (Yk hf) h6;rw[Zpe hl] at h7;rw[show (Zg7 wd M).set f v'=Zg7 wd { M with vs:=λj=>if j=f then v' else M.vs j } from ZcQ (λj _ hne=>if_neg hne) (λ_=>(if_pos rfl).symm)] at h7;exact hk { M with vs:=λj=>if j=f then v' else M.vs j } _ rfl<|h7.sn 8 [1,0,2,3,4,5,6,7]
theorem Zev {v:Value} {l:List Msg} (i:Nat) (hi:L[i]?=some S) (hS:Sat e w L) (hr:∀g,S g->rdS 6 Msg.cs v l g) (hl:l.length<=1000000) (hk:∀v' w',Sat e w' (DI v' (l.map Zae)::L)->K v' w'):Cl prog 101 #[v] w K:=by
 refine Zlt ?_;unfold Zpz;rw[ZOc];refine Zt hS i hi hr<|ZjF (λq t3 t8 w=>∃j:Nat,j<=l.length/\t8=Iw j/\q=l.length - j/\Sat e w (DI t3 ((l.take j).map Zae)::L)) l.length ⟨0,Nat.zero_le _,rfl,rfl,hS.own_nil 88 8 Zn.cs⟩ ?_;rintro q t3 _ w g1 ⟨j,hj,rfl,rfl,h1⟩ hg;refine Za7 (λc=>Zi ?_)<|λc=>Zf ?_
 .obtain ⟨o,ho⟩:=Zk (l:=l) (j:=j) (by omega);have hi1:(DI t3 ((l.take j).map Zae)::L)[i+1]?=some S:=hi;refine Zw h1 (i+1) hi1 hr (λ_=>rfl) ho λa ha=>Ym h1 (i+1) hi1 ha rfl<|Yp (cs:=Msg.zero.cs) h1 rfl λt5 w2 h2=>Zq h2 0 rfl (vs:=o.cs) rfl rfl (by decide) (Zg _) (cs':=o.cs) (by rfl) λw3 h3=>?_;refine Zo h3 0 (vs:=o.cs) rfl (by rfl) rfl ?_;refine Zaf (Zae o).cs (by kernel_rfl) ?_;refine Zj7 ZW8 (f:=Zn.cs) (λ_=>rfl) (λ_=>Zg _) h3.drop (x:=Zae o) rfl (by rw[List.length_map,List.length_take];omega) λv' w4 h4=>?_;refine Qincs<|hg _ _ _ _ (by omega) ⟨j+1,by omega,rfl,rfl,?_⟩;rw[Zx ho,List.map_append];exact h4
 .have ej:j=l.length:=by omega
  rw[ej,List.take_length] at h1;exact hk _ _ h1
theorem Zm0 {t:TypeId} {v rcv:Value} {name:String} {f:FuncId} {args:Array Value} (hm:(Go.method (prog.types.size+Made.depth) t v name).run prog w=.ok (f,rcv) w) (h:Cl prog f (#[rcv]++args) w K):clI prog (.iface t v) name args w K:=Zrj hm h
abbrev sl (m:Nat):Value:=.agg #[pt m]
theorem ZqH {m:Nat}:(Go.method (prog.types.size+Made.depth) 71 (sl m) "paceline/fed.hear").run prog w=.ok (267,sl m) w:=by kernel_rfl
theorem Zrg {m:Nat}:(Go.method (prog.types.size+Made.depth) 71 (sl m) "paceline/fed.step").run prog w=.ok (268,sl m) w:=by kernel_rfl
theorem Zqx {m:Nat}:(Go.method (prog.types.size+Made.depth) 71 (sl m) "paceline/fed.tell").run prog w=.ok (269,sl m) w:=by kernel_rfl
theorem Zth {m:Nat}:(Go.method (prog.types.size+Made.depth) 71 (sl m) "Log").run prog w=.ok (241,pt m) w:=by kernel_rfl
theorem ZK8 {m:Nat}:(Go.method (prog.types.size+Made.depth) 71 (sl m) "State").run prog w=.ok (242,pt m) w:=by kernel_rfl
theorem ZqL {m:Nat}:(Go.method (prog.types.size+Made.depth) 75 (pt m) "paceline/fed.hear").run prog w=.ok (292,pt m) w:=by kernel_rfl
theorem ZqJ {m:Nat}:(Go.method (prog.types.size+Made.depth) 75 (pt m) "paceline/fed.step").run prog w=.ok (293,pt m) w:=by kernel_rfl
theorem Zq5 {m:Nat}:(Go.method (prog.types.size+Made.depth) 75 (pt m) "paceline/fed.tell").run prog w=.ok (294,pt m) w:=by kernel_rfl
theorem ZAd {t el:TypeId} {a:Addr} {name:String} {f:FuncId} {n:Nat} {inf nf:TypeInfo} {v:Value} {s:FieldStep} {fs:Array Field} {fd:Field} (hi:prog.info? t=some inf)
  (hmm:(inf.methods.find? (·.name==name)).map (λm=>(m.path,m.func))=some (#[s],some (f,true))) (hs:prog.underlying s.struct=some (.struct fs)) (hd:s.deref=true) (hfd:fs[s.index]?=some fd) (hn:prog.info? fd.type=some nf) (hz:nf.size≠0) (hu:prog.underlying fd.type=some (.pointer el))
  (hl:(loadVar fd.type<|a.add fd.offset).run prog w=.ok v w):(Go.method (n+1) t (.pointer<|some a) name).run prog w=.ok (f,v) w:=by
 obtain ⟨m,hm,hpf⟩:=Option.map_eq_some_iff.1 hmm;have hp:m.path=#[s]:=congrArg Prod.fst hpf;have hf:m.func=some (f,true):=congrArg Prod.snd hpf;unfold Go.method;simp only[Sem.run_bind,ZnL hi,Result.andThen_ok,hm,hp,hf,follow,Sem.run_pure,Yb hs,hfd,hd,if_true,Place.get,asAddr,fieldPlace,Zcj hn,if_neg hz,receiverAt,Yb hu,hl]
theorem Zxa {t:TypeId} {a:Addr} {name:String} {f:FuncId} {n:Nat} {inf nf:TypeInfo} {v:Value} {s1 s2:FieldStep} {fs gs hs:Array Field} {fd gd:Field} {cs:Array Value} {d:TypeDesc} (hi:prog.info? t=some inf)
  (hmm:(inf.methods.find? (·.name==name)).map (λm=>(m.path,m.func))=some (#[s1,s2],some (f,false))) (h1:prog.underlying s1.struct=some (.struct fs)) (hd1:s1.deref=false) (hfd:fs[s1.index]?=some fd) (hu:prog.underlying fd.type=some d) (hda:ZeC d=false) (hc:cs[fd.offset]?=some (.pointer<|some a))
  (h2:prog.underlying s2.struct=some (.struct gs)) (hd2:s2.deref=true) (hgd:gs[s2.index]?=some gd) (hn:prog.info? gd.type=some nf) (hz:nf.size≠0) (hu2:prog.underlying gd.type=some (.struct hs))
  (hl:(loadVar gd.type<|a.add gd.offset).run prog w=.ok v w):(Go.method (n+1) t (.agg cs) name).run prog w=.ok (f,v) w:=by
 obtain ⟨m,hm,hpf⟩:=Option.map_eq_some_iff.1 hmm;have hp:m.path=#[s1,s2]:=congrArg Prod.fst hpf;have hf:m.func=some (f,false):=congrArg Prod.snd hpf;unfold Go.method;simp only[Sem.run_bind,ZnL hi,Result.andThen_ok,hm,hp,hf,follow,Sem.run_pure,Yb h1,Yb h2,hfd,hgd,hd1,hd2,if_true,Bool.false_eq_true,if_false,Place.get,asAddr,fieldPlace,Zcj hn,if_neg hz,receiverAt,Yb hu2,part,Zfh hu,hda,hc,hl]
theorem ZqB {m q:Nat} (h:(loadVar 152 ⟨m,1,none⟩).run prog w=.ok (.agg #[pt q]) w):(Go.method (prog.types.size+Made.depth) 71 (sl m) "Waiting").run prog w=.ok (243,.agg #[pt q]) w:=
 Zxa (s1:=⟨71,0,false⟩) (s2:=⟨155,1,true⟩) (inf:=Tryz.t71) (nf:=Tryz.t152) (by kernel_rfl) (by kernel_rfl) Tryz.underlying71 rfl rfl Tryz.underlying67 rfl rfl Tryz.underlying155 rfl rfl (by kernel_rfl) (by decide) Tryz.underlying152 h
theorem Zx2 {m v:Nat} {name:String} {f:FuncId} (hm:(Tryz.t75.methods.find? (·.name==name)).map (λm=>(m.path,m.func))=some (#[⟨77,0,true⟩],some (f,true))) (h:(loadVar 72 ⟨m,0,none⟩).run prog w=.ok (pt v) w):(Go.method (prog.types.size+Made.depth) 75 (pt m) name).run prog w=.ok (f,pt v) w:=
 ZAd (s:=⟨77,0,true⟩) (inf:=Tryz.t75) (nf:=Tryz.t72) (by kernel_rfl) hm Tryz.underlying77 rfl rfl (by kernel_rfl) (by decide) Tryz.underlying72 h
theorem ZxP {t:TypeId} {a:Addr} {v:Value} (h:ldT prog t (.pointer<|some a) w λv' w'=>v'=v/\w'=w):(loadVar t a).run prog w=.ok v w:=by
 obtain ⟨b,u,h1,h2,h3,_⟩:=ZuC h;injection h1 with h1;injection h1 with h1;subst h1 h3;exact h2
def Nd.step (wd:Wd) (a:Nat):Nd->Int × List Zn × Nd
 | .slow N=>if Zh8 wd N then (0,(Zo7 wd a (Zs wd a) N).map Zae,.slow<|Zmn (Zs wd a) N) else (150,[],.slow N)
 | .bold N r t=>if Zcl wd a (Zs wd a) N=0 then (0,ZqQ wd<|Zin wd a (Zs wd a) N,.bold (Zcv N) r t) else (Zcl wd a (Zs wd a) N,[],.bold N r t)
def Nd.hear (wd:Wd) (b:Nat) (a:Nat) (i:Zn):Nd->Int × List Zn × Nd
 | .slow N=>(hearE N a i,[],.slow<|Zd0 N a i)
 | .bold N rk t=>((ZbE wd b (Zs wd b) N a i).e,(ZbE wd b (Zs wd b) N a i).out,.bold (ZbE wd b (Zs wd b) N a i).N rk t)
def Nd.tell (wd:Wd) (a:Nat):Nd->Option Int × Nd
 | .slow N=>if N.clk.tellB (Zcd N) (Zs wd a).Look then (some<|N.clk.tellT (Zcd N) (Zs wd a).Look,.slow<|ZiG (Zs wd a) N) else (none,.slow N)
 | .bold N r t=>if Za6 (Zs wd a) N<=t then (none,.bold N r t) else (some<|Za6 (Zs wd a) N,.bold N r<|Za6 (Zs wd a) N)
def Nd.st (wd:Wd) (a:Nat):Nd->Int
 | .slow N=>N.st
 | .bold N _ _=>(N.now<|Zs wd a).1
def Nd.q:Nd->List Msg
 | .slow N=>N.q
 | .bold N _ _=>N.q
theorem NOk.mono {f k k':Nat} {N:ND} (h:NOk wd f N k) (hk:k<=k'):NOk wd f N k':=⟨h.may,h.hf,h.len,h.self,⟨h.sent.1,by have:=h.sent.2;omega⟩,Nat.le_trans h.log hk⟩
theorem Zk8.mono {X:WdX} {f k k':Nat} {fd:Fed} {N:WN} {m:List<|Int × Int} (h:Zk8 X wd f fd N k m) (hk:k<=k'):Zk8 X wd f fd N k' m:=⟨h.eq,h.short,h.ok.mono hk,h.map⟩
theorem ZnT {k k' f:Nat} {N:Nd} {m:Nat × Nat} (hk:k<=k'):∀g,ndH wd k f N m g->ndH wd k' f N m g:=by
 intro g h;cases N with
 | slow N=>
  obtain ⟨p,hp⟩:=h;exact ⟨p,ZcB.head_imp hp λ_ h=>⟨h.1,h.2.1,h.2.2.mono hk⟩⟩
 | bold N r t=>
  have h':ZcB [Ya m.1 wd f (Zs wd f) N k,ZfN m r t] g:=ZcB.swap (show ZcB [ZfN m r t,Ya m.1 wd f (Zs wd f) N k] g from h);have h2:ZcB [Ya m.1 wd f (Zs wd f) N k',ZfN m r t] g:=h'.head_imp λ_ ⟨p,hp⟩=>⟨p,ZcB.head_imp hp λ_ h=>Zk8.mono h hk⟩;exact h2.swap
theorem Zfo {α:Type} {F F':α->HP} (h:∀x g,F x g->F' x g):∀(l:List α) (g:Hp),Yh (l.map F) g->Yh (l.map F') g
 | [],_,_=>trivial
 | x::l,_,⟨h1,h2,d,s1,s2,p,r⟩=>⟨h1,h2,d,s1,s2,h x _ p,Zfo h l h2 r⟩
variable {k:Nat} {N:Nd} {m:Nat × Nat}
theorem Ziz (h:Sat e w Q):Sat e w (DI Sn []::Q):=h.own_nil 88 8 Zn.cs
theorem ZxZ:∀g,pur True g->rdS 6 Msg.cs Sn ([]:List Msg) g:=λ_ _=>⟨_,0,rfl,Nat.le_refl _,λh=>absurd h<|by decide⟩
theorem Zvj (hk0:k<=1000) (hf:f<wd.Feds.length) (hS:Sat e w<|ndH wd k f N m::Q) (hk:∀v w',Sat e w' (DI v (N.step wd f).2.1::ndH wd (k+1) f (N.step wd f).2.2 m::Q)->K (.tuple #[v,Iw (N.step wd f).1]) w') :
  clI prog (ndV N m) "paceline/fed.step" #[] w K:=by
 cases N with
 | slow N=>
  refine Zm0 Zrg<|Zhr (t0:=sl m.1) ?_;unfold Zif;refine Yp (cs:=[pt m.1]) hS rfl λb w1 h1=>Za<|Zb h1 0 rfl (v:=pt m.1) rfl ?_;have h2:Sat e w1 (Zbu m.1 wd f N k::blk b 71 [pt m.1]::Q):=h1.swap;rw[ZYc];refine Zrz hk0 (ZaN hf) h2 (λhs w3 h3=>?_)<|λhs v w3 h3=>?_
  .refine Zok<|Zow<|ZoK<|Yp (cs:=Zak.zero.cs) h3 rfl λt4 w4 h4=>Zq h4 0 rfl (vs:=Zak.zero.cs) rfl rfl (by decide) (Zg _) (cs':=Zak.zero.cs) (by kernel_rfl) λw5 h5=>?_;refine Zev (l:=[]) 0 rfl (h5.mk_pure trivial) ZxZ (by decide) λv' w6 h6=>?_;have hst:Nd.step wd f (.slow N)=(150,[],.slow N):=if_neg (by rw[hs];decide);rw[hst] at hk;exact hk _ _ ((h6.sn 5 [0,3]).swap.imp<|ZnT (N:=.slow N)<|Nat.le_succ k).swap
  .refine Zok<|Zow<|ZoK<|Yp (cs:=Zak.zero.cs) h3 rfl λt4 w4 h4=>Zq h4 0 rfl (vs:=(ZmU (Zs wd f) N).cs) rfl rfl (by decide) (Zg _) (cs':=(ZmU (Zs wd f) N).cs) (by rfl) λw5 h5=>?_;have hW:=(ZzP 2 h5 rfl).1;have hlen:(Zo7 wd f (Zs wd f) N).length<=24:=Zge hW.may (ZaN hf) (b:=(N.st,N.sent)) (x:=hdM N.q);refine Zev (l:=Zo7 wd f (Zs wd f) N) 1 rfl h5 (λ_=>Zp) (by omega) λv' w6 h6=>?_;have hst:Nd.step wd f (.slow N)=(0,(Zo7 wd f (Zs wd f) N).map Zae,.slow<|Zmn (Zs wd f) N):=if_pos hs;rw[hst] at hk;exact hk _ _ (h6.sn 5 [0,3])
 | bold N r t=>
  refine Zm0 ZqJ<|ZhW (t0:=pt m.2) ?_;unfold ZjC;have h1:Sat e w (ZfN m r t::Ya m.1 wd f (Zs wd f) N k::Q):=Sat.split (l':=[_,_]) hS;refine Zh<|Za<|Zb h1 0 rfl (v:=pt m.1) rfl ?_;rw[ZYc];have back:∀{w':World} {N':WN} {u:HP} {R:List HP},Sat e w' (u::Ya m.1 wd f (Zs wd f) N' (k+1)::ZfN m r t::R)->Sat e w' (u::ndH wd (k+1) f (.bold N' r t) m::R):=λh=>(Sat.join (l':=[_,_])<|h.sn 3 [2,1,0]).swap;refine Zrp hk0 h1.swap (λhs w3 h3=>?_)<|λhs v w3 h3=>?_
  .refine Zok<|Zow<|ZoK<|Yp (cs:=Zak.zero.cs) h3 rfl λt4 w4 h4=>Zq h4 0 rfl (vs:=Zak.zero.cs) rfl rfl (by decide) (Zg _) (cs':=Zak.zero.cs) (by kernel_rfl) λw5 h5=>?_;have hst:Nd.step wd f (.bold N r t)=(Zcl wd f (Zs wd f) N,[],.bold N r t):=if_neg hs;rw[hst] at hk;have h6:Sat e w5 (Ya m.1 wd f (Zs wd f) N (k+1)::ZfN m r t::Q):=by
    obtain ⟨X,q,p,g,b,mm,lv,hX,h7⟩:=Zb4<|h5.sn 3 [1,2];exact ZbQ (hX.mono<|Nat.le_succ k) h7
   exact hk _ _<|back<|Ziz h6
  .refine Zok<|Zow<|ZoK<|Yp (cs:=Zak.zero.cs) h3 rfl λt4 w4 h4=>Zq h4 0 rfl (vs:=(ZfV<|Zin wd f (Zs wd f) N).cs) rfl rfl (by decide) (Zg _) (cs':=(ZfV<|Zin wd f (Zs wd f) N).cs) (by rfl) λw5 h5=>?_;have hst:Nd.step wd f (.bold N r t)=(0,ZqQ wd<|Zin wd f (Zs wd f) N,.bold (Zcv N) r t):=if_pos hs;rw[hst] at hk;exact hk _ _<|back<|h5.sn 4 [1,2,3]
theorem ZvM {j:Nat} {i:Zn} (ht:ZmY i.m.key.T) (hS:Sat e w<|ndH wd k f N m::Q) (hk:∀v w',Sat e w' (DI v (N.hear wd f j i).2.1::ndH wd k f (N.hear wd f j i).2.2 m::Q)->K (.tuple #[v,Iw (N.hear wd f j i).1]) w') :
  clI prog (ndV N m) "paceline/fed.hear" #[Iw (j:Int),.agg i.cs.toArray] w K:=by
 cases N with
 | slow N=>
  refine Zm0 ZqH<|ZhS (t0:=sl m.1) (t1:=Iw (j:Int)) (t2:=.agg i.cs.toArray) ?_;unfold Zi7;refine Yp (cs:=[pt m.1]) hS rfl λb w1 h1=>Yp (cs:=i.cs) h1 rfl λb2 w2 h2=>Za<|Zb h2 1 rfl (v:=pt m.1) rfl<|Zo h2 0 (vs:=i.cs) rfl (by rfl) rfl ?_;have h3:Sat e w2 (Zbu m.1 wd f N k::blk b2 88 i.cs::blk b 71 [pt m.1]::Q):=h2.sn 3 [2,0,1];exact ZrC ht h3 λw4 h4=>hk _ _ (Ziz<|h4.sn 3 [0])
 | bold N r t=>
  refine Zm0 ZqL<|ZhX (t0:=pt m.2) (t1:=Iw (j:Int)) (t2:=.agg i.cs.toArray) ?_;unfold Zi9;have h1:Sat e w (ZfN m r t::Ya m.1 wd f (Zs wd f) N k::Q):=Sat.split (l':=[_,_]) hS;refine Yp (cs:=i.cs) h1 rfl λb2 w2 h2=>ZaY h2 λw3 h3=>Zh<|Za<|Zb h3 1 rfl (v:=pt m.1) rfl<|Zo h3 0 (vs:=i.cs) rfl (by rfl) rfl ?_;exact Zrs ht (h3.sn 3 [2,0,1]) λv w4 h4=>Zam<|Zal<|hk _ _ (Sat.join (l':=[_,_])<|h4.sn 4 [3,1,0]).swap
theorem Zyt {N:ND} {fd:Fed} (h:N.clk.tellB (Zcd N) fd.Look=false):ZiG fd N=N:=by
 have h1:=of_decide_eq_false h;unfold ZiG Clk.tell;rw[if_pos (by omega)]
theorem Zvl (hf:f<wd.Feds.length) (hS:Sat e w<|ndH wd k f N m::Q) (hk:∀w' (t:Int),(∀x,(N.tell wd f).1=some x->t=x)->Sat e w' (ndH wd k f (N.tell wd f).2 m::Q)->K (.tuple #[Iw t,.bool (N.tell wd f).1.isSome]) w') :
  clI prog (ndV N m) "paceline/fed.tell" #[] w K:=by
 cases N with
 | slow N=>
  refine Zm0 Zqx<|ZhO (t0:=sl m.1) ?_;unfold Zjw;refine Yp (cs:=[pt m.1]) hS rfl λb w1 h1=>Za<|Zb h1 0 rfl (v:=pt m.1) rfl ?_;have h2:Sat e w1 (Zbu m.1 wd f N k::blk b 71 [pt m.1]::Q):=h1.swap;refine ZqE (ZaN hf) h2 λw3 h3=>Zam<|Zal ?_;cases hb:N.clk.tellB (Zcd N) (Zs wd f).Look with
  | true=>
   have hst:Nd.tell wd f (.slow N)=(some<|N.clk.tellT (Zcd N) (Zs wd f).Look,.slow<|ZiG (Zs wd f) N):=if_pos hb;rw[hst] at hk;have htd:(ZiG (Zs wd f) N).clk.told=N.clk.tellT (Zcd N) (Zs wd f).Look:=by
    have:=of_decide_eq_true hb;unfold ZiG Clk.tell;rw[if_neg (by omega)]
   exact hk _ _ (λx hx=>by rw[htd];exact Option.some.inj hx) (h3.sn 2 [0])
  | false=>
   have hst:Nd.tell wd f (.slow N)=(none,.slow N):=if_neg (by rw[hb];decide);rw[hst] at hk;rw[Zyt hb] at h3;exact hk _ _ (λx hx=>by cases hx) (h3.sn 2 [0])
 | bold N r t=>
  refine Zm0 Zq5<|ZhC (t0:=pt m.2) ?_;unfold Zio;have h1:Sat e w (ZfN m r t::Ya m.1 wd f (Zs wd f) N k::Q):=Sat.split (l':=[_,_]) hS;refine Zh<|Za<|Zb h1 0 rfl (v:=pt m.1) rfl<|ZmX h1.swap λw2 h2=>Zh<|Za<|Zb h2 1 rfl (v:=Iw t) rfl<|ZFH (λc1=>Zi ?_)<|λc1=>Zf ?_
  .have hst:Nd.tell wd f (.bold N r t)=(none,.bold N r t):=if_pos c1;rw[hst] at hk;exact hk _ _ (λx hx=>by cases hx)<|Sat.join (l':=[_,_]) h2.swap
  .have hst:Nd.tell wd f (.bold N r t)=(some<|Za6 (Zs wd f) N,.bold N r<|Za6 (Zs wd f) N):=if_neg c1;rw[hst] at hk;refine Zh<|Za<|Zq h2 1 rfl (vs:=[Iw<|Za6 (Zs wd f) N]) rfl rfl (Nat.le_of_ble_eq_true rfl) (by simp[flat]) (cs':=[pt m.1,Iw (r:Int),Iw<|Za6 (Zs wd f) N]) (by rfl) λw3 h3=>?_;exact hk _ _ (λx hx=>Option.some.inj hx)<|Sat.join (l':=[_,_]) h3.swap
theorem ZvJ {r:Nat} {t:Int} (h:Sat e w<|ZfN m r t::Q):(loadVar 72 ⟨m.2,0,none⟩).run prog w=.ok (pt m.1) w:=
 ZxP (by show ld1 (pt m.2) w λv' w'=>v'=pt m.1/\w'=w;exact Zb h 0 rfl (v:=pt m.1) rfl ⟨rfl,rfl⟩)
theorem Zxr (hk0:k<=1000) (hS:Sat e w<|ndH wd k f N m::Q) (hk:∀v w',Sat e w' (DD v (N.log wd f)::ndH wd k f N m::Q)->K v w'):clI prog (ndV N m) "Log" #[] w K:=by
 cases N with
 | slow N=>exact Zm0 Zth (Ztw hk0 hS hk)
 | bold N r t=>
  have h1:Sat e w (ZfN m r t::Ya m.1 wd f (Zs wd f) N k::Q):=Sat.split (l':=[_,_]) hS;exact Zm0 (Zx2 (f:=289) (by kernel_rfl)<|ZvJ h1)<|ZsW hk0 h1.swap λv w2 h2=>hk _ _<|(Sat.join (l':=[_,_])<|h2.sn 3 [2,1,0]).swap
theorem ZLr (hS:Sat e w<|ndH wd k f N m::Q) (hk:K (Iw<|N.st wd f) w):clI prog (ndV N m) "State" #[] w K:=by
 cases N with
 | slow N=>
  refine Zm0 ZK8<|ZKx ?_;unfold ZKy;obtain ⟨X,g,q,lv,hX,h2⟩:=ZhZ (f:=f) (wd:=wd) (N:=N) (k:=k) (n:=m.1) hS;exact Zh (Za<|Zb h2 0 rfl (v:=Iw N.st) rfl hk)
 | bold N r t=>
  have h1:Sat e w (ZfN m r t::Ya m.1 wd f (Zs wd f) N k::Q):=Sat.split (l':=[_,_]) hS;exact Zm0 (Zx2 (f:=290) (by kernel_rfl)<|ZvJ h1)<|ZLc h1.swap hk
theorem Zva (hS:Sat e w<|ndH wd k f N m::Q) (hk:∀v w',Sat e w' (Zz 85 6 Msg.cs v N.q::ndH wd k f N m::Q)->K v w'):clI prog (ndV N m) "Waiting" #[] w K:=by
 cases N with
 | slow N=>
  obtain ⟨q,h1,h2⟩:=Zuz (n:=m.1) (wd:=wd) (f:=f) (N:=N) (k:=k) hS;refine Zm0 (ZqB (q:=q)<|ZxP ?_)<|h2 K hk;show ldN 1 (.pointer<|some ⟨m.1,1,none⟩) w λv' w'=>v'=.agg #[pt q]/\w'=w;exact h1 _ ⟨rfl,rfl⟩
 | bold N r t=>
  have h1:Sat e w (ZfN m r t::Ya m.1 wd f (Zs wd f) N k::Q):=Sat.split (l':=[_,_]) hS;exact Zm0 (Zx2 (f:=291) (by kernel_rfl)<|ZvJ h1)<|Zm7 h1.swap λv w2 h2=>hk _ _<|(Sat.join (l':=[_,_])<|h2.sn 3 [2,1,0]).swap
theorem Zje {v:Value} {l:List Zn} (hl:l.length<=1000000000000) (hS:Sat e w<|S::R) (hr:∀g,S g->rdS 8 Zn.cs v l g)
  (hk:∀v' w',Sat e w' (DI v' l::S::R)->K v' w'):Cl prog 65 #[v] w K:=by
 refine ZbK ?_;unfold ZaZ;obtain ⟨A,c,rfl,_⟩:=hS.shape 0 rfl hr;cases A with
 | none=>
  refine Yn (w':=w) (v:=Bt) (by kernel_rfl) ?_;obtain rfl:=ZlK hS hr;exact Zi (hk _ _<|hS.own_nil 88 8 Zn.cs)
 | some a=>
  refine Yn (w':=w) (v:=Bf) (by kernel_rfl) ?_;refine Zf<|Zw3 hS Zn.cs λv2 w2 h2=>Zcs ZW8 ZW8.und (f:=Zn.cs) (l:=[]) (m:=l) (λ_=>rfl) (λ_ _=>Zg _) h2 hr (by simp only[List.length_nil];omega) λv3 w3 h3=>?_;rw[List.nil_append] at h3;exact hk _ _ h3
variable {k:KS} {s:Nat}
theorem ZiZ (hf:f<wd.Feds.length):∀g,Yh (Zar wd k M) g->rdS 8 Zn.cs (M.vs f) (k.box f) g:=λg hg=>by
 obtain ⟨g',h1,h2⟩:=Yy hg<|Yk (F:=λf=>DI (M.vs f)<|k.box f) hf;exact Zbl h2<|Zp h1
theorem Zfy {N:WN} {r:Nat} {t:Int} (hf:f<wd.Feds.length) (hN:k.node f=.bold N r t):∀g,Yh (Zat wd n k M) g->ZbM g ⟨(M.ms f).2,0,none⟩ [pt (M.ms f).1,Iw (r:Int),Iw t]:=λg hg=>by
 obtain ⟨g',h1,h2⟩:=Yy hg<|Yk (F:=λf=>ndH wd n f (k.node f)<|M.ms f) hf;rw[hN] at h1;obtain ⟨g2,h3,h4⟩:=Yy (i:=0) (P:=ZfN (M.ms f) r t) h1 rfl;intro i v hi;exact ZrR (h4.trans h2)<|ZcZ (off:=0) h3 i v (by rwa [List.drop_zero])
theorem Zrf {n':Nat} (h:n<=n') (hS:Sat e w<|KP p wd n k M++Q):Sat e w (KP p wd n' k M++Q):=hS.imp<|Zfo (λ_=>ZnT h) _
theorem ZcV (hf:f<k.nodes.length):k.setN f (k.node f)=k:=by
 unfold KS.setN KS.node;rw[List.getD_eq_getElem?_getD,List.getElem?_eq_getElem hf,Option.getD_some,List.set_getElem_self]
theorem Zrv (hf:f<k.boxes.length):k.put f []=k:=by
 unfold KS.put KS.box;rw[List.append_nil,List.getD_eq_getElem?_getD,List.getElem?_eq_getElem hf,Option.getD_some,List.set_getElem_self]
theorem Znn (h:Ze1 wd k s) (hs:s<=1000000) (f:Nat):(k.box f).length<=50000000000:=by
 have:=h.len f;omega
theorem Zxd (wd:Wd) (f:Nat) (N:Nd) (m:Nat × Nat):ndV (N.step wd f).2.2 m=ndV N m:=by
 cases N with
 | slow N=>unfold Nd.step;dsimp only;split <;> rfl
 | bold N r t=>unfold Nd.step;dsimp only;split <;> rfl
theorem ZyH (hI:Ze1 wd k s) (hf:f<wd.Feds.length) (hb:k.box f=[]):k.step wd f=(((k.node f).step wd f).1,(k.setN f ((k.node f).step wd f).2.2).put f ((k.node f).step wd f).2.1):=by
 have e1:(k.setN f<|k.node f).put f []=k:=by
  rw[ZcV (by rw[hI.nl];exact hf),Zrv (by rw[hI.bl];exact hf)]
 unfold KS.step;rw[if_neg<|λh=>h hb];cases hn:k.node f with
 | slow N=>
  unfold Nd.step;dsimp only;split
  .rfl
  .rw[hn] at e1;rw[e1]
 | bold N r t=>
  unfold Nd.step;dsimp only;split
  .rfl
  .rw[hn] at e1;rw[e1]
theorem Zti (hf:f<wd.Feds.length) (hI:Ze1 wd k s) (hs:s<=1000000) (hn:n<=1000) (hS:Sat e w<|KP p wd n k M++Q)
  (hk:∀M' w',Sat e w' (KP p wd (n+1) (k.step wd f).2 M'++Q)->K (Iw (k.step wd f).1) w'):Cl prog 38 #[pt p,Iw (f:Int)] w K:=by
 refine ZfK<|Zh<|Za<|Zjt hf hS<|Zt hS 1 rfl (ZiZ hf) ?_;by_cases hb:k.box f=[]
 .rw[ZyH hI hf hb] at hk;rw[hb];refine Zle (by decide)<|Zf<|Zh<|Za<|Zml hf hS ?_;have h1:=Sat.focus hS f<|Yk hf;refine Zvj hn hf h1 λv w2 h2=>Zam<|Zal ?_;have h3:Sat e w2 (Yh ((Zat wd n k M).eraseIdx f)::([DI v ((k.node f).step wd f).2.1,ndH wd (n+1) f ((k.node f).step wd f).2.2<|M.ms f,Yh<|Zar wd k M,BK p wd k M,NK wd k M,XK wd M,GK wd k M,CK wd k M]++Q)):=h2.sn 9 [2,0,1,3,4,5,6,7,8];have h4:Sat e w2 (Yh ((Zat wd (n+1) k M).eraseIdx f)::([DI v ((k.node f).step wd f).2.1,ndH wd (n+1) f ((k.node f).step wd f).2.2<|M.ms f,Yh<|Zar wd k M,BK p wd k M,NK wd k M,XK wd M,GK wd k M,CK wd k M]++Q)):=h3.imp λg hg=>by
   rw[<-List.eraseIdx_map_c] at hg ⊢;exact Zfo (λ_=>ZnT<|Nat.le_succ n) _ g hg
  have h4':Sat e w2 (ndH wd (n+1) f ((k.node f).step wd f).2.2 (M.ms f)::Yh ((Zat wd (n+1) k M).eraseIdx f)::([Yh<|Zar wd k M,BK p wd k M,NK wd k M,XK wd M,GK wd k M,CK wd k M,DI v ((k.node f).step wd f).2.1]++Q)):=h4.sn 9 [2,0,3,4,5,6,7,8,1];have h5:=Sat.unfocus f (Yk (F:=λj=>ndH wd (n+1) j (k.node j)<|M.ms j) hf) h4';rw[Zcy hI.nl] at h5;have h6:Sat e w2 (KP p wd (n+1) (k.setN f ((k.node f).step wd f).2.2) M++DI v ((k.node f).step wd f).2.1::Q):=by
   show Sat e w2 ([_,_,_,Zz _ 1 one M.nv<|Zju wd (k.setN f ((k.node f).step wd f).2.2) M,_,_,_]++_);rw[Zf9 λ_=>Zxd ..];exact h5
  have hlen:((k.node f).step wd f).2.1.length<=1000000:=by
   cases hn:k.node f with
   | slow N=>
    unfold Nd.step;dsimp only;split
    .rw[List.length_map];exact Nat.le_trans (Zge hI.may (ZaN hf) (b:=(N.st,N.sent)) (x:=hdM N.q)) (by decide)
    .exact Nat.zero_le _
   | bold N r t=>
    unfold Nd.step;dsimp only;split
    .unfold ZqQ;rw[List.length_map];exact Nat.le_trans (List.length_filter_le _ _)<|Nat.le_trans (Zge hI.may<|ZaN hf) (by decide)
    .exact Nat.zero_le _
  have hlb:=Znn hI hs f;exact ZdQ (k:=k.setN f ((k.node f).step wd f).2.2) (S:=DI v ((k.node f).step wd f).2.1) hf hI.bl (by show (k.box f).length<=_;omega) hlen h6 (λ_=>Zp) λM' w7 _ h7=>hk M' _<|h7.sn 8 [0,1,2,3,4,5,6]
 .have hst:k.step wd f=(2,k):=if_pos hb;rw[hst] at hk;have hpos:0<(k.box f).length:=List.length_pos_iff.2 hb;exact Qgtt<|Zi<|hk M _<|Zrf (Nat.le_succ n) hS
theorem Zf7 (a b:Nat) (i:Zn):k.counted a b i=(!decide (i.Kind=2)&&(k.node a).isBold&&(k.node b).isBold):=rfl
theorem ZjS {a b:Nat} {i:Zn} (ha:a<wd.Feds.length) (hb:b<wd.Feds.length) (hS:Sat e w<|KP p wd n k M++Q) (hk:∀w',Sat e w' (KP p wd n k M++Q)->K (.tuple #[Zum (k.node a)<|M.ms a,Zum (k.node b)<|M.ms b,.bool<|k.counted a b i]) w') :
  Cl prog 87 #[pt p,Iw (a:Int),Iw (b:Int),.agg i.cs.toArray] w K:=by
 refine ZfP ?_;unfold ZfB;refine Yp (cs:=i.cs) hS rfl λt7 w1 h1=>?_;have h2:Sat e w1 (KP p wd n k M++blk t7 88 i.cs::Q):=h1.sn 8 [1,2,3,4,5,6,7,0];refine ZbX ha h2<|ZbX hb h2<|Za<|Zb h2 7 rfl (v:=Iw i.Kind) rfl ?_;have h3:=hk _ h1.drop;rw[Zf7] at h3;by_cases c1:i.Kind=2
 .rw[decide_eq_true c1] at h3;exact ZoP c1<|Zu<|Zu<|Yd<|Zu<|Zu<|Yd h3
 .rw[decide_eq_false c1] at h3;refine Zng c1<|Ze<|Ze ?_;cases hab:(k.node a).isBold with
  | false=>
   rw[hab] at h3;rw[Zir hab] at h3 ⊢;exact ZtL (Yv<|Zu<|Zu<|Yd h3)
  | true=>
   rw[hab] at h3;rw[Zli hab] at h3 ⊢;refine ZtQ _<|Yv<|Ze<|Ze ?_;cases hbb:(k.node b).isBold with
   | false=>
    rw[hbb] at h3;rw[Zir hbb] at h3 ⊢;exact ZtL (Yv h3)
   | true=>
    rw[hbb] at h3;rw[Zli hbb] at h3 ⊢;exact ZtQ _<|Yv h3
theorem Zz1 (m:Nat) (c:CL) (x:Int):(Zcg m c).on x=c.on x:=rfl
theorem ZjQ (m:Nat) (c:CL) (j x:Int):(Zcg m c).setOn j x=Zcg m (c.setOn j x):=by
 unfold Zan.setOn CL.setOn;split <;> rfl
theorem ZvG (m:Nat) (c:CL) (i:Nat) (t:Int):(Zcg m c).sent i t=Zcg m (c.sent i t):=by
 unfold Zan.sent CL.sent;by_cases h:c.over<c.begun/\c.t i=c.begun
 .rw[if_pos h,if_pos (show (Zcg m c).over<(Zcg m c).begun/\(Zcg m c).T i=(Zcg m c).begun from h)];exact congrArg (λz:Zan=>({ z with least:=min c.least t }:Zan))<|ZjQ m c (c.t i % 2)<|c.on (c.t i % 2)+1
 .rw[if_neg h,if_neg (show ¬((Zcg m c).over<(Zcg m c).begun/\(Zcg m c).T i=(Zcg m c).begun) from h),ZjQ];rfl
theorem Zv8 (m:Nat) (c:CL) (x:Int):(Zcg m c).got x=Zcg m (c.got x):=by
 unfold Zan.got CL.got;by_cases h:¬(0<=x/\x<=1)\/c.on x=0
 .rw[if_pos h,if_pos (show ¬(0<=x/\x<=1)\/(Zcg m c).on x=0 from h)]
 .rw[if_neg h,if_neg (show ¬(¬(0<=x/\x<=1)\/(Zcg m c).on x=0) from h),ZjQ];rfl
theorem Zyb {c:CL} {m s:Nat} (h:ZeV c m s) (hs:s<=1000000):∀x,-1000000<=(Zcg m c).on x/\(Zcg m c).on x<=1000000:=λx=>by
 have:=h.onk x;rw[Zz1];omega
theorem Zk9 (h:ZoS wd):Zai wd<=8:=Nat.le_trans (List.length_filter_le _ _) h.n.2
def Zki (k:KS) (a:Nat) (i:Zn):KS:=match k.counted a i.m.To.toNat i,k.cut with
 | true,some c=>{ k with cut:=some (c.sent (k.node a).rank i.m.key.T) }
 | _,_=>k
def Zkh (k:KS) (a:Nat) (i:Zn):Zn:=match k.counted a i.m.To.toNat i,k.cut with
 | true,some c=>⟨i.Kind,i.m,c.t (k.node a).rank % 2⟩
 | _,_=>i
theorem ZvZ {i:Zn} {r:List Zn} (hb:k.box f=i::r) (hr:k.roomAt f i.m.To≠0):k.flush f=(0,({ Zki k f i with boxes:=k.boxes.set f r }).setQ f i.m.To.toNat<|k.q f i.m.To.toNat++[Zkh k f i]):=by
 unfold KS.flush Zki Zkh;rw[hb];dsimp only;rw[if_neg hr];cases k.counted f i.m.To.toNat i with
 | false=>rfl
 | true=>
  cases hc:k.cut with
  | none=>dsimp only;rw[hc]
  | some c=>rfl
theorem Zxv (i:Zn):(Zkh k f i).Kind=i.Kind/\(Zkh k f i).m=i.m:=by
 unfold Zkh;split <;> exact ⟨rfl,rfl⟩
theorem Zwd (i:Zn):(Zki k f i).nodes=k.nodes/\(Zki k f i).boxes=k.boxes/\(Zki k f i).net=k.net/\(Zki k f i).room=k.room:=by
 unfold Zki;split <;> exact ⟨rfl,rfl,rfl,rfl⟩
theorem Zxo {g:Nat} {a b:Nat} {n room:Int} {F:Nat->Nat->List Zn} (i:Nat) (hS:Sat e w L) (hi:L[i]?=some (Yx g n room F)) (ha:a<8) (hb:b<8):((F a b).length:Int)<=room:=by
 obtain ⟨D,hD,_⟩:=Yx.open<|hS.pick i hi;exact hD.room a b ha hb
theorem ZkG {a b:Nat} {i:Zn} (h:k.counted a b i=true):(k.node a).isBold=true/\(k.node b).isBold=true:=by
 rw[Zf7,Bool.and_eq_true,Bool.and_eq_true] at h;exact ⟨h.1.2,h.2⟩
theorem Zt9 {N:Nd} (h:N.isBold=true):∃W r t,N=.bold W r t:=by
 cases N with
 | slow _=>cases h
 | bold W r t=>exact ⟨W,r,t,rfl⟩
theorem Zll (hI:Ze1 wd k s) (hf:f<wd.Feds.length) (hb:(k.node f).isBold=true):∃c,k.cut=some c/\ZeV c (Zai wd) s:=by
 have h1:=hI.cut;rw[if_neg<|Zpf hI hf hb] at h1;exact h1
theorem Zww {i:Zn} (h:Zb8 wd.Feds.length i):Zb8 wd.Feds.length (Zkh k f i):=by
 unfold Zkh;split
 .exact ⟨h.kind,⟨by dsimp only;omega,by dsimp only;omega⟩,h.to,h.time⟩
 .exact h
theorem ZqM (hf:f<wd.Feds.length) (hI:Ze1 wd k s) (hs:s<=1000000) (hS:Sat e w<|KP p wd n k M++Q)
  (hk:∀M' w',Sat e w' (KP p wd n (k.flush f).2 M'++Q)->K (Iw (k.flush f).1) w'):Cl prog 39 #[pt p,Iw (f:Int)] w K:=by
 refine Ze0 ?_;unfold ZeM;rw[ZWS];refine Zh<|Za<|Zjt hf hS<|Zt hS 1 rfl (ZiZ hf) ?_;have hn8:=hI.may.n;cases hb:k.box f with
 | nil=>
  have hfl:k.flush f=(150,k):=by unfold KS.flush;rw[hb]
  rw[hfl] at hk;exact Znq rfl (Zi<|hk M _ hS)
 | cons i r=>
  have hi:Zb8 wd.Feds.length i:=hI.box f i (by rw[hb];exact List.mem_cons_self ..);obtain ⟨b,hTo⟩:∃b:Nat,i.m.To=b:=⟨i.m.To.toNat,by have:=hi.to;omega⟩;have hbl:b<wd.Feds.length:=by have:=hi.to;omega
  have hbT:i.m.To.toNat=b:=by omega
  refine Zd8 (by simp;omega)<|Zf<|Zh<|Za<|Zjt hf hS<|Zw (j:=0) hS 1 rfl (ZiZ hf) (λ_=>rfl) (x:=i) (by rw[hb];rfl) λa ha=>Ym hS 1 rfl ha rfl ?_;refine Yp (cs:=Zn.zero.cs) hS rfl λt5 w1 h1=>Zq h1 0 rfl (vs:=i.cs) rfl rfl (by decide) (Zg _) (cs':=i.cs) (by rfl) λw2 h2=>?_;refine ZaY h2 λw3 h3=>Zh<|Za<|Zb h3 3 rfl (v:=pt M.g) rfl<|Za<|Za<|Zb h3 0 rfl (v:=Iw i.m.To) rfl ?_;have hroom:=Zxo (a:=f) (b:=b) 6 h3 rfl (by omega) (by omega);refine ZqV (h3.pick 6 rfl) λw4 h4=>?_;have h5:Sat e w4 (KP p wd n k M++blk t5 88 i.cs::Q):=h4.sn 8 [2,3,4,5,6,0,7,1];have hrm:(if okL wd.Feds.length f i.m.To then (k.room:Int) - (k.q (f:Int).toNat i.m.To.toNat).length else 0)=(k.roomAt f i.m.To:Nat):=by
   unfold KS.roomAt;rw[Int.toNat_natCast,hbT,hI.nl];by_cases ho:okL wd.Feds.length f i.m.To
   .rw[if_pos ho];unfold okL at ho;rw[if_pos (by omega)];omega
   .rw[if_neg ho];unfold okL at ho;rw[if_neg (by omega)];rfl
  rw[hrm];refine ZoR (λc1=>Zi ?_)<|λc1=>Zf ?_
  .have hfl:k.flush f=(2,k):=by
    unfold KS.flush;rw[hb];exact if_pos (by omega)
   rw[hfl] at hk;exact hk M _<|h5.sn 8 [0,1,2,3,4,5,6]
  have hr0:k.roomAt f i.m.To≠0:=by omega
  rw[ZvZ hb hr0] at hk;refine Za<|Za<|Zb h5 7 rfl (v:=Iw i.m.To) rfl<|Zo h5 7 (vs:=i.cs) rfl (by rfl) rfl ?_;rw[hTo];refine ZjS hf hbl h5 λw6 h6=>Zok<|Zow<|ZoK ?_;obtain ⟨eN,eB,eG,eR⟩:=Zwd (k:=k) (f:=f) i;have hkI:=Zww (k:=k) (f:=f) hi;refine J0.cut (λw=>Sat e w<|KP p wd n (Zki k f i) M++blk t5 88 (Zkh k f i).cs::Q) (λk1 hcut=>?_) ?_
  .cases hcn:k.counted f b i with
   | false=>
    refine Zf<|hcut _ ?_;have e1:Zki k f i=k:=by unfold Zki;rw[hbT,hcn]
    have e2:Zkh k f i=i:=by unfold Zkh;rw[hbT,hcn]
    rw[e1,e2];exact h6
   | true=>
    obtain ⟨hbf,_⟩:=ZkG hcn;obtain ⟨c,hc,hco⟩:=Zll hI hf hbf;obtain ⟨N,rk,t,hN⟩:=Zt9 hbf;have hrk:=hI.rank f hf hbf;have hb8:=Zk9 hI.may;have e1:Zki k f i={ k with cut:=some (c.sent rk i.m.key.T) }:=by unfold Zki;rw[hbT,hcn,hc,hN];rfl
    have e2:Zkh k f i=⟨i.Kind,i.m,c.t rk % 2⟩:=by unfold Zkh;rw[hbT,hcn,hc,hN];rfl
    rw[hN] at hrk;have hrk':rk<Zai wd:=hrk;rw[e1,e2] at hcut;refine Zi ?_;rw[hN];refine ZaY h6 λw7 h7=>?_;have hcv:(kcs wd k M)[4]?=some (pt M.c):=by unfold kcs;rw[hc];rfl
    refine Zh<|Za<|Zb h7 2 rfl hcv<|Zh<|Zbd (Zfy hf hN) λa ha=>Yt h7 0 rfl ha (v:=Iw (rk:Int)) rfl<|Za<|Za<|Za<|Zb h7 7 rfl (v:=Iw i.m.key.T) rfl ?_;have hck:CK wd k M=ZbI M.c (Zcg (Zai wd) c):=by show ZBC _ k.cut _=_;rw[hc];rfl
    have h8:=h7.pick 6 rfl;rw[hck] at h8;obtain ⟨t0,t1,t2⟩:=Zmc hi.time;refine Zte (by omega) (by show (rk:Int)<(Zai wd:Int);omega) t2 hi.time (Zyb hco hs) h8 λw9 h9=>?_;rw[ZvG] at h9;refine Zam<|Zal<|Za<|Zq h9 7 rfl (vs:=[Iw<|c.t rk % 2]) rfl rfl (Nat.le_of_ble_eq_true rfl) (by simp[flat]) (cs':=(⟨i.Kind,i.m,c.t rk % 2⟩:Zn).cs) (by rfl) λw10 h10=>?_;refine hcut _ ?_;have hbk:BK p wd k M=BK p wd { k with cut:=some (c.sent rk i.m.key.T) } M:=by show blk p _ (kcs wd k M)=blk p _ (kcs wd _ M);unfold kcs;rw[hc];rfl
    have h11:Sat e w10 ([Yh<|Zat wd n k M,Yh<|Zar wd k M,BK p wd k M,NK wd k M,XK wd M,GK wd k M,ZbI M.c<|Zcg (Zai wd)<|c.sent rk i.m.key.T,blk t5 88 (⟨i.Kind,i.m,c.t rk % 2⟩:Zn).cs]++Q):=h10.sn 8 [1,2,3,4,5,6,0,7];rw[hbk] at h11;exact h11
  .intro w7 h7;generalize hk1:Zki k f i=k1 at*;generalize hi1:Zkh k f i=i1 at*;have hbx:∀j,k1.box j=k.box j:=λj=>by unfold KS.box;rw[eB]
   have hq1:∀a b,k1.q a b=k.q a b:=λa b=>by unfold KS.q;rw[eG]
   refine ZaY h7 λw8 h8=>Zh<|Za<|Zb h8 2 rfl (v:=M.bv) rfl<|Zh<|Za<|Zjt hf h8 ?_;have hdrop:(k1.box f).drop 1=r:=by rw[hbx,hb];rfl
   refine Zox (lo:=1) h8 1 rfl (ZiZ hf) (λ_=>rfl) (by rw[hbx,hb,List.length_cons];omega) λv' hv'=>?_;rw[hdrop] at hv';have hlen:=Znn hI hs f;rw[hb,List.length_cons] at hlen;refine Zje (by omega) (h8.pick 1 rfl) hv' λv2 w9 h9=>?_;have q1:=h9.own_cells 0 rfl;refine ⟨Zb h9 3 rfl (v:=M.bv) rfl ⟨rfl,rfl⟩,ZdJ h9 5 rfl (λ_=>rfl) (by rw[List.length_map,List.length_range];exact hf) (x:=v2) q1.1 (λc hc=>by rw[List.mem_singleton.1 hc];exact q1.2) λw10 h10=>?_⟩;have h11:Sat e w10 (Yh (Zar wd k1 M)::([DI v2 r,Yh<|Zat wd n k1 M,BK p wd k1 M,NK wd k1 M,Zz 46 1 one M.bv<|(Zg7 wd M).set f v2,GK wd k1 M,CK wd k1 M,blk t5 88 i1.cs]++Q)):=h10.sn 9 [1,0,2,3,4,5,6,7,8];have h12:Sat e w10 (DI v2 r::Yh ((Zar wd k1 M).eraseIdx f)::([Yh<|Zat wd n k1 M,BK p wd k1 M,NK wd k1 M,Zz 46 1 one M.bv<|(Zg7 wd M).set f v2,GK wd k1 M,CK wd k1 M,blk t5 88 i1.cs]++Q)):=(h11.focus f<|Yk hf).sn 10 [2,1,3,4,5,6,7,8,9];have h13:=Sat.unfocus f (Yk (F:=λj=>DI (M.vs j)<|k1.box j) hf) h12;rw[Zpe (by rw[eB];exact hI.bl),show (Zg7 wd M).set f v2=Zg7 wd { M with vs:=λj=>if j=f then v2 else M.vs j } from ZcQ (λj _ hne=>if_neg hne) (λ_=>(if_pos rfl).symm)] at h13;have h14:Sat e w10 (KP p wd n { k1 with boxes:=k1.boxes.set f r } { M with vs:=λj=>if j=f then v2 else M.vs j }++blk t5 88 i1.cs::Q):=h13.sn 8 [1,0,2,3,4,5,6,7];clear h13 h12 h11 h10 h9;generalize { M with vs:=λj=>if j=f then v2 else M.vs j }=M2 at h14;refine ZaY h14 λw15 h15=>Zh<|Za<|Zb h15 2 rfl (v:=pt M2.g) rfl ?_;have hi1m:i1.m=i.m:=by rw[<-hi1];exact (Zxv i).2
   refine Za<|Za<|Zb h15 7 rfl (v:=Iw i1.m.To) rfl<|Zo h15 7 (vs:=i1.cs) rfl (by rfl) rfl ?_;rw[hi1m,hTo];have hok:okL wd.Feds.length f b:=by
    have hr0':=hr0;unfold KS.roomAt at hr0';split at hr0'
    .rename_i h;rw[hI.nl] at h;unfold okL;omega
    .exact absurd rfl hr0'
   have hlt:((k.q f b).length:Int)<k.room:=by
    rw[hTo] at hr0;unfold KS.roomAt at hr0;rw[Int.toNat_natCast,Int.toNat_natCast] at hr0;split at hr0 <;> omega
   have hsb:¬Zut wd.Feds.length f b i1:=by
    have h1:=hkI.kind;have h2:=hkI.col;rintro (h | h | h | h)
    .exact h hok
    .omega
    .omega
    .omega
   refine ZqC (Q:=λa b=>k1.q a b) hsb (h15.pick 5 rfl) (λhfull=>absurd hfull ?_) λ_ w16 h16=>?_
   .show ¬((k1.q f b).length:Int)=(k1.room:Int);rw[hq1,eR];omega
   .have hfun:=ZvB (k:=k1) (wd:=wd) (by rw[eG];exact hI.netl) (λa ha=>by rw[eG];exact hI.rowl a ha) hf hbl<|k.q f b++[i1];have h17:Sat e w16 (Yx M2.g wd.Feds.length k1.room (ZvY (λa b=>k1.q a b) f b<|k.q f b++[i1])::([Yh<|Zat wd n k1 M2,Yh<|Zar wd { k1 with boxes:=k1.boxes.set f r } M2,BK p wd k1 M2,NK wd k1 M2,XK wd M2,CK wd k1 M2,blk t5 88 i1.cs]++Q)):=by
     rw[<-hq1 f b];exact h16
    rw[hfun] at h17;rw[hbT,<-eB] at hk;exact hk M2 _<|h17.sn 8 [1,2,3,4,5,0,6]
theorem Zsg (k:KS) (a b:Nat) (i:Zn):k.hears wd a b i=(k.node b).hear wd b a i:=by
 unfold KS.hears Nd.hear;cases k.node b <;> rfl
theorem hear_bad {N:Nd} {b a:Nat} {i:Zn} (h:(N.hear wd b a i).1≠0):(N.hear wd b a i).2.2=N:=by
 cases N with
 | slow N=>
  have h':hearE N a i≠0:=h;show Nd.slow (Zd0 N a i)=_;congr 1;unfold hearE at h';unfold Zd0;by_cases c1:i.Kind=2
  .rw[if_pos c1] at h' ⊢;unfold Clk.hear;rw[if_neg h']
  .rw[if_neg c1] at h' ⊢;split
   .rename_i c2;rw[if_pos c2.1,if_neg c2.2.1,if_neg c2.2.2] at h';unfold ZfX;rw[if_neg h']
   .rfl
 | bold N r t=>
  have h6:∀{c:Prop} [Decidable c] {x y:HR},(x.e≠0->x.N=N)->(y.e≠0->y.N=N)->(if c then x else y).e≠0->(if c then x else y).N=N:=by
   intro c _ x y hx hy;split
   .exact hx
   .exact hy
  have o:∀{x:HR},x.N=N->x.e≠0->x.N=N:=λh _=>h;have z:∀{x:HR},x.e=0->x.e≠0->x.N=N:=λh h'=>absurd h h';have:(ZbE wd b (Zs wd b) N a i).e≠0->(ZbE wd b (Zs wd b) N a i).N=N:=by
   unfold ZbE;exact h6 (o rfl)<|h6 (h6 (o rfl)<|h6 (o rfl)<|z rfl)<|h6 (h6 (o rfl)<|h6 (o rfl)<|h6 (o rfl)<|z rfl)<|h6 (h6 (o rfl)<|h6 (o rfl)<|h6 (z rfl)<|h6 (o rfl)<|h6 (o rfl)<|z rfl)<|o rfl
  show Nd.bold (ZbE wd b (Zs wd b) N a i).N r t=_;rw[this h]
theorem Zxc (b a:Nat) (i:Zn) (N:Nd) (m:Nat × Nat):ndV (N.hear wd b a i).2.2 m=ndV N m:=by cases N <;> rfl
theorem ZvH (b a:Nat) (i:Zn) (N:Nd):(N.hear wd b a i).2.2.isBold=N.isBold/\(N.hear wd b a i).2.2.rank=N.rank:=by cases N <;> exact ⟨rfl,rfl⟩
theorem hear_len (hI:Ze1 wd k s) (hf:f<wd.Feds.length) (a:Nat) (i:Zn):((k.node f).hear wd f a i).2.1.length<=1000000:=by
 cases hn:k.node f with
 | slow N=>exact Nat.zero_le _
 | bold N r t=>
  have h0:=hI.ok f (by rw[hI.nl];exact hf);rw[hn] at h0;obtain ⟨m,hW⟩:=h0;show (ZbE wd f (Zs wd f) N a i).out.length<=_;rcases Zls (wd:=wd) (f:=f) (fd:=Zs wd f) (N:=N) (j:=a) (i:=i) with ho | ho
  .rw[ho];exact Nat.zero_le _
  .rw[ho];unfold ZiU;have h2:=ZrY hI.may (ZaN hf) (f:=f) (b:=ZjE (Zs wd f) (N.base<|Zs wd f)<|ZbF i.m.key N.ms) (l:=Yj i.m.key N.ms);have h3:(Yj i.m.key N.ms).length<=N.ms.length:=List.length_filter_le _ _;have h4:=hW.ml;omega
def Zw6 (k:KS) (a b:Nat) (i:Zn):Option CL:=match k.counted a b i,k.cut with
 | true,some c=>some (c.got i.Colour)
 | _,c=>c
theorem ZsJ {a b:Nat} {i:Zn} {r:List Zn} (hq:k.q a b=i::r) (he:((k.node b).hear wd b a i).1=0) :
  k.deliver wd a b=(0,{ ((k.setN b ((k.node b).hear wd b a i).2.2).setQ a b r).put b ((k.node b).hear wd b a i).2.1 with cut:=Zw6 k a b i }):=by
 unfold KS.deliver Zw6;rw[hq];dsimp only;rw[Zsg,if_neg<|λh=>h he];cases k.counted a b i with
 | false=>rfl
 | true=>
  cases hc:k.cut with
  | none=>
   dsimp only;congr 1;unfold KS.put KS.setQ KS.setN;rw[hc]
  | some c=>rfl
theorem Zoi {a b:Nat} (hal:a<wd.Feds.length) (hbl:b<wd.Feds.length) (hI:Ze1 wd k s) (hs:s<=1000000) (hS:Sat e w<|KP p wd n k M++Q)
  (hk:∀M' w',Sat e w' (KP p wd n (k.deliver wd a b).2 M'++Q)->K (Iw (k.deliver wd a b).1) w'):Cl prog 40 #[pt p,Iw (a:Int),Iw (b:Int)] w K:=by
 refine ZdS ?_;unfold Zdf;rw[ZWS];have hn8:=hI.may.n;refine Zh<|Za<|Zb hS 2 rfl (v:=pt M.g) rfl ?_;have back:∀{w':World} {Q:List HP},Sat e w' (GK wd k M::([Yh<|Zat wd n k M,Yh<|Zar wd k M,BK p wd k M,NK wd k M,XK wd M,CK wd k M]++Q))->Sat e w' (KP p wd n k M++Q):=λh=>h.sn 7 [1,2,3,4,5,0,6];cases hq:k.q a b with
 | nil=>
  have hst:k.deliver wd a b=(150,k):=by unfold KS.deliver;rw[hq]
  rw[hst] at hk;refine Zm1 (.inr hq) (hS.pick 5 rfl) λw1 h1=>Zam<|Zal<|Yp (cs:=Zn.zero.cs) (back h1) rfl λt7 w2 h2=>Zq h2 0 rfl (vs:=Zn.zero.cs) rfl rfl (by decide) (Zg _) (cs':=Zn.zero.cs) (by kernel_rfl) λw3 h3=>?_;exact Zch (Zi<|hk M _ h3.drop)
 | cons i r=>
  have hi:Zb8 wd.Feds.length i:=hI.q a b i (by rw[hq];exact List.mem_cons_self ..);have hab:a≠b:=λh=>by
   subst h;rw[hI.self] at hq;cases hq
  have hok:okL wd.Feds.length (a:Int) (b:Int):=⟨by omega,by omega,by omega,by omega,by omega⟩;refine ZkF (Q:=λa b=>k.q a b) (x:=i) (q:=r) hok hq (hS.pick 5 rfl) λw1 h1=>Zam<|Zal<|Yp (cs:=Zn.zero.cs) (back h1) rfl λt7 w2 h2=>Zq h2 0 rfl (vs:=i.cs) rfl rfl (by decide) (Zg _) (cs':=i.cs) (by rfl) λw3 h3=>?_;refine ZaJ<|Zf ?_;have h3':Sat e w3 (KP p wd n k M++blk t7 88 i.cs::Q):=h3.sn 8 [1,2,3,4,5,6,7,0];refine ZaY h3' λw4 h4=>Zh<|Za<|Zml hbl h4<|Zo h4 7 (vs:=i.cs) rfl (by rfl) rfl ?_;have h5:=Sat.focus h4 b<|Yk hbl;refine ZvM (Zmc hi.time).2.2 h5 λv w6 h6=>Zam<|Zal ?_;generalize hres:(k.node b).hear wd b a i=res at h6 ⊢;have h7:=Sat.unfocus b (Yk (F:=λj=>ndH wd n j (k.node j)<|M.ms j) hbl)<|h6.drop;rw[Zcy hI.nl] at h7;refine ZrP (λc1=>Zi ?_)<|λc1=>Zf ?_
  .have hN:res.2.2=k.node b:=by rw[<-hres];exact hear_bad (by rw[hres];exact c1)
   have hst:k.deliver wd a b=(res.1,k):=by
    unfold KS.deliver;rw[hq];dsimp only;rw[Zsg,hres,if_pos c1]
   rw[hst] at hk;rw[hN,ZcV (by rw[hI.nl];exact hbl)] at h7;exact hk M _<|h7.sn 8 [0,1,2,3,4,5,6]
  have hde:=ZsJ hq (wd:=wd) (by rw[hres];exact c1);rw[hres] at hde;rw[hde] at hk;have hvN:ndV res.2.2 (M.ms b)=ndV (k.node b) (M.ms b):=by rw[<-hres];exact Zxc ..
  have hkd:=ZvH (wd:=wd) b a i<|k.node b;rw[hres] at hkd;have hlen:=hear_len hI hbl a i;rw[hres] at hlen;have h8:Sat e w6 (DI v res.2.1::ndH wd n b res.2.2 (M.ms b)::Yh ((Zat wd n k M).eraseIdx b)::([Yh<|Zar wd k M,BK p wd k M,NK wd k M,XK wd M,GK wd k M,CK wd k M,blk t7 88 i.cs]++Q)):=h6;have h9:=Sat.unfocus b (Yk (F:=λj=>ndH wd n j (k.node j)<|M.ms j) hbl)<|Sat.selR [_,_,_,_,_,_,_,_,_,_] [ndH wd n b res.2.2<|M.ms b,Yh<|(Zat wd n k M).eraseIdx b,Yh<|Zar wd k M,BK p wd k M,NK wd k M,XK wd M,GK wd k M,CK wd k M,blk t7 88 i.cs,DI v res.2.1] h8 [1,2,3,4,5,6,7,8,9,0] (by decide) rfl;rw[Zcy hI.nl] at h9;clear h8 h7 h6;refine Zh<|Za<|Zb h9 2 rfl (v:=pt M.g) rfl<|ZrE (Q:=λa b=>k.q a b) (x:=i) (q:=r) hok hq (h9.pick 5 rfl) λw10 h10=>?_;rw[ZvB hI.netl hI.rowl hal hbl r] at h10;generalize hk2:(k.setN b res.2.2).setQ a b r=k2 at*;have e2n:∀j,k2.node j=(k.setN b res.2.2).node j:=λj=>by rw[<-hk2];rfl
  have e2b:k2.boxes=k.boxes:=by rw[<-hk2];rfl
  have e2c:k2.cut=k.cut:=by rw[<-hk2];rfl
  have h11:Sat e w10 (KP p wd n k2 M++(blk t7 88 i.cs::DI v res.2.1::Q)):=by
   have h12:Sat e w10 ([Yh<|Zat wd n (k.setN b res.2.2) M,Yh<|Zar wd k M,BK p wd k M,Zz 116 1 one M.nv<|Zju wd (k.setN b res.2.2) M,XK wd M,Yx M.g wd.Feds.length k.room<|λc d=>(k.setQ a b r).q c d,CK wd k M,blk t7 88 i.cs,DI v res.2.1]++Q):=by
    rw[Zf9 λ_=>hvN];exact h10.sn 9 [1,2,3,4,5,0,6,7,8]
   rw[<-hk2];exact h12
  refine Zo h11 7 (vs:=i.cs) rfl (by rfl) rfl ?_;refine ZjS hal hbl h11 λw12 h12=>?_;have hcnt:k2.counted a b i=k.counted a b i:=by
   have hbd:∀j,(k2.node j).isBold=(k.node j).isBold:=λj=>by
    rw[e2n,ZaK];split
    .rename_i h;rw[<-h.1];exact hkd.1
    .rfl
   rw[Zf7,Zf7,hbd,hbd]
  rw[hcnt];refine Zok<|Zow<|ZoK<|J0.cut (λw=>Sat e w<|KP p wd n { k2 with cut:=Zw6 k a b i } M++(blk t7 88 i.cs::DI v res.2.1::Q)) (λk1 hcut=>?_) ?_
  .cases hcn:k.counted a b i with
   | false=>
    have e1:Zw6 k a b i=k2.cut:=by unfold Zw6;rw[hcn,e2c]
    refine Zf<|hcut _ ?_;rw[e1];exact h12
   | true=>
    obtain ⟨_,hbb⟩:=ZkG hcn;obtain ⟨c,hc,hco⟩:=Zll hI hbl hbb;have hb2:(k2.node b).isBold=true:=by rw[e2n,ZaK,if_pos ⟨rfl,by rw[hI.nl];exact hbl⟩,hkd.1];exact hbb
    obtain ⟨N,rk,t,hN⟩:=Zt9 hb2;have hrk:=hI.rank b hbl hbb;have hrk':rk<Zai wd:=by
     have h1:(k2.node b).rank=rk:=by rw[hN];rfl
     rw[e2n,ZaK,if_pos ⟨rfl,by rw[hI.nl];exact hbl⟩,hkd.2] at h1;omega
    have e1:Zw6 k a b i=some (c.got i.Colour):=by unfold Zw6;rw[hcn,hc]
    rw[e1] at hcut;refine Zi ?_;rw[hN];refine ZaY h12 λw13 h13=>?_;have hcv:(kcs wd k2 M)[4]?=some (pt M.c):=by unfold kcs;rw[e2c,hc];rfl
    refine Zh<|Za<|Zb h13 2 rfl hcv<|Zh<|Zbd (Zfy hbl hN) λa ha=>Yt h13 0 rfl ha (v:=Iw (rk:Int)) rfl<|Za<|Zb h13 7 rfl (v:=Iw i.Colour) rfl ?_;have hck:CK wd k2 M=ZbI M.c (Zcg (Zai wd) c):=by show ZBC _ k2.cut _=_;rw[e2c,hc];rfl
    have h14:=h13.pick 6 rfl;rw[hck] at h14;refine ZtM (by show (rk:Int)<(Zai wd:Int);omega) (Zyb hco hs) h14 λw15 h15=>?_;rw[Zv8] at h15;refine hcut _ ?_;have hbk:BK p wd k2 M=BK p wd { k2 with cut:=some (c.got i.Colour) } M:=by show blk p _ (kcs wd k2 M)=blk p _ (kcs wd _ M);unfold kcs;rw[e2c,hc];rfl
    have h16:Sat e w15 ([Yh<|Zat wd n k2 M,Yh<|Zar wd k2 M,BK p wd k2 M,NK wd k2 M,XK wd M,GK wd k2 M,ZbI M.c<|Zcg (Zai wd)<|c.got i.Colour,blk t7 88 i.cs,DI v res.2.1]++Q):=h15.sn 9 [1,2,3,4,5,6,0,7,8];rw[hbk] at h16;exact h16
  .intro w13 h13;have hlb:=Znn hI hs b;have h14:Sat e w13 (KP p wd n { k2 with cut:=Zw6 k a b i } M++(DI v res.2.1::blk t7 88 i.cs::Q)):=h13.sn 9 [0,1,2,3,4,5,6,8,7];exact ZdQ (k:={ k2 with cut:=Zw6 k a b i }) (S:=DI v res.2.1) hbl (by show k2.boxes.length=_;rw[e2b];exact hI.bl) (by show (k2.boxes.getD b []).length<=_;rw[e2b];show (k.box b).length<=_;omega) hlen h14 (λ_=>Zp) λM' w15 _ h15=>hk M' _<|h15.sn 9 [0,1,2,3,4,5,6]
def ZAA (t:Int) (g:Nat):Zn:=⟨2,⟨⟨t,0,0⟩,(g:Int),0,0⟩,0⟩
def ZxR (k:KS) (a g:Nat):Bool:=!decide (g=a)&&!((k.node a).isBold&&(k.node g).isBold)
def Zq8 (k:KS) (a:Nat) (t:Int) (j:Nat):List Zn:=((List.range j).filter<|ZxR k a).map<|ZAA t
theorem Zv4 (k:KS) (a:Nat) (t:Int):ZaW k a t=Zq8 k a t k.nodes.length:=rfl
theorem ZpG (k:KS) (a:Nat) (t:Int) (j:Nat):Zq8 k a t (j+1)=Zq8 k a t j++if ZxR k a j=true then [ZAA t j] else []:=by
 unfold Zq8;rw[List.range_succ,List.filter_append,List.map_append];congr 1;rw[List.filter_cons];split <;> rfl
theorem ZAn (k:KS) (hf:f<k.boxes.length) (l m:List Zn):(k.put f l).put f m=k.put f (l++m):=by
 have h1:(k.put f l).box f=k.box f++l:=by rw[Zmr,if_pos ⟨rfl,hf⟩]
 show ({ (k.put f l) with boxes:=(k.put f l).boxes.set f ((k.put f l).box f++m) }:KS)=_;rw[h1];unfold KS.put;dsimp only;rw[List.set_set,List.append_assoc]
theorem ZBg (hb:k.box f=[]):k.tell wd f=match (k.node f).tell wd f with
  | (some t,N)=>(0,(k.setN f N).put f<|ZaW k f t)
  | (none,_)=>(150,k):=by
 unfold KS.tell;rw[if_neg<|λh=>h hb];cases hn:k.node f with
 | slow N=>
  unfold Nd.tell;dsimp only;split
  .rfl
  .rfl
 | bold N r t=>
  unfold Nd.tell;dsimp only;split
  .rfl
  .rfl
theorem ZuL (N:Nd) (m:Nat × Nat):(N.tell wd f).2.isBold=N.isBold/\ndV (N.tell wd f).2 m=ndV N m:=by
 cases N with
 | slow N=>unfold Nd.tell;dsimp only;split <;> exact ⟨rfl,rfl⟩
 | bold N r t=>unfold Nd.tell;dsimp only;split <;> exact ⟨rfl,rfl⟩
theorem ZsQ (hf:f<wd.Feds.length) (hI:Ze1 wd k s) (hS:Sat e w<|KP p wd n k M++Q)
  (hk:∀M' w',Sat e w' (KP p wd n (k.tell wd f).2 M'++Q)->K (Iw (k.tell wd f).1) w'):Cl prog 41 #[pt p,Iw (f:Int)] w K:=by
 refine Ze9 ?_;unfold ZfA;have hn8:=hI.may.n;refine Zh<|Za<|Zjt hf hS<|Zt hS 1 rfl (ZiZ hf) ?_;by_cases hb:k.box f=[]
 .rw[ZBg hb] at hk;rw[hb];refine Zle (by decide)<|Zf<|Zh<|Za<|Zml hf hS<|Zvl hf (Sat.focus hS f<|Yk hf) λw2 tt ht h2=>?_;have hkd:=ZuL (wd:=wd) (f:=f) (k.node f)<|M.ms f;generalize hres:(k.node f).tell wd f=res at*;obtain ⟨o,N'⟩:=res;have h3:=Sat.unfocus f (Yk (F:=λj=>ndH wd n j (k.node j)<|M.ms j) hf) h2;rw[Zcy hI.nl] at h3;have h4:Sat e w2 (KP p wd n (k.setN f N') M++Q):=by
   show Sat e w2 ([_,_,_,Zz _ 1 one M.nv<|Zju wd (k.setN f N') M,_,_,_]++_);rw[Zf9 λ_=>hkd.2];exact h3
  refine Zam<|Zal ?_;cases o with
  | none=>
   have hN:N'=k.node f:=by
    have h5:((k.node f).tell wd f)=(none,N'):=hres;cases hn:k.node f with
    | slow N=>
     rw[hn] at h5;unfold Nd.tell at h5;dsimp only at h5;split at h5
     .cases h5
     .exact (congrArg Prod.snd h5).symm
    | bold N r t=>
     rw[hn] at h5;unfold Nd.tell at h5;dsimp only at h5;split at h5
     .exact (congrArg Prod.snd h5).symm
     .cases h5
   rw[hN,ZcV (by rw[hI.nl];exact hf)] at h4;exact Zch (Zi<|hk M _ h4)
  | some t=>
   obtain rfl:=ht t rfl;refine ZaJ<|Zf<|Zh<|Za<|Zb h4 2 rfl (v:=M.nv) rfl<|Qln h4 3 rfl ?_;rw[List.length_map,List.length_range];have hk1l:(k.setN f N').boxes.length=wd.Feds.length:=hI.bl;have hbd:∀j,((k.setN f N').node j).isBold=(k.node j).isBold:=λj=>by
    rw[ZaK];split
    .rename_i h;rw[<-h.1];exact hkd.1
    .rfl
   refine Zdk (λz t35 w=>∃j:Nat,j<=wd.Feds.length/\t35=Iw j/\z=wd.Feds.length - j/\∃M',Sat e w<|KP p wd n ((k.setN f N').put f<|Zq8 k f tt j) M'++Q) wd.Feds.length ⟨0,Nat.zero_le _,rfl,rfl,M,by rw[show Zq8 k f tt 0=[] from rfl,Zrv (by rw[hk1l];exact hf)];exact h4⟩ ?_;rintro z _ w3 g1 ⟨j,hj,rfl,rfl,M1,h5⟩ hg1;refine Za7 (λc=>Zi ?_)<|λc=>Zf ?_
   .have hjl:j<wd.Feds.length:=by omega
    have hbn:∀i,(((k.setN f N').put f<|Zq8 k f tt j).node i).isBold=(k.node i).isBold:=hbd;refine J0.cut (λw=>∃M',Sat e w<|KP p wd n ((k.setN f N').put f<|Zq8 k f tt<|j+1) M'++Q) (λk2 hcut=>?_) ?_
    .have put1:∀{w:World},ZxR k f j=true->Sat e w (KP p wd n ((k.setN f N').put f<|Zq8 k f tt j) M1++Q)->
       bld (Zl prog 83) #[(0,1),(1,1),(2,1)] [(0,Iw tt)] w λt56 w=>bld (Zl prog 85) #[(0,3),(3,1),(4,1),(5,1)] [(0,t56),(1,Iw (j:Int))] w λt58 w=>bld (Zl prog 88) #[(0,1),(1,6),(7,1)] [(0,(Iw 2)),(1,t58)] w λt59 w=>
       bsl 88 8 1 (Zl prog 88) [(0,t59)] w λt60 w=>Cl prog 30 #[pt p,Iw (f:Int),t60] w λ_ w=>k2 w:=by
      intro w hp h;refine Zaf (Yi [tt,0,0]) (by kernel_rfl)<|Zaf (Yi [tt,0,0,(j:Int),0,0]) (by kernel_rfl)<|Zaf (ZAA tt j).cs (by kernel_rfl) ?_;refine ZwC (vs:=(ZAA tt j).cs) rfl rfl h λb w6 h6=>?_;have h7:Sat e w6 (KP p wd n ((k.setN f N').put f<|Zq8 k f tt j) M1++blk b 88 (ZAA tt j).cs::Q):=h6.sn 8 [1,2,3,4,5,6,7,0];have hbx:((k.setN f N').put f<|Zq8 k f tt j).box f=Zq8 k f tt j:=by
       rw[Zmr,if_pos ⟨rfl,by rw[hk1l];exact hf⟩];show k.box f++_=_;rw[hb,List.nil_append]
      have hbl:(Zq8 k f tt j).length<=j:=by
       unfold Zq8;rw[List.length_map];exact Nat.le_trans (List.length_filter_le _ _) (by rw[List.length_range];omega)
      refine ZdQ (l:=[ZAA tt j]) (S:=blk b 88 (ZAA tt j).cs) hf (by show ((k.setN f N').boxes.set f _).length=_;rw[List.length_set];exact hk1l) (by rw[hbx];omega) (Nat.le_of_ble_eq_true rfl) h7 (Zfu (f:=Zn.cs)<|Nat.le_refl _) λM' w8 _ h8=>?_;rw[ZAn _ (by rw[hk1l];exact hf)] at h8;refine hcut _ ⟨M',?_⟩;rw[ZpG,if_pos hp];exact h8.sn 8 [0,1,2,3,4,5,6]
     have no:∀{w:World},ZxR k f j=false->Sat e w (KP p wd n ((k.setN f N').put f<|Zq8 k f tt j) M1++Q)->k2 w:=by
      intro w hp h;refine hcut _ ⟨M1,?_⟩;rw[ZpG,if_neg (by rw[hp];decide),List.append_nil];exact h
     by_cases c1:j=f
     .refine Qnef<|Zu<|Zu<|Zu<|Zu<|Zu<|Zrb<|Zrb<|Zrb<|Zrb<|Zu<|Yd<|Zf<|no ?_ h5;unfold ZxR;rw[decide_eq_true c1];rfl
     .refine Qnet<|Ze<|Ze<|Ze<|ZbX hf h5 ?_;cases hbf:(k.node f).isBold with
      | false=>
       rw[Zir (by rw[hbn];exact hbf)];refine Ze (Ztj<|Ze<|Zd<|Zd<|Zd<|Zd<|Ze<|Yv<|Yv<|Zi ?_) ;refine put1 ?_ h5;unfold ZxR;rw[decide_eq_false c1,hbf];rfl
      | true=>
       rw[Zli (by rw[hbn];exact hbf)];refine Ze<|ZmP _<|Ze<|Zj<|Zj<|Zj<|ZbX hjl h5 ?_;cases hbj:(k.node j).isBold with
       | false=>
        rw[Zir (by rw[hbn];exact hbj)];refine Zj<|Ztj<|Ze<|Yd<|Yv<|Zi<|put1 ?_ h5;unfold ZxR;rw[decide_eq_false c1,hbf,hbj];rfl
       | true=>
        rw[Zli (by rw[hbn];exact hbj)];refine Zj<|ZmP _<|Ze<|Yd<|Yv<|Zf<|no ?_ h5;unfold ZxR;rw[decide_eq_false c1,hbf,hbj];rfl
    .rintro w9 ⟨M',h9⟩;exact Qincs<|hg1 _ _ _ (by omega) ⟨j+1,by omega,rfl,rfl,M',h9⟩
   .have ej:j=wd.Feds.length:=by omega
    rw[ej] at h5;refine hk M1 _ ?_;show Sat e w3 (KP p wd n ((k.setN f N').put f<|ZaW k f tt) M1++Q);rw[Zv4,hI.nl];exact h5
 .have hst:k.tell wd f=(2,k):=if_pos hb;rw[hst] at hk;have hpos:0<(k.box f).length:=List.length_pos_iff.2 hb;exact Qgtt<|Zi<|hk M _ hS
theorem Zr4 (l:List Int) (q:Int->Bool):((List.range l.length).all λj=>q<|l.getD j 0)=l.all q:=by
 rw[Bool.eq_iff_iff,List.all_eq_true,List.all_eq_true];constructor
 .intro h x hx;obtain ⟨j,hj⟩:=List.getElem?_of_mem hx;have:=h j<|List.mem_range.2 (List.getElem?_eq_some_iff.1 hj).1;rw[List.getD_eq_getElem?_getD,hj] at this;exact this
 .intro h j hj;have hj:=List.mem_range.1 hj;rw[List.getD_eq_getElem?_getD,List.getElem?_eq_getElem hj];exact h _<|List.getElem_mem hj
theorem Zvp {c:CL} {m:Nat} (h:c.T.length=m) (q:Int->Bool):(Zcg m c).all (λt _=>q t)=c.T.all q:=by
 unfold Zan.all;show ((List.range ((m:Int)).toNat).all λj=>q<|c.T.getD j 0)=_;rw[Int.toNat_natCast,<-h];exact Zr4 ..
theorem ZuD {c:CL} {m:Nat} (h:c.Rp.length=m) (q:Int->Bool):(Zcg m c).all (λ_ r=>q r)=c.Rp.all q:=by
 unfold Zan.all;show ((List.range ((m:Int)).toNat).all λj=>q<|c.Rp.getD j 0)=_;rw[Int.toNat_natCast,<-h];exact Zr4 ..
theorem ZvO {l:List Int} {i:Nat} (hi:i<l.length) (x:Int):ZBt (λj=>l.getD j 0) i x=λj=>(l.set i x).getD j 0:=by
 funext j;rw[ZaX];unfold ZBt;by_cases h:j=i
 .rw[if_pos h,if_pos ⟨h.symm,hi⟩]
 .rw[if_neg h,if_neg λh'=>h h'.1.symm]
theorem Zvu {c:CL} {m i:Nat} (hi:i<c.T.length):(Zcg m c).turn i=Zcg m (if ¬c.over<c.begun\/c.t i=c.begun then c else { c with T:=c.T.set i c.begun }):=by
 unfold Zan.turn;by_cases h:¬c.over<c.begun\/c.t i=c.begun
 .rw[if_pos h,if_pos (show ¬(Zcg m c).over<(Zcg m c).begun\/(Zcg m c).T i=(Zcg m c).begun from h)]
 .rw[if_neg h,if_neg (show ¬(¬(Zcg m c).over<(Zcg m c).begun\/(Zcg m c).T i=(Zcg m c).begun) from h)];exact congrArg (λz=>({ Zcg m c with T:=z }:Zan))<|ZvO hi c.begun
theorem Zf8 (c':CL) (c:CL) (hc:k.cut=some c) (h:Sat e w<|ZbI M.c (Zcg (Zai wd) c')::([Yh<|Zat wd n k M,Yh<|Zar wd k M,BK p wd k M,NK wd k M,XK wd M,GK wd k M]++Q)):Sat e w (KP p wd n { k with cut:=some c' } M++Q):=by
 have hbk:BK p wd k M=BK p wd { k with cut:=some c' } M:=by show blk p _ (kcs wd k M)=blk p _ (kcs wd _ M);unfold kcs;rw[hc];rfl
 rw[hbk] at h;exact h.sn 7 [1,2,3,4,5,6,0]
theorem ZhH {c:CL} (hc:k.cut=some c) (h:Sat e w<|KP p wd n k M++Q):Sat e w (ZbI M.c (Zcg (Zai wd) c)::([Yh<|Zat wd n k M,Yh<|Zar wd k M,BK p wd k M,NK wd k M,XK wd M,GK wd k M]++Q)):=by
 have hck:CK wd k M=ZbI M.c (Zcg (Zai wd) c):=by show ZBC _ k.cut _=_;rw[hc];rfl
 have h1:=h.pick 6 rfl;rw[hck] at h1;exact h1
theorem ZoM {c:CL} (hc:k.cut=some c):({ k with cut:=some c }:KS)=k:=by rw[<-hc]
def ZtH (k:KS) (a:Nat) (l:List Zn):List Int:=(l.filter λi=>k.counted a i.m.To.toNat i).map λi=>i.m.key.T
theorem ZuW (k:KS) (a:Nat) (l:List Zn) (i:Zn):ZtH k a (l++[i])=ZtH k a l++if k.counted a i.m.To.toNat i=true then [i.m.key.T] else []:=by
 unfold ZtH;rw[List.filter_append,List.map_append];congr 1;rw[List.filter_cons];split <;> rfl
theorem Zsd (k:KS) (a:Nat) (l:List Zn):(ZtH k a l).length<=l.length:=by
 unfold ZtH;rw[List.length_map];exact List.length_filter_le _ _
theorem Zpa (t:Int) (k:KS) (f g:Nat):((settle1 wd t k f).node g).isBold=(k.node g).isBold/\((settle1 wd t k f).node g).rank=(k.node g).rank/\(settle1 wd t k f).cut=k.cut/\(settle1 wd t k f).net=k.net:=by
 unfold settle1;cases hn:k.node f with
 | slow N=>exact ⟨rfl,rfl,rfl,rfl⟩
 | bold N r told=>
  dsimp only;split
  .refine ⟨?_,?_,rfl,rfl⟩
   .show ((k.setN f _).node g).isBold=_;rw[ZaK];split
    .rename_i h;rw[<-h.1,hn];rfl
    .rfl
   .show ((k.setN f _).node g).rank=_;rw[ZaK];split
    .rename_i h;rw[<-h.1,hn];rfl
    .rfl
  .exact ⟨rfl,rfl,rfl,rfl⟩
theorem ZkA (t:Int):∀(l:List Nat) (k:KS) (g:Nat),((l.foldl (settle1 wd t) k).node g).isBold=(k.node g).isBold/\(l.foldl (settle1 wd t) k).cut=k.cut
 | [],_,_=>⟨rfl,rfl⟩
 | f::l,k,g=>by
  obtain ⟨h1,h2⟩:=ZkA t l (settle1 wd t k f) g;obtain ⟨h3,_,h4,_⟩:=Zpa (wd:=wd) t k f g;exact ⟨h1.trans h3,h2.trans h4⟩
theorem Zoh {c:CL} {m:Nat} (hf:f<wd.Feds.length) (hI:ZdF wd k s m) (hm:m<=60000000000) (hn:n<=1000) (hc:k.cut=some c) {N:WN} {rk:Nat} {tl:Int} (hN:k.node f=.bold N rk tl) {K:World->Prop} (hS:Sat e w<|KP p wd n k M++Q)
  (hk:∀M' w',Sat e w' (KP p wd n (settle1 wd c.value k f) M'++Q)->K w') :
  ld1 (.pointer<|some ⟨(M.ms f).2,0,none⟩) w λt103 _=>ncP (pt p)<|fld 4 (pt p) w λt106 _=>ld1 t106 w λt107 _=>Cl prog 54 #[t107] w λt108 w=>
  (ld1 (.pointer<|some ⟨(M.ms f).2,0,none⟩) w<|λv' w''=>v'=t103/\w''=w)/\(Cl prog 100 #[t103,t108] w λt109 w=>xt 0 t109 w λ_ _=>xt 1 t109 w λt111 _=>xt 2 t109 w λ_ _=>
  Cl prog 101 #[t111] w λt116 w=>Cl prog 30 #[pt p,Iw (f:Int),t116] w λ_ w=>K w):=by
 have hnl:k.nodes.length=wd.Feds.length:=hI.inv.nl;have hcv:(kcs wd k M)[4]?=some (pt M.c):=by unfold kcs;rw[hc];rfl
 refine Yt hS 0 rfl (Zfy hf hN) (v:=pt (M.ms f).1) rfl<|Zh<|Za<|Zb hS 2 rfl hcv<|Zrc (ZhH hc hS)<|⟨Yt hS 0 rfl (Zfy hf hN) (v:=pt (M.ms f).1) rfl ⟨rfl,rfl⟩,?_⟩;have h1:=Sat.focus hS f<|Yk (F:=λj=>ndH wd n j (k.node j)<|M.ms j) hf;rw[hN] at h1;have h2:Sat e w (ZfN (M.ms f) rk tl::Ya (M.ms f).1 wd f (Zs wd f) N n::Yh ((Zat wd n k M).eraseIdx f)::([Yh<|Zar wd k M,BK p wd k M,NK wd k M,XK wd M,GK wd k M,CK wd k M]++Q)):=Sat.split (l':=[_,_]) h1;have hW:=ZqK 1 h2 rfl;have fin:∀{w:World} {N':WN} {Q:List HP},Sat e w (Ya (M.ms f).1 wd f (Zs wd f) N' n::ZfN (M.ms f) rk tl::Yh ((Zat wd n k M).eraseIdx f)::([Yh<|Zar wd k M,BK p wd k M,NK wd k M,XK wd M,GK wd k M,CK wd k M]++Q))->Sat e w (KP p wd n (k.setN f (.bold N' rk tl)) M++Q):=by
  intro w N' Q h;have h3:Sat e w (ndH wd n f (.bold N' rk tl) (M.ms f)::Yh ((Zat wd n k M).eraseIdx f)::([Yh<|Zar wd k M,BK p wd k M,NK wd k M,XK wd M,GK wd k M,CK wd k M]++Q)):=Sat.join (l':=[_,_]) h.swap;have h4:=Sat.unfocus f (Yk (F:=λj=>ndH wd n j (k.node j)<|M.ms j) hf) h3;rw[Zcy hnl] at h4;show Sat e w ([_,_,_,Zz _ 1 one M.nv<|Zju wd (k.setN f (.bold N' rk tl)) M,_,_,_]++_);rw[Zf9 λ_=>by rw[hN];rfl];exact h4
 have hlb:(k.box f).length<=100000000000:=Nat.le_trans (hI.len f) (by omega);have hol:=Znh hI.inv.may hf hW c.value;refine Zoe hn h2.swap (λhe w3 h3=>?_)<|λhe v u w3 h3=>?_
 .refine Zok<|Zow<|ZoK<|Zev (l:=[]) 0 rfl (h3.mk_pure trivial) ZxZ (by decide) λv4 w4 h4=>?_;have h5:Sat e w4 (KP p wd n (k.setN f (.bold N rk tl)) M++DI v4 []::Q):=fin<|h4.sn 11 [2,3,4,5,6,7,8,9,10,0];rw[<-hN,ZcV (by rw[hnl];exact hf)] at h5;refine ZdQ (S:=DI v4 []) hf hI.bl hlb (Nat.zero_le _) h5 (λ_=>Zp) λM' w6 _ h6=>hk M' _ ?_;have e1:settle1 wd c.value k f=k:=by unfold settle1;rw[hN];exact if_neg he
  rw[Zrv (by rw[hI.bl];exact hf)] at h6;rw[e1];exact h6.sn 8 [0,1,2,3,4,5,6]
 .refine Zok<|Zow<|ZoK<|Zev (l:=Zek wd f (Zs wd f) N c.value) 1 rfl h3 (λ_=>Zp) (by unfold Zek;omega) λv4 w4 h4=>?_;have h5:Sat e w4 (KP p wd n (k.setN f (.bold (Ys N c.value) rk tl)) M++DI v4 ((Zek wd f (Zs wd f) N c.value).map Zae)::Q):=fin<|h4.sn 12 [3,4,5,6,7,8,9,10,11,0];refine ZdQ (k:=k.setN f (.bold (Ys N c.value) rk tl)) (S:=DI v4<|(Zek wd f (Zs wd f) N c.value).map Zae) hf hI.bl hlb (by rw[List.length_map];unfold Zek;omega) h5 (λ_=>Zp) λM' w6 _ h6=>hk M' _ ?_;have e1:settle1 wd c.value k f=(k.setN f (.bold (Ys N c.value) rk tl)).put f ((Zek wd f (Zs wd f) N c.value).map Zae):=by unfold settle1;rw[hN];exact if_pos he
  rw[e1];exact h6.sn 8 [0,1,2,3,4,5,6]
theorem Zvh {N:WN} {rk:Nat} {tl:Int} {c:CL} (hN:k.node f=.bold N rk tl) (hc:k.cut=some c) (h1:¬(¬c.over<c.begun\/(c.T.all λt=>decide<|t=c.begun)=false\/c.Rp.getD rk 0=c.begun)) (h2:c.on (c.over % 2)=0) {x:Int} (hx:x=ZaP (ZcM N::ZtH k f (k.box f))) {c1:CL} (h3:c1={ c with Rp:=c.Rp.set rk c.begun,least:=min c.least x }) :
  k.report wd f=if (c1.Rp.all λt=>decide<|t=c1.begun)=true then (0,({ k with cut:=some { c1 with over:=c1.begun,value:=max c1.value c1.least } }:KS).settle wd<|max c1.value c1.least) else (0,{ k with cut:=some c1 }):=by
 subst hx h3;unfold KS.report;rw[hN,hc];dsimp only;rw[if_neg h1,if_neg<|λh=>h h2];rfl
theorem ZwH {c:CL} {m i:Nat} (hR:c.Rp.length=m) (hi:i<m) (x:Int) {c1:CL} (h1:c1={ c with Rp:=c.Rp.set i c.begun,least:=min c.least x }) :
  ((Zcg m c).rep1 i x).rep2=Zcg m (if (c1.Rp.all λt=>decide<|t=c1.begun)=true then { c1 with over:=c1.begun,value:=max c1.value c1.least } else c1):=by
 have e1:(Zcg m c).rep1 i x=Zcg m c1:=by
  rw[h1];unfold Zan.rep1;exact congrArg (λz=>({ Zcg m c with Rp:=z,least:=min c.least x }:Zan))<|ZvO (by rw[hR];exact hi) c.begun
 rw[e1];unfold Zan.rep2;have h2:(Zcg m c1).all (λ_ r=>decide<|r=(Zcg m c1).begun)=c1.Rp.all λr=>decide (r=c1.begun):=ZuD (c:=c1) (m:=m) (by rw[h1];exact (List.length_set).trans hR)<|λr=>decide<|r=c1.begun;by_cases h:(c1.Rp.all λt=>decide<|t=c1.begun)=true
 .rw[if_pos h,if_pos<|h2.trans h];rfl
 .rw[if_neg h,if_neg<|λh'=>h<|h2.symm.trans h']
theorem Zo5 {N:WN} {rk:Nat} {tl:Int} (hf:f<wd.Feds.length) (hN:k.node f=.bold N rk tl) (hI:Ze1 wd k s) (hs:s<=1000000) (hn:n<=1000) (hS:Sat e w<|KP p wd n k M++Q)
  (hk:∀M' w',Sat e w' (KP p wd n (k.report wd f).2 M'++Q)->K (Iw (k.report wd f).1) w'):Cl prog 45 #[pt p,Iw (f:Int),pt (M.ms f).2] w K:=by
 refine Zei ?_;unfold Zd5;rw[ZWS];have hn8:=hI.may.n;have hb8:=Zk9 hI.may;have hbf:(k.node f).isBold=true:=by rw[hN];rfl
 obtain ⟨c,hc,hco⟩:=Zll hI hf hbf;have hrk:rk<Zai wd:=by have:=hI.rank f hf hbf;rw[hN] at this;exact this
 refine Zh<|Zbd (Zfy hf hN) λa ha=>Yt hS 0 rfl ha (v:=pt (M.ms f).1) rfl ?_;have h1:=Sat.focus hS f<|Yk (F:=λj=>ndH wd n j (k.node j)<|M.ms j) hf;rw[hN] at h1;have h2:Sat e w (ZfN (M.ms f) rk tl::Ya (M.ms f).1 wd f (Zs wd f) N n::Yh ((Zat wd n k M).eraseIdx f)::([Yh<|Zar wd k M,BK p wd k M,NK wd k M,XK wd M,GK wd k M,CK wd k M]++Q)):=Sat.split (l':=[_,_]) h1;have hW:=ZqK 1 h2 rfl;refine ZkN h2.swap λw3 h3=>?_;have h4:Sat e w3 (ndH wd n f (.bold N rk tl) (M.ms f)::Yh ((Zat wd n k M).eraseIdx f)::([Yh<|Zar wd k M,BK p wd k M,NK wd k M,XK wd M,GK wd k M,CK wd k M]++Q)):=Sat.join (l':=[_,_]) h3.swap;have h5:=Sat.unfocus f (Yk (F:=λj=>ndH wd n j (k.node j)<|M.ms j) hf) h4;rw[<-hN,Zcy hI.nl,ZcV (by rw[hI.nl];exact hf)] at h5;refine ZwC (vs:=Ye .i64<|ZcM N) rfl rfl h5 λb w6 h6=>?_;have h7:Sat e w6 (Zz 3 1 (Ye .i64) (.slice (some ⟨b,0,none⟩) 1 1) [ZcM N]::(KP p wd n k M++Q)):=h6.imp λg hg=>.inr ⟨b,1,Ye .i64<|ZcM N,rfl,hg,rfl,Nat.le_refl _,rfl⟩;have hi8:∀{w} {v:Value} {l:List Int},Sat e w (Zz 3 1 (Ye .i64) v l::(KP p wd n k M++Q))->Sat e w (KP p wd n k M++Zz 3 1 (Ye .i64) v l::Q):=λh=>h.sn 8 [1,2,3,4,5,6,7,0];refine Zh<|Za<|Zjt hf (hi8 h7)<|Zt (hi8 h7) 1 rfl (ZiZ hf) ?_;have hlen:=Znn hI hs f;refine ZjF (λz t7 t34 w=>∃j:Nat,j<=(k.box f).length/\t34=Iw j/\z=(k.box f).length - j/\Sat e w (Zz 3 1 (Ye .i64) t7 (ZcM N::ZtH k f ((k.box f).take j))::(KP p wd n k M++Q))) (k.box f).length ⟨0,Nat.zero_le _,rfl,rfl,h7⟩ ?_;rintro z t7 _ w8 g1 ⟨j,hj,rfl,rfl,h8⟩ hg1;refine Za7 (λc0=>Zi ?_)<|λc0=>Zf ?_
 .obtain ⟨i,hi⟩:=Zk (l:=k.box f) (j:=j) (by omega);have hio:=hI.box f i<|List.mem_of_getElem? hi;obtain ⟨to,hTo⟩:∃b:Nat,i.m.To=b:=⟨i.m.To.toNat,by have:=hio.to;omega⟩;have htl:to<wd.Feds.length:=by have:=hio.to;omega
  have hcl:ZtH k f ((k.box f).take<|j+1)=ZtH k f ((k.box f).take j)++if k.counted f to i=true then [i.m.key.T] else []:=by
   rw[Zx hi,ZuW,hTo,Int.toNat_natCast]
  refine J1.cut (λt7 w=>Sat e w<|Zz 3 1 (Ye .i64) t7 (ZcM N::ZtH k f ((k.box f).take<|j+1))::(KP p wd n k M++Q)) (λk2 hcut=>?_) ?_
  .refine Zw h8 2 rfl (ZiZ hf) (λ_=>rfl) hi λa ha=>Ym h8 2 rfl ha rfl<|Yp (cs:=Zn.zero.cs) h8 rfl λt9 w9 h9=>Zq h9 0 rfl (vs:=i.cs) rfl rfl (by decide) (Zg _) (cs':=i.cs) (by rfl) λw10 h10=>?_;refine Za<|Za<|Zb h10 0 rfl (v:=Iw i.m.To) rfl<|Zo h10 0 (vs:=i.cs) rfl (by rfl) rfl ?_;rw[hTo];have h11:Sat e w10 (KP p wd n k M++(blk t9 88 i.cs::Zz 3 1 (Ye .i64) t7 (ZcM N::ZtH k f ((k.box f).take j))::Q)):=h10.sn 9 [2,3,4,5,6,7,8,0,1];refine ZjS hf htl h11 λw12 h12=>Zok<|Zow<|ZoK ?_;cases hcn:k.counted f to i with
   | false=>
    rw[hcn,if_neg (by decide),List.append_nil] at hcl;rw[hcl] at hcut;exact Zf (hcut _ _<|h12.sn 9 [8,0,1,2,3,4,5,6])
   | true=>
    rw[hcn,if_pos rfl] at hcl;rw[hcl] at hcut;refine Zi<|Za<|Za<|Za<|Zb h12 7 rfl (v:=Iw i.m.key.T) rfl ?_;refine Zj7 Zvs (f:=Ye .i64) (λ_=>rfl) Zmu (h12.sn 9 [8,0,1,2,3,4,5,6]) (x:=i.m.key.T) rfl (by
     have:=Zsd k f<|(k.box f).take j;rw[List.length_take] at this;rw[List.length_cons];omega) λv' w13 h13=>?_
    exact hcut _ _ h13
  .intro t7' w13 h13;exact Qincs<|hg1 _ _ _ _ (by omega) ⟨j+1,by omega,rfl,rfl,h13⟩
 .have ej:j=(k.box f).length:=by omega
  rw[ej,List.take_length] at h8;have hcv:(kcs wd k M)[4]?=some (pt M.c):=by unfold kcs;rw[hc];rfl
  have h9:=hi8 h8;refine Zh<|Za<|Zb h9 2 rfl hcv<|ZfD (ZhH hc h9)<|ZaY h9 λw10 h10=>Zh<|Za<|Zb h10 2 rfl hcv<|Zh<|Zbd (Zfy hf hN) λa ha=>Yt h10 0 rfl ha (v:=Iw (rk:Int)) rfl ?_;have hrl:=Zsd k f<|k.box f;refine Zeu (h10.pick 7 rfl) (λ_=>Zp) (by rw[List.length_cons];omega) λw11 h11=>?_;have h12:Sat e w11 (KP p wd n k M++Q):=h11.drop;refine ⟨Yt h12 0 rfl ha (v:=Iw (rk:Int)) rfl ⟨rfl,rfl⟩,Zb h12 2 rfl hcv ⟨rfl,rfl⟩,?_⟩;generalize hx:ZaP (ZcM N::ZtH k f (k.box f))=x;have hxv:Yu x=true:=by rw[<-hx];exact Zo9 _
  obtain ⟨_,_,hx64⟩:=Zmc hxv;have rest:∀{K:KV},K=K->True:=λ_=>trivial;clear rest;have hT:=hco.t;have hE:(Zcg (Zai wd) c).early rk↔(¬c.over<c.begun\/(c.T.all λt=>decide<|t=c.begun)=false\/c.Rp.getD rk 0=c.begun):=by
   unfold Zan.early;rw[Zvp hT<|λt=>decide<|t=(Zcg (Zai wd) c).begun];rfl
  have same:∀{w} (er:Int),k.report wd f=(er,k)->er≠0->Sat e w (ZbI M.c (Zcg (Zai wd) c)::([Yh<|Zat wd n k M,Yh<|Zar wd k M,BK p wd k M,NK wd k M,XK wd M,GK wd k M]++Q))->K (Iw er) w:=by
   intro w er he _ h;rw[he] at hk;have:=Zf8 (k:=k) c c hc h;rw[ZoM hc] at this;exact hk M _ this
  refine Zo1 (by show (Zai wd:Int)<=8;omega) (by omega) (by show (rk:Int)<(Zai wd:Int);omega) hx64 hxv (ZhH hc h12) (λhe w13 h13=>?_) (λhe ho w13 h13=>?_)<|λhe ho w13 h13=>?_
  .refine Zng (by decide)<|Zd<|Zd<|Zd<|Zd<|Zd<|Zd<|Zd<|Yv<|Zi<|same 130 ?_ (by decide) h13;unfold KS.report;rw[hN,hc];exact if_pos<|hE.1 he
  .refine Zng (by decide)<|Zd<|Zd<|Zd<|Zd<|Zd<|Zd<|Zd<|Yv<|Zi<|same 150 ?_ (by decide) h13;unfold KS.report;rw[hN,hc];dsimp only;rw[if_neg<|λh=>he<|hE.2 h];exact if_pos (by have:0<c.on (c.over % 2):=ho;omega)
  .have hon:=hco.onk<|c.over % 2;have ho':¬0<c.on (c.over % 2):=ho;have hov:=hco.over;have hbg:=hco.begun;generalize hc1:({ c with Rp:=c.Rp.set rk c.begun,least:=min c.least x }:CL)=c1;have hre:=Zvh (wd:=wd) hN hc (λh=>he<|hE.2 h) (by omega) hx.symm hc1.symm;have hrp:=ZwH (m:=Zai wd) hco.r hrk x hc1.symm;rw[hrp] at h13;have e1b:c1.begun=c.begun:=by rw[<-hc1]
   have e1o:c1.over=c.over:=by rw[<-hc1]
   have hlt:c.over<c.begun:=Classical.byContradiction λh=>he<|hE.2 (.inl h);refine ZoP rfl<|Zj<|Zj<|Zwz ?_;by_cases hall:(c1.Rp.all λt=>decide<|t=c1.begun)=true
   .rw[if_pos hall] at hre h13;generalize hc2:({ c1 with over:=c1.begun,value:=max c1.value c1.least }:CL)=c2 at*;have e2v:max c1.value c1.least=c2.value:=by rw[<-hc2]
    have e2o:c2.over=c.begun:=by rw[<-hc2];exact e1b
    rw[e2v] at hre;have hco2:ZeV c2 (Zai wd) (s+1):=by
     have h5:=hco.on;rw[<-hc2,<-hc1];exact ⟨hco.t,(List.length_set).trans hco.r,by dsimp only;omega,by dsimp only;omega,by dsimp only;omega⟩
    have h14:=Zf8 (k:=k) c2 c hc h13;generalize hk2:({ k with cut:=some c2 }:KS)=k2 at*;have e2n:∀j,k2.node j=k.node j:=λj=>by rw[<-hk2];rfl
    have e2c:k2.cut=some c2:=by rw[<-hk2]
    have hcv2:(kcs wd k2 M)[4]?=some (pt M.c):=by unfold kcs;rw[e2c];rfl
    have hp2:ZdF wd k2 (s+1) (40000*(s+1)):=by
     rw[<-hk2];exact (hI.pre.mono (Nat.le_succ s)<|Nat.le_refl _).cut (Nat.le_refl _) (Zpf hI hf hbf) hco2
    refine Zj<|Za<|Zj<|Zb h14 2 rfl hcv2<|Zj<|ZfD (ZhH e2c h14)<|Zj<|Zj<|Zd8 (by show ¬c2.over=c.over;omega)<|Yd<|Zf<|Zh<|Za<|Zb h14 2 rfl (v:=M.nv) rfl<|Qln h14 3 rfl ?_;rw[List.length_map,List.length_range];have e2l:k2.nodes.length=wd.Feds.length:=by rw[<-hk2];exact hI.nl
    refine Zdk (λz t91 w=>∃j:Nat,j<=wd.Feds.length/\t91=Iw j/\z=wd.Feds.length - j/\∃M',Sat e w<|KP p wd n ((List.range j).foldl (settle1 wd c2.value) k2) M'++Q) wd.Feds.length ⟨0,Nat.zero_le _,rfl,rfl,M,h14⟩ ?_;rintro z _ w15 g3 ⟨j,hj,rfl,rfl,M1,h15⟩ hg3;have hfp:=ZhP (t:=c2.value) (List.range j) (λg hg=>by have:=List.mem_range.1 hg;omega) hp2;rw[List.length_range] at hfp;have hkd:=ZkA (wd:=wd) c2.value (List.range j) k2;refine Za7 (λc3=>Zi ?_)<|λc3=>Zf ?_
    .have hjl:j<wd.Feds.length:=by omega
     have hsucc:(List.range<|j+1).foldl (settle1 wd c2.value) k2=settle1 wd c2.value ((List.range j).foldl (settle1 wd c2.value) k2) j:=by
      rw[List.range_succ,List.foldl_append];rfl
     refine J0.cut (λw=>∃M',Sat e w<|KP p wd n ((List.range<|j+1).foldl (settle1 wd c2.value) k2) M'++Q) (λk4 hcut=>?_) ?_
     .rw[hsucc] at hcut;generalize hkj:(List.range j).foldl (settle1 wd c2.value) k2=kj at*;refine ZbX hjl h15 ?_;cases hnj:kj.node j with
      | slow N'=>
       refine ZtL<|Zf<|hcut _ ⟨M1,?_⟩;have e1:settle1 wd c2.value kj j=kj:=by unfold settle1;rw[hnj]
       rw[e1];exact h15
      | bold N' rk' tl'=>
       exact ZtQ _<|Zi<|ZaY h15 λw16 h16=>Zh<|Za<|Zoh hjl hfp (by omega) hn ((hkd 0).2.trans e2c) hnj h16 λM' w17 h17=>hcut _ ⟨M',h17⟩
     .rintro w17 ⟨M',h17⟩;exact Qincs<|hg3 _ _ _ (by omega) ⟨j+1,by omega,rfl,rfl,M',h17⟩
    .have ej:j=wd.Feds.length:=by omega
     rw[ej] at h15;rw[hre] at hk;refine hk M1 _ ?_;show Sat e w15 (KP p wd n (k2.settle wd c2.value) M1++Q);rw[ZlS,e2l];exact h15
   .rw[if_neg hall] at hre h13;have h14:=Zf8 (k:=k) c1 c hc h13;generalize hk2:({ k with cut:=some c1 }:KS)=k2 at*;have e2c:k2.cut=some c1:=by rw[<-hk2]
    have hcv2:(kcs wd k2 M)[4]?=some (pt M.c):=by unfold kcs;rw[e2c];rfl
    refine Zj<|Za<|Zj<|Zb h14 2 rfl hcv2<|Zj<|ZfD (ZhH e2c h14)<|Zj<|Zj<|Znq (by show c1.over=c.over;exact e1o)<|Yd<|Zi ?_;rw[hre] at hk;exact hk M _ h14
end Go.Proofs.YtceipnkeijhebaaGreat
end
