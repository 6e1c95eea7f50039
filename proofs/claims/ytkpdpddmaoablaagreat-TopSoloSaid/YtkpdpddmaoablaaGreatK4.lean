/- Texts of the proof, joined. Conditions: none. -/
import Derived.Test.YtkpdpddmaoablaaGreatK3
import Derived.Stop.Asserts
import Derived.Lib.IfaceEq
section
namespace Go.Proofs.YtkpdpddmaoablaaGreat
open Go Go.E
set_option maxRecDepth 100000
variable {e w:World} {L Q R:List HP} {K:KV} {S S2:HP}
theorem Zws {n:Nat} {fv:Value} {f:Nat→Bool} (hn:n≤1000000) (hmono:∀i j,i≤j→j<n→f i=true→f j=true) (hS:Sat e w L)
  (hp:∀j,j<n→∀(w:World) (K:KV),Sat e w L→(∀w',Sat e w' L→K (.bool (f j)) w')→clV prog fv #[.int .i64 (j:Int)] w K)
  (hk:∀(m:Nat) w',m≤n→(∀j,j<m→f j=false)→(∀j,m≤j→j<n→f j=true)→Sat e w' L→K (.int .i64 (m:Int)) w'):Cl prog 131 #[.int .i64 (n:Int),fv] w K:=by
 refine Zj9 ?_
 unfold Zmv
 refine ZjF (λq t5 t6 w=>∃lo hi:Nat,t5=.int .i64 lo∧t6=.int .i64 hi∧q=hi - lo∧lo≤hi∧hi≤n∧(∀j,j<lo→f j=false)∧(∀j,hi≤j→j<n→f j=true)∧Sat e w L) n
  ⟨0,n,rfl,rfl,by omega,Nat.zero_le _,Nat.le_refl _,λ_ h=>absurd h (by omega),λ_ h1 h2=>absurd h2 (by omega),hS⟩ ?_
 rintro q _ _ w g ⟨lo,hi,rfl,rfl,rfl,h1,h2,h3,h4,h5⟩ hg
 refine Za7 (λc=>Zi ?_) (λc=>Zf ?_)
 ·refine Zb9 (by omega) ?_
  refine Zqe (xo:=λ_=>_) (yo:=λ_=>_) (n:=lo+hi) (by omega) ?_
  have hm1:lo≤(lo+hi) / 2:=by omega
  have hm2:(lo+hi) / 2<hi:=by omega
  generalize (lo+hi) / 2=m at hm1 hm2
  refine hp m (by omega) _ _ h5 λw6 h6=>?_
  cases hf:f m with
  | false=>
   refine Zch (Zi (Yr (by omega) ?_))
   refine hg _ _ _ _ (by omega) ⟨m+1,hi,rfl,rfl,rfl,by omega,h2,λj hj=>?_,h4,h6⟩
   cases hfj:f j with
   | false=>rfl
   | true=>
    have:=hmono j m (by omega) (by omega) hfj
    rw[hf] at this
    cases this
  | true=>
   refine ZaJ (Zf ?_)
   exact hg _ _ _ _ (by omega) ⟨lo,m,rfl,rfl,rfl,by omega,by omega,h3,λj hj1 hj2=>hmono m j hj1 hj2 hf,h6⟩
 ·have e1:lo=hi:=by omega
  subst e1
  exact hk lo _ h2 h3 h4 h5
theorem Zyc {p:Nat} {fl:Int} {lv:Value} {xs:List EnX} {k:Key} {by':Value} {P:EnX→Bool} (hx:xs.length≤64) (hby:flat by'=true∧by'.cells.toList=[by'])
  (hmono:∀(i j:Nat) x y,i≤j→xs[i]?=some x→xs[j]?=some y→P y=true→P x=true)
  (hP:∀(x:EnX) (w:World) (L:List HP) (K:KV),Sat e w L→(∀w',Sat e w' L→K (.bool (P x)) w')→clV prog by' #[.agg x.cs.toArray,.agg k.cs.toArray] w K)
  (hS:Sat e w (blk p 178 [.int .i64 fl,lv]::Zz 227 10 EnX.cs lv xs::Q))
  (hk:∀(m:Nat) w',m≤xs.length→(∀x∈xs.take m,P x=true)→(∀x∈xs.drop m,P x=false)→Sat e w' (blk p 178 [.int .i64 fl,lv]::Zz 227 10 EnX.cs lv xs::Q)→K (.int .i64 (m:Int)) w') :
  Cl prog 121 #[.pointer (some ⟨p,0,none⟩),by',.agg k.cs.toArray] w K:=by
 refine Zgw ?_
 unfold ZgW
 refine Yp (cs:=[.pointer (some ⟨p,0,none⟩)]) hS rfl λb3 w1 h1=>?_
 refine Yp (cs:=[by']) h1 hby.2 λb4 w2 h2=>?_
 refine Yp (cs:=k.cs) h2 rfl λb5 w3 h3=>?_
 refine Zb h3 2 rfl rfl ?_
 refine Zh (Za (Zb h3 3 rfl (v:=lv) rfl ?_))
 refine Zt h3 4 rfl (λ_=>Zp) ?_
 refine Zws (n:=xs.length) (f:=λj=>!(xs[j]?.map P).getD false) (by omega) (λi j hij hj hi=>?_) h3 (λj hj w K h4 hK=>?_) (λm w4 hm hlo hhi h4=>?_)
 ·obtain ⟨y,hy⟩:=Zk (l:=xs) (j:=j) hj
  obtain ⟨x,hx⟩:=Zk (l:=xs) (j:=i) (by omega)
  simp only[hy,hx,Option.map_some,Option.getD_some,Bool.not_eq_true'] at hi ⊢
  cases hpy:P y with
  | false=>rfl
  | true=>rw[hmono i j x y hij hx hy hpy] at hi;cases hi
 ·obtain ⟨y,hy⟩:=Zk (l:=xs) (j:=j) hj
  refine ⟨_,_,_,rfl,?_⟩
  refine Ze2 (t0:=.int .i64 (j:Int)) (t1:=.pointer (some ⟨b4,0,none⟩)) (t2:=.pointer (some ⟨b3,0,none⟩)) (t3:=.pointer (some ⟨b5,0,none⟩)) ?_
  unfold ZeN
  refine ZaY h4 λw5 h5=>?_
  refine Zb h5 1 rfl rfl (Zb h5 2 rfl rfl ?_)
  refine Zh (Za (Zb h5 3 rfl (v:=lv) rfl ?_))
  refine Zw h5 4 rfl (λ_=>Zp) (λ_=>rfl) hy λa ha=>Ym h5 4 rfl ha rfl ?_
  refine Zo h5 0 (vs:=k.cs) rfl (by rfl) rfl ?_
  refine hP y _ _ _ h5 λw6 h6=>?_
  have hK':=hK _ h6
  simp only[hy,Option.map_some,Option.getD_some] at hK'
  cases hpy:P y with
  | false=>rw[hpy] at hK';exact Zch hK'
  | true=>rw[hpy] at hK';exact ZaJ hK'
 ·refine hk m _ hm (λx hx=>?_) (λx hx=>?_) (h4.selR [_,_,_,_,_] [_,_] [3,4] (by decide) rfl)
  ·obtain ⟨j,hj⟩:=List.getElem?_of_mem hx
   have hjl:=(List.getElem?_eq_some_iff.1 hj).1
   rw[List.length_take] at hjl
   rw[List.getElem?_take,if_pos (by omega)] at hj
   have:=hlo j (by omega)
   simp only[hj,Option.map_some,Option.getD_some,Bool.not_eq_false'] at this
   exact this
  ·obtain ⟨j,hj⟩:=List.getElem?_of_mem hx
   have hjl:=(List.getElem?_eq_some_iff.1 hj).1
   rw[List.length_drop] at hjl
   rw[List.getElem?_drop] at hj
   have:=hhi (m+j) (by omega) (by omega)
   simp only[hj,Option.map_some,Option.getD_some,Bool.not_eq_true'] at this
   exact this
theorem Zsa (x:EnX) (k:Key) (hS:Sat e w L) (hk:∀w',Sat e w' L→K (.bool (decide (Zv x.m.key k))) w'):clV prog (.func (.func 227) #[] #[]) #[.agg x.cs.toArray,.agg k.cs.toArray] w K:=by
 refine ⟨_,_,_,rfl,?_⟩
 refine ZeX (t0:=.agg x.cs.toArray) (t1:=.agg k.cs.toArray) ?_
 unfold ZeH
 refine Yp (cs:=x.cs) hS rfl λb w1 h1=>?_
 refine Yp (cs:=k.cs) h1 rfl λb2 w2 h2=>?_
 refine Za (Za (Zo h2 1 (vs:=x.m.key.cs) rfl (by rfl) rfl ?_))
 refine Zo h2 0 (vs:=k.cs) rfl (by rfl) rfl ?_
 refine Zcr h2 λw3 h3=>?_
 refine ZwL ?_
 have:=hk _ h3.drop.drop
 rwa [show decide (Zv x.m.key k)=decide (ZeU x.m.key k<0) from by rw[Bool.eq_iff_iff,decide_eq_true_iff,decide_eq_true_iff,Zav]] at this
theorem Zwb (x:EnX) (k:Key) (hS:Sat e w L) (hk:∀w',Sat e w' L→K (.bool (decide (Zv x.m.key k))) w'):Cl prog 227 #[.agg x.cs.toArray,.agg k.cs.toArray] w K:=by
 obtain ⟨_,_,_,h1,h2⟩:=Zsa x k hS hk
 cases h1
 exact h2
theorem ZwO (x:EnX) (k:Key) (hS:Sat e w L) (hk:∀w',Sat e w' L→K (.bool (decide (x.m.key.T<k.T))) w'):clV prog (.func (.func 122) #[] #[]) #[.agg x.cs.toArray,.agg k.cs.toArray] w K:=by
 refine ⟨_,_,_,rfl,?_⟩
 refine ZeW (t0:=.agg x.cs.toArray) (t1:=.agg k.cs.toArray) ?_
 unfold ZeL
 refine Yp (cs:=x.cs) hS rfl λb w1 h1=>?_
 refine Yp (cs:=k.cs) h1 rfl λb2 w2 h2=>?_
 refine Za (Za (Za (Zb h2 1 rfl (v:=.int .i64 x.m.key.T) rfl ?_)))
 refine Za (Zb h2 0 rfl (v:=.int .i64 k.T) rfl ?_)
 exact ZwL (hk _ h2.drop.drop)
def Zx4 (l:List En) (k:Key):Prop:=∀x,l.getLast?=some x→Zv x.m.key k
theorem Zri {p:Nat} {fl:Int} {l:List En} {x:EnX} (i:Nat) (hi:Q[i]?=some S) (hl:x.outs.length≤1000) (hr:∀g,S g→rdS 6 Msg.cs x.ov x.outs g) (h1:¬x.m.key.T<fl) (h2:Zx4 l x.m.key) (h3:l.length<64)
  (hS:Sat e w (Yf p fl l::Q)) (hk:∀w',Sat e w' (Yf p fl (l++[x.e])::Q)→K (.int .i64 0) w'):Cl prog 217 #[.pointer (some ⟨p,0,none⟩),.agg x.cs.toArray] w K:=by
 refine Zgy ?_
 unfold Zhj
 rw[ZN8]
 refine Yp (cs:=x.cs) hS rfl λb w1 h4=>?_
 have key:∀(q:Bool) (y:EnX) (w':World),flat y.ov=true→(q=true→Zv y.m.key x.m.key)→Sat e w' (Yf p fl l::blk b 227 x.cs::Q)→
   al EnX.zero.cs.toArray 227 w' λt5 w=>stN 10 t5 (.agg y.cs.toArray) w λ_ w=>dr w λw=>fld 0 (.pointer (some ⟨b,0,none⟩)) w λt13 _=>fld 0 t13 w λt14 _=>fld 0 t14 w λt15 _=>ld1 t15 w λt16 _=>
    ncP (.pointer (some ⟨p,0,none⟩))<|fld 0 (.pointer (some ⟨p,0,none⟩)) w λt19 _=>ld1 t19 w λt20 _=>bi .lss .i64 t16 t20 w λt21 _=>Zr t21 (K (.int .i64 110) w)
     (gd (.bool q) true (λk=>ldN 10 t5 w k) w λt25 w=>gd (.bool q) true (λk=>fld 0 (.pointer (some ⟨b,0,none⟩)) w k) w λt26 w=>gd (.bool q) true (λk=>fld 0 t26 w k) w λt27 w=>gd (.bool q) true (λk=>ldN 3 t27 w k) w λt28 w=>
     gd (.bool q) true (λk=>Cl prog 227 #[t25,t28] w k) w λt29 w=>gd (.bool q) true (λk=>Zb3 t29 w k) w λt30 w=>pk (.bool q) t30 (.bool false) w λt31 w=>Zr t31 (K (.int .i64 130) w)
     (ncP (.pointer (some ⟨p,0,none⟩))<|fld 1 (.pointer (some ⟨p,0,none⟩)) w λt35 w=>ld1 t35 w λt36 w=>lnS t36 w λt37 w=>bi .geq .i64 t37 (.int .i64 64) w λt38 w=>Zr t38 (K (.int .i64 2) w)
     (dr w λw=>ncP (.pointer (some ⟨p,0,none⟩))<|fld 1 (.pointer (some ⟨p,0,none⟩)) w λt42 _=>ld1 t42 w λt43 _=>ldN 10 (.pointer (some ⟨b,0,none⟩)) w λt44 _=>Cl prog 228 #[t44] w λt45 w=>
     (ld1 t42 w (λv' w''=>v'=t43∧w''=w))∧(bsl 227 10 1 (Zl prog 227) [(0,t45)] w λt46 w=>(ld1 t42 w (λv' w''=>v'=t43∧w''=w))∧(apS prog #[176,176] 176 t43 t46 w λt47 w=>
     ncP (.pointer (some ⟨p,0,none⟩))<|fld 1 (.pointer (some ⟨p,0,none⟩)) w λt49 _=>stN 1 t49 t47 w λ_ w=>K (.int .i64 0) w))))):=by
  intro q y w' hyf hq h5
  refine Yp (cs:=EnX.zero.cs) h5 rfl λt5 w2 h6=>?_
  refine Zq h6 0 rfl (vs:=y.cs) rfl rfl (by simp[EnX.zero,EnX.cs]) (EnX.flat hyf) (cs':=y.cs) (by rfl) λw3 h7=>?_
  obtain ⟨lv,xs,hp,h8⟩:=Zfr (h7.pick 1 rfl)
  replace h8:Sat e w3 (blk p 178 [.int .i64 fl,lv]::Zz 227 10 EnX.cs lv xs::Yh (xs.map ZcP)::blk t5 227 y.cs::blk b 227 x.cs::Q):=h8
  have hxl:xs.length=l.length:=by rw[←hp.1,List.length_map]
  refine ZaY h8 λw4 h9=>?_
  refine Za (Za (Za (Zb h9 4 rfl (v:=.int .i64 x.m.key.T) rfl ?_)))
  refine Zh (Za (Zb h9 0 rfl (v:=.int .i64 fl) rfl (Ze7 h1 (Zf ?_))))
  have hrest:∀w',Sat e w' (blk p 178 [.int .i64 fl,lv]::Zz 227 10 EnX.cs lv xs::Yh (xs.map ZcP)::blk t5 227 y.cs::blk b 227 x.cs::Q)→
    (ncP (.pointer (some ⟨p,0,none⟩))<|fld 1 (.pointer (some ⟨p,0,none⟩)) w' λt35 w=>ld1 t35 w λt36 w=>lnS t36 w λt37 w=>bi .geq .i64 t37 (.int .i64 64) w λt38 w=>Zr t38 (K (.int .i64 2) w)
     (dr w λw=>ncP (.pointer (some ⟨p,0,none⟩))<|fld 1 (.pointer (some ⟨p,0,none⟩)) w λt42 _=>ld1 t42 w λt43 _=>ldN 10 (.pointer (some ⟨b,0,none⟩)) w λt44 _=>Cl prog 228 #[t44] w λt45 w=>
     (ld1 t42 w (λv' w''=>v'=t43∧w''=w))∧(bsl 227 10 1 (Zl prog 227) [(0,t45)] w λt46 w=>(ld1 t42 w (λv' w''=>v'=t43∧w''=w))∧(apS prog #[176,176] 176 t43 t46 w λt47 w=>
     ncP (.pointer (some ⟨p,0,none⟩))<|fld 1 (.pointer (some ⟨p,0,none⟩)) w λt49 _=>stN 1 t49 t47 w λ_ w=>K (.int .i64 0) w)))):=by
   intro w' ha
   refine Zh (Za (Zb ha 0 rfl (v:=lv) rfl ?_))
   refine Zt ha 1 rfl (λ_=>Zp) (ZnR (by omega) (Zf ?_))
   refine ZaY ha λw5 hb=>?_
   refine Zh (Za (Zb hb 0 rfl (v:=lv) rfl ?_))
   refine Zo hb 4 (vs:=x.cs) rfl (by rfl) rfl ?_
   refine Znb (x:=x) (i+5) (by simpa using hi) (by omega) hb hr λv' w6 hc=>?_
   refine ⟨Zb hc 1 rfl (v:=lv) rfl ⟨rfl,rfl⟩,?_⟩
   have q0:=hc.own_cells 0 rfl
   obtain ⟨x2,hx2⟩:∃x2:EnX,x2=⟨x.m,x.ahead,x.sent,x.st,v',x.outs⟩:=⟨_,rfl⟩
   rw[←hx2] at hc ⊢
   have hx2f:flat x2.ov=true:=by rw[hx2];exact q0.2
   refine ZwC (vs:=x2.cs) rfl rfl hc λbb w7 hd=>?_
   refine ⟨Zb hd 2 rfl (v:=lv) rfl ⟨rfl,rfl⟩,?_⟩
   refine Zcs ZPn ZPn.und (f:=EnX.cs) (m:=[x2]) (λ_=>rfl) (λy hy c hc=>by rw[List.mem_singleton.1 hy] at hc;exact EnX.flat hx2f c hc) (hd.selR [_,_,_,_] [_,_,_,_] [3,0,1,2] (by decide) rfl) (Zfu (f:=EnX.cs) (x:=x2) (Nat.le_refl _)) (by simp;omega) λlv' w8 he=>?_
   have q1:=he.own_cells 0 rfl
   refine Zh (Za (Zq he 3 rfl (vs:=[lv']) q1.1 rfl (Nat.le_of_ble_eq_true rfl) (λc hc=>by rw[List.mem_singleton.1 hc];exact q1.2) (cs':=[.int .i64 fl,lv']) (by rfl) λw9 hf'=>?_))
   replace hf':Sat e w9 (Zz 227 10 EnX.cs lv' (xs++[x2])::blk bb 227 x2.cs::ZcP x2::blk p 178 [.int .i64 fl,lv']::Yh (xs.map ZcP)::blk t5 227 y.cs::blk b 227 x.cs::Q):=hf'
   have hg2:Sat e w9 (Yh (xs.map ZcP)::Yh [ZcP x2]::Zz 227 10 EnX.cs lv' (xs++[x2])::blk p 178 [.int .i64 fl,lv']::Q):=by
    have h1:=hf'.selR [_,_,_,_,_,_,_] [_,_,_,_] [2,4,0,3] (by decide) rfl
    exact (Sat.join (l':=[_]) h1).swap
   have hh:=ZtR hg2
   rw[show xs.map ZcP++[ZcP x2]=(xs++[x2]).map ZcP from by rw[List.map_append];rfl] at hh
   refine hk _ (Zh1 (lv:=lv') (xs:=xs++[x2]) ⟨?_,?_⟩ (hh.selR [_,_,_] [_,_,_] [2,1,0] (by decide) rfl))
   ·rw[List.map_append,hp.1,hx2]
    rfl
   ·refine ⟨?_,by rw[List.length_append,List.length_singleton];omega,λz hz=>?_⟩
    ·rw[List.pairwise_append]
     refine ⟨hp.2.up,List.pairwise_singleton _ _,λa ha b hb=>?_⟩
     rw[List.mem_singleton.1 hb]
     cases hla:l.getLast? with
     | none=>rw[List.getLast?_eq_none_iff] at hla;subst hla;cases ha
     | some z=>
      have hz:=h2 z hla
      obtain ⟨l0,rfl⟩:=List.getLast?_eq_some_iff.1 hla
      rcases List.mem_append.1 ha with ha | ha
      ·exact ((List.pairwise_append.1 hp.2.up).2.2 a ha z (by simp)).trans hz
      ·rw[List.mem_singleton.1 ha];exact hz
    ·rcases List.mem_append.1 hz with hz | hz
     ·exact hp.2.outs z hz
     ·rw[List.mem_singleton.1 hz];exact hl
  cases q with
  | false=>
   refine Zu (Zu (Zu (Zu (Zu (Zu (Yd (Zf ?_)))))))
   exact hrest _ h9
  | true=>
   refine Ze (Zo h9 3 (vs:=y.cs) rfl (by rfl) rfl (Ze (Za (Ze (Za (Ze (Zo h9 4 (vs:=x.m.key.cs) rfl (by rfl) rfl (Ze ?_))))))))
   refine Zwb y x.m.key h9 λw5 h10=>?_
   rw[decide_eq_true (hq rfl)]
   refine Ze (ZaJ (Yv (Zf ?_)))
   exact hrest _ h10
 refine ZqS h4.swap (λh0 w2 h5=>?_) (λy l' hl' w2 h5=>?_)
 ·refine Zam (Zal ?_)
  exact key false EnX.zero w2 rfl (λh=>by cases h) h5
 ·refine Zam (Zal ?_)
  have q1:=h5.own_cells 0 rfl
  refine key true y w2 q1.2 (λ_=>?_) h5.drop
  exact h2 y.e (by rw[hl'];simp)
def Yo (g:Nat) (fl:Int) (l:List Yz):HP:=hex λv:Value=>Yh [blk g 181 [.int .i64 fl,v],Zz 242 9 Yz.cs v l]
theorem Zd9 (hS:Sat e w R) (hk:∀g w',Sat e w' (Yo g 0 []::R)→K (.pointer (some ⟨g,0,none⟩)) w'):Cl prog 47 #[] w K:=by
 refine ZmT ?_
 unfold Zsc
 rw[ZQp]
 refine ⟨_,rfl,?_⟩
 refine Yp (cs:=[.int .i64 0,.slice none 0 0]) hS rfl λb w1 h1=>?_
 exact hk _ _ (.mk_ex (.slice none 0 0) (.join (l':=[_,_]) (h1.own_nil 242 9 Yz.cs).swap))
def Zw9 (fl:Int) (l:List Yz) (c:Key):Int:=if c.T<fl then 110 else if 256≤l.length then 2 else 0
def ZsN (fl:Int) (l:List Yz) (c:Key) (m:Msg):List Yz:=if c.T<fl then l else if 256≤l.length then l else l++[⟨c,m⟩]
theorem Zrq {g:Nat} {fl:Int} {l:List Yz} (c:Key) (m:Msg) (hS:Sat e w (Yo g fl l::R)) (hl:l.length≤256)
  (hk:∀w',Sat e w' (Yo g fl (ZsN fl l c m)::R)→K (.int .i64 (Zw9 fl l c)) w'):Cl prog 219 #[.pointer (some ⟨g,0,none⟩),.agg c.cs.toArray,.agg m.cs.toArray] w K:=by
 obtain ⟨v,h0⟩:=hS.ex
 have h1:=h0.split
 refine ZgC ?_
 unfold ZgT
 refine Yp (cs:=c.cs) h1 rfl λb4 w1 h2=>?_
 refine Yp (cs:=m.cs) h2 rfl λb5 w2 h3=>?_
 refine ZaY h3 λw3 h4=>?_
 refine Za ?_
 refine Zb h4 1 rfl rfl ?_
 refine Zh ?_
 refine Za ?_
 refine Zb h4 2 rfl rfl ?_
 refine Za7 (λc1=>?_) (λc1=>?_)
 ·refine Zi ?_
  have:=hk w3
  simp only[Zw9,ZsN,if_pos c1] at this
  exact this (.mk_ex v (.join (l':=[_,_]) h4.drop.drop))
 ·refine Zf ?_
  refine Zh ?_
  refine Za ?_
  refine Zb h4 2 rfl rfl ?_
  refine Zt h4 3 rfl (λ_=>Zp) ?_
  refine Zu5 (λc2=>?_) (λc2=>?_)
  ·refine Zi ?_
   have:=hk w3
   have c3:256≤l.length:=by omega
   simp only[Zw9,ZsN,if_neg c1,if_pos c3] at this
   exact this (.mk_ex v (.join (l':=[_,_]) h4.drop.drop))
  ·refine Zf ?_
   refine ZaY h4 λw4 h5=>?_
   refine Zh ?_
   refine Za ?_
   refine Zb h5 2 rfl rfl ?_
   refine Zo h5 1 (vs:=c.cs) rfl (by rfl) rfl ?_
   refine Zo h5 0 (vs:=m.cs) rfl (by rfl) rfl ?_
   rw[ZOt]
   refine Zaf (Yz.cs ⟨c,m⟩) (by kernel_rfl) ?_
   refine ⟨Zb h5 2 rfl rfl ⟨rfl,rfl⟩,?_⟩
   refine ZwC (vs:=Yz.cs ⟨c,m⟩) rfl rfl h5 λb30 w5 h6=>?_
   refine ⟨Zb h6 3 rfl rfl ⟨rfl,rfl⟩,?_⟩
   have hb:(l.length+[(⟨c,m⟩:Yz)].length)*72≤140737488355328:=by
    simp only[List.length_cons,List.length_nil]
    omega
   have h6':=h6.pick 4 rfl
   refine Zeo ZPs ZPB (f:=Yz.cs) (λ_=>rfl) (λ_=>Zg _) h6' (m:=[⟨c,m⟩]) (Zfu (f:=Yz.cs) (x:=⟨c,m⟩) (Nat.le_refl _)) hb λv' w6 h7=>?_
   refine Zh ?_
   refine Za ?_
   refine Zpm h7 4 rfl (h7.own_cells 0 rfl) (by simp) rfl λw7 h8=>?_
   have:=hk w7
   have c3:¬256≤l.length:=by omega
   simp only[Zw9,ZsN,if_neg c1,if_neg c3] at this
   exact this (.mk_ex v' (.join (l':=[_,_]) (h8.selR [_,_,_,_,_] [_,_] [4,0] (by decide) rfl)))
theorem ZjM {v:Value} {l:List Yz} {S:HP} (hS:Sat e w (S::R)) (hr:∀g,S g→rdS 9 Yz.cs v l g) (hl:l.length≤1000000)
  (hk:∀v' w',Sat e w' (Zz 40 6 Msg.cs v' (l.map Yz.m)::S::R)→K v' w'):Cl prog 129 #[v] w K:=by
 refine Zhx ?_
 unfold Zjn
 rw[ZOt]
 refine Zt hS 0 rfl hr ?_
 refine lp2 (λt3 t8 w=>∃j:Nat,j≤l.length∧t8=.int .i64 j∧Sat e w (Zz 40 6 Msg.cs t3 ((l.take j).map Yz.m)::S::R)) (λ_ t8 _=>l.length - nOf t8)
  ⟨0,Nat.zero_le _,rfl,by simpa using hS.own_nil 40 6 Msg.cs⟩ ?_
 rintro t3 _ w g ⟨j,hj,rfl,h1⟩ hg
 refine Za7 (λc=>?_) (λc=>?_)
 ·refine Zi ?_
  obtain ⟨x,hx⟩:=Zk (l:=l) (j:=j) (by omega)
  refine Zw h1 1 rfl hr (λ_=>rfl) hx λa ha=>?_
  refine Ym h1 1 rfl ha rfl ?_
  refine Yp (cs:=Yi [0,0,0,0,0,0,0,0,0]) h1 rfl λb5 w2 h2=>?_
  refine Zq h2 0 rfl (vs:=x.cs) rfl rfl (by simp[Yi]) (Zg _) (cs':=x.cs) (by kernel_rfl) λw3 h3=>?_
  refine Za ?_
  refine Zo h3 0 (vs:=x.m.cs) rfl (by rfl) rfl ?_
  refine Zj7 ZPm (f:=Msg.cs) (λ_=>rfl) (λ_=>Zg _) (h3.pick 1 rfl) (x:=x.m) rfl (by simp;omega) λv' w4 h4=>?_
  refine Yr (by omega) ?_
  refine hg _ _ _ ⟨j+1,by omega,rfl,?_⟩ (by simp[nOf];omega)
  have h5:=h4.selR [_,_,_] [_,_] [0,2] (by decide) rfl
  rw[Zx hx,List.map_append]
  exact h5
 ·refine Zf ?_
  obtain rfl:j=l.length:=by omega
  refine hk _ _ ?_
  simpa using h1
theorem Zrw {g:Nat} {fl:Int} {l:List Yz} (hS:Sat e w (Yo g fl l::R)) (hl:l.length≤1000000)
  (hk:∀v' w',Sat e w' (Zz 40 6 Msg.cs v' (l.map Yz.m)::Yo g fl l::R)→K v' w'):Cl prog 216 #[.pointer (some ⟨g,0,none⟩)] w K:=by
 obtain ⟨v,h0⟩:=hS.ex
 have h1:=h0.split
 refine ZgK ?_
 unfold Zg3
 refine Zh ?_
 refine Za ?_
 refine Zb h1 0 rfl rfl ?_
 refine ZjM h1.swap (λ_=>Zp) hl λv' w' h2=>?_
 refine hk _ _ (Sat.swap (.mk_ex v (.join (l':=[_,_]) (h2.selR [_,_,_] [_,_,_] [2,1,0] (by decide) rfl))))
theorem Zmp {g:Nat} {fl:Int} {l:List Yz} {C:HP} {fv:Value} (p:Yz→Bool) (hS:Sat e w (Yo g fl l::C::R)) (hl:l.length≤1000000)
  (hp:∀(w:World) (R:List HP) (K:KV) (x:Yz),Sat e w (C::R)→(∀w',Sat e w' (C::R)→K (.bool (p x)) w')→clV prog fv #[.agg x.cs.toArray] w K)
  (hk:∀v' w',Sat e w' (Zz 242 9 Yz.cs v' (l.filter p)::Yo g fl (l.filter (λx=>!p x))::C::R)→K v' w') :
  Cl prog 124 #[.pointer (some ⟨g,0,none⟩),fv] w K:=by
 obtain ⟨v,h0⟩:=hS.ex
 have h1:=h0.split
 refine Zgx ?_
 unfold ZgV
 rw[ZOt]
 refine Zh ?_
 refine Za ?_
 refine Zb h1 0 rfl rfl ?_
 refine Zt h1 1 rfl (λ_=>Zp) ?_
 refine lp3 (λt5 t6 t14 w=>∃j:Nat,j≤l.length∧t14=.int .i64 j∧Sat e w (Zz 242 9 Yz.cs t5 ((l.take j).filter p)::Zz 242 9 Yz.cs t6 ((l.take j).filter λx=>!p x)::
   blk g 181 [.int .i64 fl,v]::Zz 242 9 Yz.cs v l::C::R)) (λ_ _ t14 _=>l.length - nOf t14)
  ⟨0,Nat.zero_le _,rfl,by simpa using (h1.own_nil 242 9 Yz.cs).own_nil 242 9 Yz.cs⟩ ?_
 rintro t5 t6 _ w gg ⟨j,hj,rfl,h1⟩ hg
 refine Za7 (λc=>?_) (λc=>?_)
 ·refine Zi ?_
  obtain ⟨x,hx⟩:=Zk (l:=l) (j:=j) (by omega)
  have hf1:((l.take (j+1)).filter p)=(l.take j).filter p++if p x then [x] else []:=by
   rw[Zx hx,List.filter_append]
   cases hpx:p x <;> simp[hpx]
  have hf2:((l.take (j+1)).filter λx=>!p x)=(l.take j).filter (λx=>!p x)++if p x then [] else [x]:=by
   rw[Zx hx,List.filter_append]
   cases hpx:p x <;> simp[hpx]
  have hn1:=List.length_filter_le p (l.take j)
  have hn2:=List.length_filter_le (λx=>!p x) (l.take j)
  have hn3:(l.take j).length≤1000000:=by simp;omega
  refine J2.cut (λt5 t6 w=>Sat e w (Zz 242 9 Yz.cs t5 ((l.take (j+1)).filter p)::Zz 242 9 Yz.cs t6 ((l.take (j+1)).filter λx=>!p x)::
   blk g 181 [.int .i64 fl,v]::Zz 242 9 Yz.cs v l::C::R)) (λk hkk=>?_) (λt5 t6 w h2=>?_)
  ·refine Zw h1 3 rfl (λ_=>Zp) (λ_=>rfl) hx λa ha=>?_
   refine Ym h1 3 rfl ha rfl ?_
   refine Yp (cs:=Yi [0,0,0,0,0,0,0,0,0]) h1 rfl λb8 w2 h2=>?_
   refine Zq h2 0 rfl (vs:=x.cs) rfl rfl (by simp[Yi]) (Zg _) (cs':=x.cs) (by kernel_rfl) λw3 h3=>?_
   refine Zo h3 0 (vs:=x.cs) rfl (by rfl) rfl ?_
   refine hp _ _ _ x (h3.pick 5 rfl) λw4 h4=>?_
   have h5:=h4.selR [_,_,_,_,_,_] [_,_,_,_,_,_] [1,2,3,4,5,0] (by decide) rfl
   cases hpx:p x with
   | true=>
    refine Zi ?_
    refine Zo h5 0 (vs:=x.cs) rfl (by rfl) rfl ?_
    refine Zj7 ZPs (f:=Yz.cs) (λ_=>rfl) (λ_=>Zg _) (h5.pick 1 rfl) (x:=x) rfl (by omega) λv' w5 h6=>?_
    refine hkk _ _ _ ?_
    rw[hf1,hf2]
    simp only[hpx,if_true,List.append_nil]
    exact h6.selR [_,_,_,_,_,_] [_,_,_,_,_] [0,2,3,4,5] (by decide) rfl
   | false=>
    refine Zf ?_
    refine Zo h5 0 (vs:=x.cs) rfl (by rfl) rfl ?_
    refine Zj7 ZPs (f:=Yz.cs) (λ_=>rfl) (λ_=>Zg _) (h5.pick 2 rfl) (x:=x) rfl (by omega) λv' w5 h6=>?_
    refine hkk _ _ _ ?_
    rw[hf1,hf2]
    simp only[hpx,Bool.false_eq_true,if_false,List.append_nil]
    exact h6.selR [_,_,_,_,_,_] [_,_,_,_,_] [2,0,3,4,5] (by decide) rfl
  ·refine Yr (by omega) ?_
   exact hg _ _ _ _ ⟨j+1,by omega,rfl,h2⟩ (by simp[nOf];omega)
 ·refine Zf ?_
  obtain rfl:j=l.length:=by omega
  rw[List.take_length] at h1
  refine Zh ?_
  refine Za ?_
  refine Zpm h1 2 rfl (h1.own_cells 1 rfl) (by simp) rfl λw2 h2=>?_
  refine hk _ _ (Sat.swap (.mk_ex t6 (.join (l':=[_,_]) (h2.selR [_,_,_,_,_] [_,_,_,_] [2,1,0,4] (by decide) rfl))))
end Go.Proofs.YtkpdpddmaoablaaGreat
end
section
namespace Go.E
section
variable {α:Type} (lt:α→α→Bool)
def mg:List α→List α→List α
 | [],r=>r
 | x::l,[]=>x::l
 | x::l,y::r=>if lt y x=true then y::mg (x::l) r else x::mg l (y::r)
termination_by l r=>l.length+r.length
def ZeY:List α→List α
 | []=>[]
 | x::l=>mg lt [x] (ZeY l)
structure Zbr:Prop where
 asymm:∀a b,lt a b=true→lt b a=false
 trans:∀a b c,lt b a=false→lt c b=false→lt c a=false
variable {lt}
def Asc (lt:α→α→Bool) (l:List α):Prop:=l.Pairwise λa b=>lt b a=false
theorem ZcI (r:List α):mg lt [] r=r:=by rw[mg]
theorem ZbO (l:List α):mg lt l []=l:=by cases l <;> rw[mg]
theorem Zhp {x y:α} {l r:List α} (h:lt y x=true):mg lt (x::l) (y::r)=y::mg lt (x::l) r:=by rw[mg,if_pos h]
theorem ZiN {x y:α} {l r:List α} (h:lt y x=false):mg lt (x::l) (y::r)=x::mg lt l (y::r):=by rw[mg,if_neg (by rw[h];decide)]
theorem ZiA (L2 R2:List α):∀(n:Nat) (L1 R1:List α),L1.length+R1.length=n→(∀x∈L2,∀y∈R1,lt y x=true)→(∀x∈L1,∀y∈R2,lt y x=false)→
  mg lt (L1++L2) (R1++R2)=mg lt L1 R1++mg lt L2 R2
 | _,[],[],_,_,_=>by rw[ZcI];rfl
 | n,[],y::R1,hn,h1,h2=>by
  cases L2 with
  | nil=>simp only[List.append_nil,ZcI]
  | cons x L2=>
   have ih:=ZiA (x::L2) R2 R1.length [] R1 (by simp) (λa ha b hb=>h1 a ha b (List.mem_cons_of_mem _ hb)) (λ_ h=>by cases h)
   rw[List.nil_append] at ih ⊢
   rw[List.cons_append,Zhp (h1 x (List.mem_cons_self) y (List.mem_cons_self)),ih,ZcI,ZcI]
   rfl
 | n,x::L1,[],hn,h1,h2=>by
  cases R2 with
  | nil=>simp only[List.append_nil,ZbO]
  | cons y R2=>
   have ih:=ZiA L2 (y::R2) L1.length L1 [] (by simp) (λ_ _ _ h=>by cases h) (λa ha=>h2 a (List.mem_cons_of_mem _ ha))
   rw[List.nil_append] at ih ⊢
   rw[List.cons_append,ZiN (h2 x (List.mem_cons_self) y (List.mem_cons_self)),ih,ZbO,ZbO]
   rfl
 | n,x::L1,y::R1,hn,h1,h2=>by
  simp only[List.length_cons] at hn
  cases h:lt y x with
  | true=>
   have ih:=ZiA L2 R2 (n - 1) (x::L1) R1 (by simp;omega) (λa ha b hb=>h1 a ha b (List.mem_cons_of_mem _ hb)) h2
   rw[List.cons_append] at ih ⊢
   rw[List.cons_append,Zhp h,ih,Zhp h]
   rfl
  | false=>
   have ih:=ZiA L2 R2 (n - 1) L1 (y::R1) (by simp;omega) h1 (λa ha=>h2 a (List.mem_cons_of_mem _ ha))
   rw[List.cons_append] at ih ⊢
   rw[List.cons_append,ZiN h,ih,ZiN h]
   rfl
theorem ZiE {L1 L2 R1 R2:List α} (h1:∀x∈L2,∀y∈R1,lt y x=true) (h2:∀x∈L1,∀y∈R2,lt y x=false):mg lt (L1++L2) (R1++R2)=mg lt L1 R1++mg lt L2 R2:=ZiA L2 R2 _ L1 R1 rfl h1 h2
theorem Zbr.lt_le (o:Zbr lt) {x y z:α} (h:lt x y=true) (k:lt z y=false):lt x z=true:=by
 cases hz:lt x z with
 | true=>rfl
 | false=>
  have:=o.trans y z x k hz
  rw[h] at this;cases this
theorem Zbr.le_lt (o:Zbr lt) {x y z:α} (h:lt y x=false) (k:lt y z=true):lt x z=true:=by
 cases hz:lt x z with
 | true=>rfl
 | false=>
  have:=o.trans z x y hz h
  rw[k] at this;cases this
theorem Zi4 (o:Zbr lt):∀(n:Nat) (A B C:List α),A.length+B.length+C.length=n→mg lt (mg lt A B) C=mg lt A (mg lt B C)
 | _,[],B,C,_=>by rw[ZcI,ZcI]
 | _,a::A,[],C,_=>by rw[ZcI,ZbO]
 | _,a::A,b::B,[],_=>by rw[ZbO,ZbO]
 | n,a::A,b::B,c::C,hn=>by
  simp only[List.length_cons] at hn
  cases hba:lt b a with
  | true=>
   cases hcb:lt c b with
   | true=>
    have hca:lt c a=true:=o.lt_le hcb (o.asymm _ _ hba)
    have ih:=Zi4 o (n - 1) (a::A) (b::B) C (by simp;omega)
    rw[Zhp hba] at ih ⊢
    rw[Zhp hcb,Zhp hcb,Zhp hca,ih]
   | false=>
    have ih:=Zi4 o (n - 1) (a::A) B (c::C) (by simp;omega)
    rw[Zhp hba,ZiN hcb,ZiN hcb,Zhp hba,ih]
  | false=>
   cases hca:lt c a with
   | true=>
    have hcb:lt c b=true:=o.lt_le hca hba
    have ih:=Zi4 o (n - 1) (a::A) (b::B) C (by simp;omega)
    rw[ZiN hba] at ih ⊢
    rw[Zhp hcb,Zhp hca,Zhp hca,ih]
   | false=>
    have ih:=Zi4 o (n - 1) A (b::B) (c::C) (by simp;omega)
    rw[ZiN hba,ZiN hca,ih]
    cases hcb:lt c b with
    | true=>rw[Zhp hcb,ZiN hca]
    | false=>rw[ZiN hcb,ZiN hba]
theorem Zep (o:Zbr lt):∀A B:List α,ZeY lt (A++B)=mg lt (ZeY lt A) (ZeY lt B)
 | [],B=>by rw[List.nil_append,ZeY,ZcI]
 | x::A,B=>by
  rw[List.cons_append,ZeY,Zep o A B,ZeY,Zi4 o _ _ _ _ rfl]
theorem Zsy (x:α):ZeY lt [x]=[x]:=by rw[ZeY,ZeY,ZbO]
theorem ZmD:∀(n:Nat) (l r:List α),l.length+r.length=n→(mg lt l r).Perm (l++r)
 | _,[],r,_=>by rw[ZcI];exact .refl _
 | _,x::l,[],_=>by rw[ZbO,List.append_nil]
 | n,x::l,y::r,hn=>by
  simp only[List.length_cons] at hn
  cases h:lt y x with
  | true=>
   rw[Zhp h]
   exact ((ZmD (n - 1) (x::l) r (by simp;omega)).cons y).trans List.perm_middle.symm
  | false=>
   rw[ZiN h]
   exact (ZmD (n - 1) l (y::r) (by simp;omega)).cons x
theorem ZxD {l r:List α} {x:α}:x∈mg lt l r↔x∈l∨x∈r:=by rw[(ZmD _ l r rfl).mem_iff,List.mem_append]
theorem Zjz (l r:List α):(mg lt l r).length=l.length+r.length:=by rw[(ZmD _ l r rfl).length_eq,List.length_append]
theorem ZoW:∀l:List α,(ZeY lt l).Perm l
 | []=>.refl _
 | x::l=>(ZmD _ [x] (ZeY lt l) rfl).trans ((ZoW l).cons x)
theorem Yw (l:List α):(ZeY lt l).length=l.length:=(ZoW l).length_eq
theorem ZtK (o:Zbr lt):∀(n:Nat) (l r:List α),l.length+r.length=n→Asc lt l→Asc lt r→Asc lt (mg lt l r)
 | _,[],r,_,_,hr=>by rw[ZcI];exact hr
 | _,x::l,[],_,hl,_=>by rw[ZbO];exact hl
 | n,x::l,y::r,hn,hl,hr=>by
  simp only[List.length_cons] at hn
  obtain ⟨hl1,hl2⟩:=List.pairwise_cons.1 hl
  obtain ⟨hr1,hr2⟩:=List.pairwise_cons.1 hr
  cases h:lt y x with
  | true=>
   rw[Zhp h]
   refine List.pairwise_cons.2 ⟨λz hz=>?_,ZtK o (n - 1) (x::l) r (by simp;omega) hl hr2⟩
   rcases ZxD.1 hz with hz | hz
   ·rcases List.mem_cons.1 hz with rfl | hz
    ·exact o.asymm _ _ h
    ·exact o.trans _ _ _ (o.asymm _ _ h) (hl1 z hz)
   ·exact hr1 z hz
  | false=>
   rw[ZiN h]
   refine List.pairwise_cons.2 ⟨λz hz=>?_,ZtK o (n - 1) l (y::r) (by simp;omega) hl2 hr⟩
   rcases ZxD.1 hz with hz | hz
   ·exact hl1 z hz
   ·rcases List.mem_cons.1 hz with rfl | hz
    ·exact h
    ·exact o.trans _ _ _ h (hr1 z hz)
theorem Zf5 (o:Zbr lt):∀l:List α,Asc lt (ZeY lt l)
 | []=>List.Pairwise.nil
 | _::l=>ZtK o _ _ _ rfl (List.pairwise_singleton _ _) (Zf5 o l)
theorem Zo3 (o:Zbr lt) {l:List α} (h:Asc lt l) {i:Nat} {x y:α} (hy:l[i]?=some y) (hx:lt y x=true):∀z∈l.take (i+1),lt z x=true:=by
 intro z hz
 obtain ⟨j,hj⟩:=List.mem_iff_getElem?.1 hz
 rw[List.getElem?_take] at hj
 split at hj
 ·rename_i hji
  by_cases hij:j=i
  ·subst hij;rw[hy] at hj;cases hj;exact hx
  ·have hlt:j<i:=by omega
   obtain ⟨hjl,hje⟩:=List.getElem?_eq_some_iff.1 hj
   obtain ⟨hil,hie⟩:=List.getElem?_eq_some_iff.1 hy
   have:=List.pairwise_iff_getElem.1 h j i hjl hil hlt
   rw[hje,hie] at this
   exact o.le_lt this hx
 ·cases hj
theorem Zqm (o:Zbr lt) {l:List α} (h:Asc lt l) {i:Nat} {x y:α} (hy:l[i]?=some y) (hx:lt y x=false):∀z∈l.drop i,lt z x=false:=by
 intro z hz
 obtain ⟨j,hj⟩:=List.mem_iff_getElem?.1 hz
 rw[List.getElem?_drop] at hj
 by_cases hij:j=0
 ·subst hij;rw[Nat.add_zero,hy] at hj;cases hj;exact hx
 ·obtain ⟨hjl,hje⟩:=List.getElem?_eq_some_iff.1 hj
  obtain ⟨hil,hie⟩:=List.getElem?_eq_some_iff.1 hy
  have:=List.pairwise_iff_getElem.1 h i (i+j) hil hjl (by omega)
  rw[hje,hie] at this
  exact o.trans _ _ _ hx this
theorem Zov (o:Zbr lt) {l:List α} (h:Asc lt l) {i:Nat} {x y:α} (hy:l[i]?=some y) (hx:lt x y=false):∀z∈l.take (i+1),lt x z=false:=by
 intro z hz
 obtain ⟨j,hj⟩:=List.mem_iff_getElem?.1 hz
 rw[List.getElem?_take] at hj
 split at hj
 ·rename_i hji
  by_cases hij:j=i
  ·subst hij;rw[hy] at hj;cases hj;exact hx
  ·have hlt:j<i:=by omega
   obtain ⟨hjl,hje⟩:=List.getElem?_eq_some_iff.1 hj
   obtain ⟨hil,hie⟩:=List.getElem?_eq_some_iff.1 hy
   have:=List.pairwise_iff_getElem.1 h j i hjl hil hlt
   rw[hje,hie] at this
   exact o.trans _ _ _ this hx
 ·cases hj
theorem Zl6 (o:Zbr lt) {l:List α} (h:Asc lt l) {i:Nat} {x y:α} (hy:l[i]?=some y) (hx:lt x y=true):∀z∈l.drop i,lt x z=true:=by
 intro z hz
 obtain ⟨j,hj⟩:=List.mem_iff_getElem?.1 hz
 rw[List.getElem?_drop] at hj
 by_cases hij:j=0
 ·subst hij;rw[Nat.add_zero,hy] at hj;cases hj;exact hx
 ·obtain ⟨hjl,hje⟩:=List.getElem?_eq_some_iff.1 hj
  obtain ⟨hil,hie⟩:=List.getElem?_eq_some_iff.1 hy
  have:=List.pairwise_iff_getElem.1 h i (i+j) hil hjl (by omega)
  rw[hje,hie] at this
  exact o.lt_le hx this
theorem Asc.left {l r:List α} (h:Asc lt (l++r)):Asc lt l:=(List.pairwise_append.1 h).1
theorem Asc.right {l r:List α} (h:Asc lt (l++r)):Asc lt r:=(List.pairwise_append.1 h).2.1
theorem ZDt {x:α} {R1 R2:List α} (h1:∀y∈R1,lt y x=true) (h2:∀y∈R2,lt y x=false):mg lt [x] (R1++R2)=R1++x::R2:=by
 have:=ZiE (lt:=lt) (L1:=[]) (L2:=[x]) (R1:=R1) (R2:=R2) (λa ha y hy=>by rw[List.mem_singleton.1 ha];exact h1 y hy) (λ_ h=>by cases h)
 rw[List.nil_append,ZcI] at this
 rw[this]
 congr 1
 have:=ZiE (lt:=lt) (L1:=[x]) (L2:=[]) (R1:=[]) (R2:=R2) (λ_ h=>by cases h) (λa ha y hy=>by rw[List.mem_singleton.1 ha];exact h2 y hy)
 rw[List.append_nil,List.nil_append,ZcI,ZbO] at this
 exact this
theorem ZnU {y:α} {L1 L2:List α} (h1:∀x∈L1,lt y x=false) (h2:∀x∈L2,lt y x=true):mg lt (L1++L2) [y]=L1++y::L2:=by
 have:=ZiE (lt:=lt) (L1:=L1) (L2:=L2) (R1:=[]) (R2:=[y]) (λ_ _ _ h=>by cases h) (λx hx z hz=>by rw[List.mem_singleton.1 hz];exact h1 x hx)
 rw[List.nil_append,ZbO] at this
 rw[this]
 congr 1
 have:=ZiE (lt:=lt) (L1:=[]) (L2:=L2) (R1:=[y]) (R2:=[]) (λx hx z hz=>by rw[List.mem_singleton.1 hz];exact h2 x hx) (λ_ h=>by cases h)
 rw[List.append_nil,List.nil_append,ZcI,ZbO] at this
 exact this
end
end Go.E
end
section
namespace Go.Proofs.YtkpdpddmaoablaaGreat
open Go Go.E
set_option maxRecDepth 100000
variable {e w:World} {R:List HP} {K:KV} {v fv:Value} {cf:Yz→Yz→Int}
abbrev DK (v:Value) (l:List Yz):HP:=Zz 242 9 Yz.cs v l
def Zvo (e:World) (fv:Value) (cf:Yz→Yz→Int):Prop:=
 ∀(w:World) (R:List HP) (K:KV) (x y:Yz),Sat e w R→(∀w',Sat e w' R→K (.int .i64 (cf x y)) w')→clV prog fv #[.agg x.cs.toArray,.agg y.cs.toArray] w K
def ltC (cf:Yz→Yz→Int) (x y:Yz):Bool:=decide (cf x y<0)
theorem Zbb (x:Yz):(Yz.cs x).length=9:=rfl
theorem ZhM {P A M B S:List Yz} {a b n:Nat} (ha:a=P.length) (hb:b=P.length+A.length+M.length) (hn:n=A.length) (hAB:A.length=B.length) (hlen:(P++A++M++B++S).length≤1000000)
  (hS:Sat e w (DK v (P++A++M++B++S)::R)) (hk:∀w',Sat e w' (DK v (P++B++M++A++S)::R)→K (.tuple #[]) w') :
  Cl prog 140 #[v,.int .i64 (a:Int),.int .i64 (b:Int),.int .i64 (n:Int),fv] w K:=by
 refine Zbw ?_
 unfold ZaM
 simp only[List.length_append] at hlen
 refine Zdk (λm t10 w=>∃i:Nat,i≤n∧t10=.int .i64 i∧m=n - i∧Sat e w (DK v (P++(B.take i++A.drop i)++M++(A.take i++B.drop i)++S)::R)) n
  ⟨0,Nat.zero_le _,rfl,rfl,by simpa using hS⟩ ?_
 rintro m _ w g ⟨i,hi,rfl,rfl,h1⟩ hg
 refine Zpd (λc=>Zi ?_) (λc=>Zf ?_)
 ·obtain ⟨x,hx⟩:=Zk (l:=A) (j:=i) (by omega)
  obtain ⟨y,hy⟩:=Zk (l:=B) (j:=i) (by omega)
  have hsh:P++(B.take i++A.drop i)++M++(A.take i++B.drop i)++S=(P++B.take i)++x::((A.drop (i+1)++M++A.take i)++y::(B.drop (i+1)++S)):=by
   rw[Zaq hx,Zaq hy];simp
  rw[hsh] at h1
  have l1:a+i=(P++B.take i).length:=by rw[List.length_append,List.length_take];omega
  have l2:b+i=(P++B.take i).length+1+(A.drop (i+1)++M++A.take i).length:=by simp only[List.length_append,List.length_take,List.length_drop];omega
  refine ZaY h1 λw2 h2=>?_
  refine Zb9 (by omega) (Zb9 (by omega) (Zb9 (by omega) ?_))
  refine Zw h2 0 rfl (λ_=>Zp) Zbb (ZiK l2) λp hp=>?_
  refine Ym h2 0 rfl hp rfl ?_
  refine Zb9 (by omega) ?_
  refine Zw h2 0 rfl (λ_=>Zp) Zbb (Zj2 l1) λp hp=>?_
  refine Ym h2 0 rfl hp rfl ?_
  refine ZdJ h2 0 rfl Zbb (by rw[List.length_append,List.length_cons];omega) (x:=y) rfl (Zg _) λw3 h3=>?_
  refine ZdJ h3 0 rfl Zbb (by rw[List.length_set,l2];simp only[List.length_append,List.length_cons];omega) (x:=x) rfl (Zg _) λw4 h4=>?_
  replace h4:Sat e w4 (DK v ((((P++B.take i)++x::((A.drop (i+1)++M++A.take i)++y::(B.drop (i+1)++S))).set (a+i) y).set (b+i) x)::R):=h4
  rw[Zsz l1 l2] at h4
  refine Yr (by omega) ?_
  refine hg _ _ _ (by omega) ⟨i+1,by omega,rfl,rfl,?_⟩
  rw[Zx hx,Zx hy]
  simpa using h4
 ·obtain rfl:i=n:=by omega
  subst hn
  rw[List.take_of_length_le (by omega),List.drop_of_length_le (by omega),List.take_of_length_le (l:=A) (by omega),List.drop_of_length_le (l:=B) (by omega)] at h1
  exact hk _ (by simpa using h1)
theorem Zv2 {P A B S:List Yz} {a m b:Nat} (ha:a=P.length) (hm:m=P.length+A.length) (hb:b=P.length+A.length+B.length) (hA:0<A.length) (hB:0<B.length) (hlen:(P++A++B++S).length≤1000000)
  (hS:Sat e w (DK v (P++A++B++S)::R)) (hk:∀w',Sat e w' (DK v (P++B++A++S)::R)→K (.tuple #[]) w') :
  Cl prog 139 #[v,.int .i64 (a:Int),.int .i64 (m:Int),.int .i64 (b:Int),fv] w K:=by
 refine ZbJ ?_
 unfold Za2
 simp only[List.length_append] at hlen
 refine Zdh (by omega) (by omega) (Zdh (by omega) (by omega) ?_)
 refine ZjF (λq t10 t11 w=>∃(P' X Y S':List Yz),t10=.int .i64 X.length∧t11=.int .i64 Y.length∧q=X.length+Y.length∧P'.length+X.length=m∧0<X.length∧0<Y.length∧
   P'++Y++X++S'=P++B++A++S∧(P'++X++Y++S').length=(P++A++B++S).length∧Sat e w (DK v (P'++X++Y++S')::R)) (A.length+B.length)
  ⟨P,A,B,S,by rw[show m - a=A.length by omega],by rw[show b - m=B.length by omega],rfl,by omega,hA,hB,rfl,rfl,hS⟩ ?_
 rintro q _ _ w g ⟨P',X,Y,S',rfl,rfl,rfl,hpm,hX,hY,heq,hle,h1⟩ hg
 simp only[List.length_append] at hle
 refine ZrP (λc=>Zi ?_) (λc=>Zf ?_)
 ·refine Ztu (λc2=>Zi ?_) (λc2=>Zf ?_)
  ·-- X is longer
   refine Zdh (by omega) (by omega) ?_
   have hX':X=X.take Y.length++X.drop Y.length:=(List.take_append_drop _ _).symm
   have hl1:(X.take Y.length).length=Y.length:=by rw[List.length_take];omega
   have hl2:(X.drop Y.length).length=X.length - Y.length:=List.length_drop
   refine ZhM (P:=P') (A:=X.take Y.length) (M:=X.drop Y.length) (B:=Y) (S:=S') (by omega) (by omega) (by omega) hl1 (by simp only[List.length_append];omega) (by rw[hX'] at h1;simpa using h1) λw2 h2=>?_
   refine Zdh (by omega) (by omega) ?_
   refine hg _ _ _ _ (by simp only[hl1,hl2];omega) ⟨P'++Y,X.drop Y.length,X.take Y.length,S',by rw[hl2],by rw[hl1],rfl,by rw[List.length_append,hl2];omega,by omega,by omega,?_,by simp only[List.length_append];omega,by simpa using h2⟩
   rw[←heq]
   conv=>rhs;rw[hX']
   simp
  ·refine Zdh (by omega) (by omega) (Zb9 (by omega) (Zdh (by omega) (by omega) ?_))
   have hXY:X.length<Y.length:=by omega
   have hY':Y=Y.take (Y.length - X.length)++Y.drop (Y.length - X.length):=(List.take_append_drop _ _).symm
   have hl1:(Y.take (Y.length - X.length)).length=Y.length - X.length:=by rw[List.length_take];omega
   have hl2:(Y.drop (Y.length - X.length)).length=X.length:=by rw[List.length_drop];omega
   refine ZhM (P:=P') (A:=X) (M:=Y.take (Y.length - X.length)) (B:=Y.drop (Y.length - X.length)) (S:=S') (by omega) (by omega) rfl hl2.symm (by simp only[List.length_append];omega) (by rw[hY'] at h1;simpa using h1) λw2 h2=>?_
   refine Zdh (by omega) (by omega) ?_
   refine hg _ _ _ _ (by simp only[hl1,hl2];omega) ⟨P',Y.drop (Y.length - X.length),Y.take (Y.length - X.length),X++S',by rw[hl2],by rw[hl1],rfl,by omega,by omega,by omega,?_,by simp only[List.length_append];omega,by simpa using h2⟩
   rw[←heq]
   conv=>rhs;rw[hY']
   simp
 ·have hXY:X.length=Y.length:=by omega
  refine Zdh (by omega) (by omega) ?_
  refine ZhM (P:=P') (A:=X) (M:=[]) (B:=Y) (S:=S') (by omega) (by simp;omega) rfl hXY (by simp only[List.length_append,List.length_nil];omega) (by simpa using h1) λw2 h2=>?_
  refine hk _ ?_
  rw[←heq]
  simpa using h2
theorem Zmq (hc:Zvo e fv cf) (o:Zbr (ltC cf)) {P X S:List Yz} {a b:Nat} (ha:a=P.length) (hb:b=P.length+X.length) (hlen:(P++X++S).length≤1000000)
  (hS:Sat e w (DK v (P++X++S)::R)) (hk:∀w',Sat e w' (DK v (P++ZeY (ltC cf) X++S)::R)→K (.tuple #[]) w') :
  Cl prog 136 #[v,.int .i64 (a:Int),.int .i64 (b:Int),fv] w K:=by
 refine Za5 ?_
 unfold Zap
 simp only[List.length_append] at hlen
 refine Yr (by omega) ?_
 by_cases hX0:X.length=0
 ·have hX:X=[]:=List.length_eq_zero_iff.1 hX0
  subst hX
  refine Zdk (λq t8 w=>t8=.int .i64 ((a+1:Nat):Int)∧Sat e w (DK v (P++[]++S)::R)) 0 ⟨rfl,hS⟩ ?_
  rintro q _ w g ⟨rfl,h1⟩ hg
  refine Zpd (λc=>?_) (λc=>Zf (hk _ h1))
  simp at hb
  omega
 refine Zdk (λq t8 w=>∃r:Nat,1≤r∧r≤X.length∧t8=.int .i64 ((a+r:Nat):Int)∧q=X.length - r∧Sat e w (DK v (P++ZeY (ltC cf) (X.take r)++X.drop r++S)::R)) (X.length - 1)
  ⟨1,Nat.le_refl _,by omega,rfl,rfl,?_⟩ ?_
 ·obtain ⟨x,hx⟩:=Zk (l:=X) (j:=0) (by omega)
  rw[Zx hx,List.take_zero,List.nil_append,Zsy]
  have:X=x::X.drop 1:=by rw[←List.drop_zero (l:=X),Zaq hx];simp
  rw[this] at hS
  simpa using hS
 rintro q _ w g ⟨r,hr1,hr2,rfl,rfl,h1⟩ hg
 refine Zpd (λc=>Zi ?_) (λc=>Zf ?_)
 ·obtain ⟨x,hx⟩:=Zk (l:=X) (j:=r) (by omega)
  have hsl:(ZeY (ltC cf) (X.take r)).length=r:=by rw[Yw,List.length_take];omega
  refine Zdk (λq t9 w=>∃(U V:List Yz),U++V=ZeY (ltC cf) (X.take r)∧t9=.int .i64 ((a+U.length:Nat):Int)∧q=U.length∧(∀z∈V,ltC cf x z=true)∧
    Sat e w (DK v (P++(U++x::V)++X.drop (r+1)++S)::R)) r
   ⟨ZeY (ltC cf) (X.take r),[],by simp,by rw[hsl],hsl.symm,(λ_ h=>by cases h),by rw[Zaq hx] at h1;simpa using h1⟩ ?_
  rintro q _ w g2 ⟨U,V,hUV,rfl,rfl,hV,h2⟩ hg2
  have hUVl:U.length+V.length=r:=by rw[←hsl,←hUV,List.length_append]
  have hasc:Asc (ltC cf) (U++V):=by rw[hUV];exact Zf5 o _
  have hdone:∀w',Sat e w' (DK v (P++(U++x::V)++X.drop (r+1)++S)::R)→(∀z∈U,ltC cf x z=false)→bi .add .i64 (.int .i64 ((a+r:Nat):Int)) (Value.int IntKind.i64 1) w' λt16 w=>g [t16] w:=by
   intro w' h3 hU
   refine Yr (by omega) ?_
   refine hg _ _ _ (by omega) ⟨r+1,by omega,by omega,rfl,rfl,?_⟩
   rw[Zx hx,Zep o,Zsy,←hUV,ZnU hU hV]
   simpa using h3
  refine ZaY h2 λw3 h3=>?_
  refine Ztu (λc2=>?_) (λc2=>?_)
  ·have hU0:0<U.length:=by omega
   obtain ⟨u,hu⟩:=Zk (l:=U) (j:=U.length - 1) (by omega)
   have hU':U=U.take (U.length - 1)++[u]:=by
    have h5:=Zx hu
    rw[show U.length - 1+1=U.length by omega,List.take_length] at h5
    exact h5
   generalize hU1:U.take (U.length - 1)=U1 at hU'
   have hU1l:U1.length+1=U.length:=by rw[hU'];simp
   have hsh:P++(U++x::V)++X.drop (r+1)++S=(P++U1)++u::([]++x::(V++X.drop (r+1)++S)):=by rw[hU'];simp
   rw[hsh] at h3
   have l1:a+U.length - 1=(P++U1).length:=by rw[List.length_append];omega
   have l2:a+U.length=(P++U1).length+1+([]:List Yz).length:=by rw[List.length_append,List.length_nil];omega
   refine Ze (Ze (Ze (Ze ?_)))
   refine Zw h3 0 rfl (λ_=>Zp) Zbb (ZiK l2) λp hp=>?_
   refine Ze (Ym h3 0 rfl hp rfl ?_)
   refine Ze (Ze (Ze (ZjR (by omega) (by omega) ?_)))
   refine Ze (Zw h3 0 rfl (λ_=>Zp) Zbb (Zj2 l1) λp hp=>?_)
   refine Ze (Ym h3 0 rfl hp rfl ?_)
   refine Ze (hc _ _ _ _ _ h3 λw4 h4=>?_)
   refine Ze (Za7 (λc3=>Yv (Zi ?_)) (λc3=>Yv (Zf ?_)))
   ·refine ZaY h4 λw5 h5=>?_
    refine ZjR (by omega) (by omega) (ZjR (by omega) (by omega) ?_)
    refine ZuH (l:=(P++U1)++u::([]++x::(V++X.drop (r+1)++S))) Zbb (λ_=>Zg _) (ZiK l2) (Zj2 l1) h5 λw6 h6=>?_
    rw[Zp0 l1 l2] at h6
    refine ZjR (by omega) (by omega) ?_
    refine hg2 _ _ _ (by omega) ⟨U1,u::V,by rw[←hUV,hU'];simp,by rw[show a+U.length - 1=a+U1.length by omega],rfl,λz hz=>?_,by simpa using h6⟩
    rcases List.mem_cons.1 hz with rfl | hz
    ·exact decide_eq_true c3
    ·exact hV z hz
   ·refine hdone _ (by rw[hsh];exact h4) ?_
    have:=Zov o hasc.left hu (decide_eq_false c3)
    rw[show U.length - 1+1=U.length by omega,List.take_length] at this
    exact this
  ·have hU0:U=[]:=List.length_eq_zero_iff.1 (by omega)
   refine Zu (Zu (Zu (Zu (Zu (Zu (Zu (Zu (Zu (Zu (Zu (Zu (Yd (Zf (hdone _ h3 ?_))))))))))))))
   rw[hU0]
   exact λ_ h=>by cases h
 ·obtain rfl:r=X.length:=by omega
  rw[List.take_length,List.drop_length,List.append_nil] at h1
  exact hk _ h1
theorem Zpj {P L S:List Yz} {i n:Nat} {x:Yz} (h:L[i]?=some x) (hn:n=P.length+i):(P++L++S)[n]?=some x:=by
 have hi:=(List.getElem?_eq_some_iff.1 h).1
 subst hn
 rw[List.append_assoc,List.getElem?_append_right (by omega),Nat.add_sub_cancel_left,List.getElem?_append_left hi,h]
theorem Zvt {a b x y:Int} (hk:K (.bool (decide (a<b∧x<y))) w):bi .lss .i64 (.int .i64 a) (.int .i64 b) w λt1 w=>gd t1 true (λk=>k (.int .i64 x) w) w λt2 w=>gd t1 true (λk=>k (.int .i64 y) w) w λt3 w=>
  gd t1 true (λk=>bi .lss .i64 t2 t3 w k) w λt4 w=>pk t1 t4 (.bool false) w K:=by
 refine Za7 (λc=>Ze (Ze (Ze (ZwL (Yv ?_))))) (λc=>Zu (Zu (Zu (Yd ?_))))
 ·rw[show decide (a<b∧x<y)=decide (x<y) from by simp[c]] at hk
  exact hk
 ·rw[show decide (a<b∧x<y)=false from by simp[c]] at hk
  exact hk
theorem Zm9 (hc:Zvo e fv cf) (o:Zbr (ltC cf)):∀(N:Nat) {w:World} {R:List HP} {K:KV} {P L Q S:List Yz} {a m b:Nat},L.length+Q.length≤N→a=P.length→m=P.length+L.length→b=P.length+L.length+Q.length→
  0<L.length→0<Q.length→(P++L++Q++S).length≤1000000→Asc (ltC cf) L→Asc (ltC cf) Q→
  Sat e w (DK v (P++L++Q++S)::R)→(∀w',Sat e w' (DK v (P++mg (ltC cf) L Q++S)::R)→K (.tuple #[]) w')→
  Cl prog 137 #[v,.int .i64 (a:Int),.int .i64 (m:Int),.int .i64 (b:Int),fv] w K:=by
 intro N
 induction N with
 | zero=>intro w R K P L Q S a m b h1 _ _ _ h2;omega
 | succ N ih=>
  intro w R K P L Q S a m b hN ha hm hb hL hQ hlen aL aQ hS hk
  refine ZbD ?_
  unfold ZaS
  simp only[List.length_append] at hlen
  refine Zdh (by omega) (by omega) (ZoR (λc1=>Zi ?_) (λc1=>Zf ?_))
  ·-- one from the left
   obtain ⟨x,rfl⟩:∃x,L=[x]:=List.length_eq_one_iff.1 (by omega)
   simp only[List.length_cons,List.length_nil] at*
   refine ZjF (λz t10 t11 w=>∃p q:Nat,t10=.int .i64 ((m+p:Nat):Int)∧t11=.int .i64 ((m+q:Nat):Int)∧p≤q∧q≤Q.length∧z=q - p∧
     (p=0∨∃y,Q[p - 1]?=some y∧ltC cf y x=true)∧(q=Q.length∨∃y,Q[q]?=some y∧ltC cf y x=false)∧Sat e w (DK v (P++[x]++Q++S)::R)) Q.length
    ⟨0,Q.length,by simp,by rw[show b=m+Q.length by omega],Nat.zero_le _,Nat.le_refl _,rfl,.inl rfl,.inl rfl,hS⟩ ?_
   rintro z _ _ w g ⟨p,q,rfl,rfl,hpq,hqQ,rfl,hp,hq,h1⟩ hg
   refine Zpd (λc2=>Zi ?_) (λc2=>Zf ?_)
   ·refine Zb9 (by omega) (Zqe (xo:=λ_=>_) (yo:=λ_=>_) (by omega) ?_)
    rw[show (m+p+(m+q)) / 2=m+(p+q) / 2 by omega]
    have hh:(p+q) / 2<Q.length:=by omega
    obtain ⟨y,hy⟩:=Zk hh
    refine ZaY h1 λw2 h2=>?_
    refine Zw h2 0 rfl (λ_=>Zp) Zbb (Zpj (P:=P++[x]) hy (by simp;omega)) λr hr=>?_
    refine Ym h2 0 rfl hr rfl ?_
    refine Zw (j:=a) h2 0 rfl (λ_=>Zp) Zbb (x:=x) (by rw[ha];simp) λr hr=>?_
    refine Ym h2 0 rfl hr rfl ?_
    refine hc _ _ _ _ _ h2 λw3 h3=>?_
    refine Za7 (λc3=>Zi ?_) (λc3=>Zf ?_)
    ·refine Yr (by omega) ?_
     refine hg _ _ _ _ (by omega) ⟨(p+q) / 2+1,q,rfl,rfl,by omega,hqQ,rfl,.inr ⟨y,by rw[Nat.add_sub_cancel];exact hy,decide_eq_true c3⟩,hq,h3⟩
    ·refine hg _ _ _ _ (by omega) ⟨p,(p+q) / 2,rfl,rfl,by omega,by omega,rfl,hp,.inr ⟨y,hy,decide_eq_false c3⟩,h3⟩
   ·obtain rfl:p=q:=by omega
    have hlow:∀y∈Q.take p,ltC cf y x=true:=by
     rcases hp with rfl | ⟨y,hy,hyx⟩
     ·simp
     ·have hp0:p - 1+1=p:=by
       by_cases h0:p=0
       ·exfalso
        subst h0
        rcases hq with h | ⟨y',hy',hyx'⟩
        ·omega
        ·rw[show 0 - 1=0 from rfl,hy'] at hy
         cases hy
         rw[hyx] at hyx'
         cases hyx'
       ·omega
      have:=Zo3 o aQ hy hyx
      rw[hp0] at this
      exact this
    have hhigh:∀y∈Q.drop p,ltC cf y x=false:=by
     rcases hq with rfl | ⟨y,hy,hyx⟩
     ·simp
     ·exact Zqm o aQ hy hyx
    have hmg:mg (ltC cf) [x] Q=Q.take p++x::Q.drop p:=by
     conv=>lhs;rw[←List.take_append_drop p Q]
     exact ZDt hlow hhigh
    rw[hmg] at hk
    have hQp:(Q.take p).length=p:=by rw[List.length_take];omega
    obtain ⟨Q1,hQ1⟩:∃Q1,Q1=Q.take p:=⟨_,rfl⟩
    obtain ⟨Q2,hQ2⟩:∃Q2,Q2=Q.drop p:=⟨_,rfl⟩
    have hQs:Q=Q1++Q2:=by rw[hQ1,hQ2,List.take_append_drop]
    rw[←hQ1,←hQ2] at hk
    rw[←hQ1] at hQp
    rw[hQs] at h1
    refine Zdk (λz t13 w=>∃i:Nat,i≤p∧t13=.int .i64 ((a+i:Nat):Int)∧z=p - i∧Sat e w (DK v (P++Q1.take i++x::Q1.drop i++Q2++S)::R)) p
     ⟨0,Nat.zero_le _,rfl,rfl,by simpa using h1⟩ ?_
    rintro z _ w g2 ⟨i,hi,rfl,rfl,h2⟩ hg2
    refine ZjR (by omega) (by omega) (Zpd (λc3=>Zi ?_) (λc3=>Zf ?_))
    ·obtain ⟨y,hy⟩:=Zk (l:=Q1) (j:=i) (by omega)
     have hsh:P++Q1.take i++x::Q1.drop i++Q2++S=(P++Q1.take i)++x::([]++y::(Q1.drop (i+1)++Q2++S)):=by rw[Zaq hy];simp
     rw[hsh] at h2
     have l1:a+i=(P++Q1.take i).length:=by rw[List.length_append,List.length_take];omega
     have l2:a+i+1=(P++Q1.take i).length+1+([]:List Yz).length:=by rw[←l1];rfl
     refine ZaY h2 λw3 h3=>?_
     refine Yr (by omega) (Yr (by omega) ?_)
     refine ZuH (l:=(P++Q1.take i)++x::([]++y::(Q1.drop (i+1)++Q2++S))) Zbb (λ_=>Zg _) (Zj2 l1) (ZiK l2) h3 λw4 h4=>?_
     rw[Zsz l1 l2] at h4
     refine Yr (by omega) ?_
     refine hg2 _ _ _ (by omega) ⟨i+1,by omega,rfl,rfl,?_⟩
     rw[Zx hy]
     simpa using h4
    ·obtain rfl:i=p:=by omega
     rw[List.take_of_length_le (by omega),List.drop_of_length_le (by omega)] at h2
     exact hk _ (by simpa using h2)
  refine Zdh (by omega) (by omega) (ZoR (λc2=>Zi ?_) (λc2=>Zf ?_))
  ·-- one from the right
   obtain ⟨y,rfl⟩:∃y,Q=[y]:=List.length_eq_one_iff.1 (by omega)
   simp only[List.length_cons,List.length_nil] at*
   refine ZjF (λz t14 t15 w=>∃p q:Nat,t14=.int .i64 ((a+p:Nat):Int)∧t15=.int .i64 ((a+q:Nat):Int)∧p≤q∧q≤L.length∧z=q - p∧
     (p=0∨∃x,L[p - 1]?=some x∧ltC cf y x=false)∧(q=L.length∨∃x,L[q]?=some x∧ltC cf y x=true)∧Sat e w (DK v (P++L++[y]++S)::R)) L.length
    ⟨0,L.length,by simp,by rw[show m=a+L.length by omega],Nat.zero_le _,Nat.le_refl _,rfl,.inl rfl,.inl rfl,hS⟩ ?_
   rintro z _ _ w g ⟨p,q,rfl,rfl,hpq,hqL,rfl,hp,hq,h1⟩ hg
   refine Zpd (λc2=>Zi ?_) (λc2=>Zf ?_)
   ·refine Zb9 (by omega) (Zqe (xo:=λ_=>_) (yo:=λ_=>_) (by omega) ?_)
    rw[show (a+p+(a+q)) / 2=a+(p+q) / 2 by omega]
    have hh:(p+q) / 2<L.length:=by omega
    obtain ⟨x,hx⟩:=Zk hh
    refine ZaY h1 λw2 h2=>?_
    refine Zw (j:=m) h2 0 rfl (λ_=>Zp) Zbb (x:=y) (Zpj (P:=P++L) (L:=[y]) (i:=0) rfl (by simp;omega)) λr hr=>?_
    refine Ym h2 0 rfl hr rfl ?_
    refine Zw h2 0 rfl (λ_=>Zp) Zbb (x:=x) (by rw[List.append_assoc];exact Zpj hx (by omega)) λr hr=>?_
    refine Ym h2 0 rfl hr rfl ?_
    refine hc _ _ _ _ _ h2 λw3 h3=>?_
    refine Za7 (λc3=>ZaJ (Zf ?_)) (λc3=>Zch (Zi ?_))
    ·refine hg _ _ _ _ (by omega) ⟨p,(p+q) / 2,rfl,rfl,by omega,by omega,rfl,hp,.inr ⟨x,hx,decide_eq_true c3⟩,h3⟩
    ·refine Yr (by omega) ?_
     refine hg _ _ _ _ (by omega) ⟨(p+q) / 2+1,q,rfl,rfl,by omega,hqL,rfl,.inr ⟨x,by rw[Nat.add_sub_cancel];exact hx,decide_eq_false c3⟩,hq,h3⟩
   ·obtain rfl:p=q:=by omega
    have hlow:∀x∈L.take p,ltC cf y x=false:=by
     rcases hp with rfl | ⟨x,hx,hyx⟩
     ·simp
     ·have hp0:p - 1+1=p:=by
       by_cases h0:p=0
       ·exfalso
        subst h0
        rcases hq with h | ⟨x',hx',hyx'⟩
        ·omega
        ·rw[show 0 - 1=0 from rfl,hx'] at hx
         cases hx
         rw[hyx] at hyx'
         cases hyx'
       ·omega
      have:=Zov o aL hx hyx
      rw[hp0] at this
      exact this
    have hhigh:∀x∈L.drop p,ltC cf y x=true:=by
     rcases hq with rfl | ⟨x,hx,hyx⟩
     ·simp
     ·exact Zl6 o aL hx hyx
    have hmg:mg (ltC cf) L [y]=L.take p++y::L.drop p:=by
     conv=>lhs;rw[←List.take_append_drop p L]
     exact ZnU hlow hhigh
    rw[hmg] at hk
    have hL2l:(L.drop p).length=L.length - p:=List.length_drop
    have hL1l:(L.take p).length=p:=by rw[List.length_take];omega
    obtain ⟨L1,hL1⟩:∃L1,L1=L.take p:=⟨_,rfl⟩
    obtain ⟨L2,hL2⟩:∃L2,L2=L.drop p:=⟨_,rfl⟩
    have hLs:L=L1++L2:=by rw[hL1,hL2,List.take_append_drop]
    rw[←hL1,←hL2] at hk
    rw[←hL1] at hL1l
    rw[←hL2] at hL2l
    rw[hLs] at h1
    refine Zdk (λz t17 w=>z≤L2.length∧t17=.int .i64 ((a+p+z:Nat):Int)∧Sat e w (DK v (P++L1++L2.take z++y::L2.drop z++S)::R)) L2.length
     ⟨Nat.le_refl _,by rw[show m=a+p+L2.length by omega],by simpa using h1⟩ ?_
    rintro z _ w g2 ⟨hz,rfl,h2⟩ hg2
    refine Ztu (λc3=>Zi ?_) (λc3=>Zf ?_)
    ·obtain ⟨u,hu⟩:=Zk (l:=L2) (j:=z - 1) (by omega)
     have hz1:z - 1+1=z:=by omega
     have htk:=Zx hu
     rw[hz1] at htk
     have hsh:P++L1++L2.take z++y::L2.drop z++S=(P++L1++L2.take (z - 1))++u::([]++y::(L2.drop z++S)):=by rw[htk];simp
     rw[hsh] at h2
     have l1:a+p+z - 1=(P++L1++L2.take (z - 1)).length:=by simp only[List.length_append,List.length_take];omega
     have l2:a+p+z=(P++L1++L2.take (z - 1)).length+1+([]:List Yz).length:=by rw[←l1,List.length_nil];omega
     refine ZaY h2 λw3 h3=>?_
     refine ZjR (by omega) (by omega) (ZjR (by omega) (by omega) ?_)
     refine ZuH (l:=(P++L1++L2.take (z - 1))++u::([]++y::(L2.drop z++S))) Zbb (λ_=>Zg _) (ZiK l2) (Zj2 l1) h3 λw4 h4=>?_
     rw[Zp0 l1 l2] at h4
     refine ZjR (by omega) (by omega) ?_
     refine hg2 (z - 1) _ _ (by omega) ⟨by omega,by rw[show a+p+z - 1=a+p+(z - 1) by omega],?_⟩
     have hdc:=Zaq hu
     rw[hz1] at hdc
     rw[hdc]
     simpa using h4
    ·obtain rfl:z=0:=by omega
     exact hk _ (by simpa using h2)
  refine Zb9 (by omega) (Zqe (xo:=λ_=>_) (yo:=λ_=>_) (by omega) ?_)
  obtain ⟨mid,hmid⟩:∃mid,mid=(a+b) / 2:=⟨_,rfl⟩
  rw[←hmid]
  refine Zb9 (by omega) ?_
  refine ZFJ ?_
  refine J2.cut (λt20 t21 w=>∃s0 r0:Nat,t20=.int .i64 (s0:Int)∧t21=.int .i64 (r0:Int)∧((s0=a∧r0=m∧m≤mid)∨(s0=mid+m - b∧r0=mid∧mid<m))∧Sat e w (DK v (P++L++Q++S)::R)) (λk5 hcut=>?_) ?_
  ·refine Zt1 (λc3=>?_) (λc3=>?_)
   ·refine Zdh (by omega) (by omega) ?_
    exact hcut _ _ _ ⟨_,_,rfl,rfl,.inr ⟨rfl,rfl,by omega⟩,hS⟩
   ·exact hcut _ _ _ ⟨_,_,rfl,rfl,.inl ⟨rfl,rfl,by omega⟩,hS⟩
  rintro _ _ w ⟨s0,r0,rfl,rfl,hsr,h1⟩
  refine ZjR (by omega) (by omega) ?_
  have hsr0:s0≤r0:=by omega
  refine ZjF (λz t20 t21 w=>∃s r:Nat,t20=.int .i64 (s:Int)∧t21=.int .i64 (r:Int)∧s0≤s∧s≤r∧r≤r0∧z=r - s∧
    (s=s0∨(s0<s∧∃x y,L[s - 1 - a]?=some x∧Q[mid - s]?=some y∧ltC cf y x=false))∧(r=r0∨(r<r0∧∃x y,L[r - a]?=some x∧Q[mid - 1 - r]?=some y∧ltC cf y x=true))∧Sat e w (DK v (P++L++Q++S)::R)) (r0 - s0)
   ⟨s0,r0,rfl,rfl,Nat.le_refl _,hsr0,Nat.le_refl _,rfl,.inl rfl,.inl rfl,h1⟩ ?_
  rintro z _ _ w g ⟨s,r,rfl,rfl,hs0,hsr1,hr0,rfl,hs,hr,h2⟩ hg
  refine Zpd (λc4=>Zi ?_) (λc4=>Zf ?_)
  ·refine Zb9 (by omega) (Zqe (xo:=λ_=>_) (yo:=λ_=>_) (by omega) ?_)
   obtain ⟨c,hcc⟩:∃c,c=(s+r) / 2:=⟨_,rfl⟩
   rw[←hcc]
   have hc1:s≤c:=by omega
   have hc2:c<r:=by omega
   obtain ⟨x,hx⟩:=Zk (l:=L) (j:=c - a) (by omega)
   obtain ⟨y,hy⟩:=Zk (l:=Q) (j:=mid - 1 - c) (by omega)
   refine ZaY h2 λw3 h3=>?_
   refine Zdh (by omega) (by omega) ?_
   refine Zw h3 0 rfl (λ_=>Zp) Zbb (x:=y) (Zpj (P:=P++L) hy (by rw[List.length_append];omega)) λp hp=>?_
   refine Ym h3 0 rfl hp rfl ?_
   refine Zw h3 0 rfl (λ_=>Zp) Zbb (x:=x) (by rw[List.append_assoc];exact Zpj hx (by omega)) λp hp=>?_
   refine Ym h3 0 rfl hp rfl ?_
   refine hc _ _ _ _ _ h3 λw4 h4=>?_
   refine Za7 (λc5=>ZaJ (Zf ?_)) (λc5=>Zch (Zi ?_))
   ·exact hg _ _ _ _ (by omega) ⟨s,c,rfl,rfl,hs0,by omega,by omega,rfl,hs,.inr ⟨by omega,x,y,hx,hy,decide_eq_true c5⟩,h4⟩
   ·refine Yr (by omega) ?_
    exact hg _ _ _ _ (by omega) ⟨c+1,r,rfl,rfl,by omega,by omega,hr0,rfl,.inr ⟨by omega,x,y,by rw[Nat.add_sub_cancel];exact hx,by rw[show mid - (c+1)=mid - 1 - c by omega];exact hy,decide_eq_false c5⟩,hr,h4⟩
  obtain rfl:s=r:=by omega
  have hsa:a≤s:=by omega
  have hsm:s≤m:=by omega
  have hsd:s≤mid:=by omega
  have heb:mid+m - s≤b:=by omega
  have hL1l:(L.take (s - a)).length=s - a:=by rw[List.length_take];omega
  have hL2l:(L.drop (s - a)).length=m - s:=by rw[List.length_drop];omega
  have hQ1l:(Q.take (mid - s)).length=mid - s:=by rw[List.length_take];omega
  have hQ2l:(Q.drop (mid - s)).length=b - (mid+m - s):=by rw[List.length_drop];omega
  have p1:∀x∈L.drop (s - a),∀y∈Q.take (mid - s),ltC cf y x=true:=by
   intro x hx y hy
   rcases hr with hr | ⟨hr,x0,y0,hx0,hy0,hlt⟩
   ·rcases hsr with ⟨_,hrm,_⟩ | ⟨_,hrm,_⟩
    ·rw[List.drop_of_length_le (by omega)] at hx;cases hx
    ·rw[show mid - s=0 by omega,List.take_zero] at hy;cases hy
   ·have h3:=Zl6 o aL hx0 hlt x hx
    have h4:=Zo3 o aQ hy0 h3
    rw[show mid - 1 - s+1=mid - s by omega] at h4
    exact h4 y hy
  have p2:∀x∈L.take (s - a),∀y∈Q.drop (mid - s),ltC cf y x=false:=by
   intro x hx y hy
   rcases hs with hs | ⟨hs,x0,y0,hx0,hy0,hlt⟩
   ·rcases hsr with ⟨hsx,_,_⟩ | ⟨hsx,_,_⟩
    ·rw[show s - a=0 by omega,List.take_zero] at hx;cases hx
    ·rw[List.drop_of_length_le (by omega)] at hy;cases hy
   ·have h3:=Zqm o aQ hy0 hlt y hy
    have h4:=Zov o aL hx0 h3
    rw[show s - 1 - a+1=s - a by omega] at h4
    exact h4 x hx
  have hmg:mg (ltC cf) L Q=mg (ltC cf) (L.take (s - a)) (Q.take (mid - s))++mg (ltC cf) (L.drop (s - a)) (Q.drop (mid - s)):=by
   conv=>lhs;rw[←List.take_append_drop (s - a) L,←List.take_append_drop (mid - s) Q]
   exact ZiE p1 p2
  have aL':Asc (ltC cf) (L.take (s - a)++L.drop (s - a)):=by rw[List.take_append_drop];exact aL
  have aQ':Asc (ltC cf) (Q.take (mid - s)++Q.drop (mid - s)):=by rw[List.take_append_drop];exact aQ
  have hLe:L=L.take (s - a)++L.drop (s - a):=(List.take_append_drop _ _).symm
  have hQe:Q=Q.take (mid - s)++Q.drop (mid - s):=(List.take_append_drop _ _).symm
  rw[hmg] at hk
  have h3:Sat e w (DK v (P++(L.take (s - a)++L.drop (s - a))++(Q.take (mid - s)++Q.drop (mid - s))++S)::R):=by rw[←hLe,←hQe];exact h2
  clear hs hr p1 p2 hmg h2 hLe hQe
  generalize L.take (s - a)=L1 at*
  generalize L.drop (s - a)=L2 at*
  generalize Q.take (mid - s)=Q1 at*
  generalize Q.drop (mid - s)=Q2 at*
  refine Zdh (by omega) (by omega) ?_
  refine Zvt ?_
  refine J0.cut (λw=>Sat e w (DK v (P++L1++Q1++L2++Q2++S)::R)) (λk7 hcut=>?_) ?_
  ·refine Zt1 (λc5=>?_) (λc5=>hcut _ ?_)
   ·refine Zv2 (P:=P++L1) (A:=L2) (B:=Q1) (S:=Q2++S) (by rw[List.length_append];omega) (by rw[List.length_append];omega) (by rw[List.length_append];omega) (by omega) (by omega) (by simp only[List.length_append];omega) (by simpa using h3) λw5 h5=>?_
    exact hcut _ (by simpa using h5)
   ·have:L2=[]∨Q1=[]:=by
     by_cases h:s<m
     ·exact .inr (List.length_eq_zero_iff.1 (by omega))
     ·exact .inl (List.length_eq_zero_iff.1 (by omega))
    rcases this with h | h <;> subst h <;> simpa using h3
  intro w5 h5
  refine Zvt ?_
  refine J0.cut (λw=>Sat e w (DK v (P++mg (ltC cf) L1 Q1++L2++Q2++S)::R)) (λk8 hcut=>?_) ?_
  ·refine Zt1 (λc5=>?_) (λc5=>hcut _ ?_)
   ·refine ih (P:=P) (L:=L1) (Q:=Q1) (S:=L2++Q2++S) (by omega) ha (by omega) (by omega) (by omega) (by omega) (by simp only[List.length_append];omega) aL'.left aQ'.left (by simpa using h5) λw6 h6=>?_
    exact hcut _ (by simpa using h6)
   ·have:L1=[]∨Q1=[]:=by
     by_cases h:a<s
     ·exact .inr (List.length_eq_zero_iff.1 (by omega))
     ·exact .inl (List.length_eq_zero_iff.1 (by omega))
    rcases this with h | h
    ·subst h;rw[ZcI];simpa using h5
    ·subst h;rw[ZbO];simpa using h5
  intro w6 h6
  refine Zvt ?_
  refine Zt1 (λc5=>?_) (λc5=>hk _ ?_)
  ·refine ih (P:=P++mg (ltC cf) L1 Q1) (L:=L2) (Q:=Q2) (S:=S) (by omega) (by rw[List.length_append,Zjz];omega) (by rw[List.length_append,Zjz];omega) (by rw[List.length_append,Zjz];omega) (by omega) (by omega) (by simp only[List.length_append,Zjz];omega) aL'.right aQ'.right (by simpa using h6) λw7 h7=>?_
   exact hk _ (by simpa using h7)
  ·have:L2=[]∨Q2=[]:=by
    by_cases h:mid<mid+m - s
    ·exact .inr (List.length_eq_zero_iff.1 (by omega))
    ·exact .inl (List.length_eq_zero_iff.1 (by omega))
   rcases this with h | h
   ·subst h;rw[ZcI];simpa using h6
   ·subst h;rw[ZbO];simpa using h6
def srt (cf:Yz→Yz→Int) (B:List (List Yz)):List Yz:=(B.map (ZeY (ltC cf))).flatten
theorem Zcc (B:List (List Yz)):(srt cf B).length=B.flatten.length:=by
 induction B with
 | nil=>rfl
 | cons b B ih=>simp only[srt,List.map_cons,List.flatten_cons,List.length_append,Yw] at ih ⊢;rw[ih]
theorem Zna (A B:List (List Yz)):srt cf (A++B)=srt cf A++srt cf B:=by simp[srt]
theorem Zi0 (b:List Yz) (B:List (List Yz)):srt cf (b::B)=ZeY (ltC cf) b++srt cf B:=by simp[srt]
theorem Zsu {B:List (List Yz)} {k:Nat} (h:∀b∈B,b.length=k):B.flatten.length=B.length*k:=by
 induction B with
 | nil=>simp
 | cons b B ih=>rw[List.flatten_cons,List.length_append,h b List.mem_cons_self,ih λx hx=>h x (List.mem_cons_of_mem _ hx),List.length_cons,Nat.add_mul];omega
theorem ZwX (hc:Zvo e fv cf) (o:Zbr (ltC cf)) {l:List Yz} (hlen:l.length≤1000000) (hS:Sat e w (DK v l::R)) (hk:∀w',Sat e w' (DK v (ZeY (ltC cf) l)::R)→K (.tuple #[]) w') :
  Cl prog 133 #[v,.int .i64 (l.length:Int),fv] w K:=by
 refine ZbL ?_
 unfold Za0
 refine ZjF (λz t7 t8 w=>∃(B:List (List Yz)) (r:List Yz),l=B.flatten++r∧(∀b∈B,b.length=20)∧t7=.int .i64 (B.flatten.length:Int)∧t8=.int .i64 ((B.flatten.length+20:Nat):Int)∧z=r.length∧Sat e w (DK v (srt cf B++r)::R)) l.length
  ⟨[],l,rfl,(λ_ h=>by cases h),rfl,rfl,rfl,hS⟩ ?_
 rintro z _ _ w g ⟨B,r,hl,hB,rfl,rfl,rfl,h1⟩ hg
 have hll:l.length=B.flatten.length+r.length:=by rw[hl,List.length_append]
 refine ZFH (λc1=>Zi ?_) (λc1=>Zf ?_)
 ·have hr20:20≤r.length:=by omega
  have htl:(r.take 20).length=20:=by rw[List.length_take];omega
  refine Zmq hc o (P:=srt cf B) (X:=r.take 20) (S:=r.drop 20) (Zcc B).symm (by rw[Zcc,htl]) (by simp only[List.length_append,List.length_take,List.length_drop,Zcc];omega) (by simpa using h1) λw2 h2=>?_
  refine Zb9 (b:=20) (by omega) ?_
  refine hg _ _ _ _ (by rw[List.length_drop];omega) ⟨B++[r.take 20],r.drop 20,by rw[hl];simp,λb hb=>?_,?_,?_,rfl,?_⟩
  ·rcases List.mem_append.1 hb with h | h
   ·exact hB b h
   ·rw[List.mem_singleton.1 h];exact htl
  ·rw[List.flatten_append,List.length_append];simp[htl]
  ·rw[List.flatten_append,List.length_append];simp[htl]
  ·rw[Zna,Zi0]
   simpa [srt] using h2
 ·have hr20:r.length<20:=by omega
  refine Zmq hc o (P:=srt cf B) (X:=r) (S:=[]) (Zcc B).symm (by rw[Zcc,hll]) (by simp only[List.length_append,Zcc,List.length_nil];omega) (by simpa using h1) λw2 h2=>?_
  rw[List.append_nil] at h2
  refine Zdk (λz t6 w=>∃(bs:Nat) (B:List (List Yz)) (r:List Yz),l=B.flatten++r∧0<bs∧bs≤2000000∧(∀b∈B,b.length=bs)∧r.length<bs∧t6=.int .i64 (bs:Int)∧z=l.length - bs∧Sat e w (DK v (srt cf B++ZeY (ltC cf) r)::R)) (l.length - 20)
   ⟨20,B,r,hl,by decide,by decide,hB,hr20,rfl,rfl,h2⟩ ?_
  clear hl hB hr20 hll h1 h2 hg c1
  rintro z _ w g2 ⟨bs,B,r,hl,hbs,hbs2,hB,hr,rfl,rfl,h1⟩ hg2
  have hll:l.length=B.flatten.length+r.length:=by rw[hl,List.length_append]
  refine Zpd (λc2=>Zi ?_) (λc2=>Zf ?_)
  ·refine Zp5 (a:=2) (by omega) ?_
   refine ZjF (λz t7 t8 w=>∃(D B:List (List Yz)),l=D.flatten++B.flatten++r∧(∀b∈D,b.length=2*bs)∧(∀b∈B,b.length=bs)∧t7=.int .i64 (D.flatten.length:Int)∧t8=.int .i64 ((D.flatten.length+2*bs:Nat):Int)∧z=B.length∧
     Sat e w (DK v (srt cf D++srt cf B++ZeY (ltC cf) r)::R)) B.length
    ⟨[],B,by simpa using hl,(λ_ h=>by cases h),hB,rfl,by simp,rfl,h1⟩ ?_
   clear hl hB hll h1
   rintro z _ _ w g3 ⟨D,B,hl,hD,hB,rfl,rfl,rfl,h1⟩ hg3
   have hll:l.length=D.flatten.length+B.flatten.length+r.length:=by rw[hl,List.length_append,List.length_append]
   have hBl:=Zsu hB
   refine ZFH (λc3=>Zi ?_) (λc3=>Zf ?_)
   ·-- two blocks more
    obtain ⟨X,Y,B',rfl⟩:∃X Y B',B=X::Y::B':=by
     match B with
     | []=>simp only[List.length_nil] at hBl;omega
     | [X]=>simp only[List.length_cons,List.length_nil] at hBl;omega
     | X::Y::B'=>exact ⟨X,Y,B',rfl⟩
    have hXl:X.length=bs:=hB X (by simp)
    have hYl:Y.length=bs:=hB Y (by simp)
    rw[List.flatten_cons,List.flatten_cons,List.length_append,List.length_append] at hll
    refine Zb9 (by omega) ?_
    refine Zm9 hc o _ (P:=srt cf D) (L:=ZeY (ltC cf) X) (Q:=ZeY (ltC cf) Y) (S:=srt cf B'++ZeY (ltC cf) r) (Nat.le_refl _) (Zcc D).symm (by rw[Zcc,Yw];omega) (by rw[Zcc,Yw,Yw];omega)
     (by rw[Yw];omega) (by rw[Yw];omega) (by simp only[List.length_append,Zcc,Yw];omega) (Zf5 o _) (Zf5 o _) (by rw[Zi0,Zi0] at h1;simpa using h1) λw4 h4=>?_
    refine Zp5 (a:=2) (by omega) (Zb9 (by omega) ?_)
    refine hg3 _ _ _ _ (by simp only[List.length_cons];omega) ⟨D++[X++Y],B',by rw[hl];simp,λb hb=>?_,λb hb=>hB b (by simp[hb]),?_,?_,rfl,?_⟩
    ·rcases List.mem_append.1 hb with h | h
     ·exact hD b h
     ·rw[List.mem_singleton.1 h,List.length_append];omega
    ·rw[List.flatten_append,List.length_append];simp[hXl,hYl];omega
    ·rw[List.flatten_append,List.length_append];simp[hXl,hYl];omega
    ·rw[Zna,Zi0,Zep o]
     simpa [srt] using h4
   ·-- at most one block more
    refine Zb9 (by omega) (ZwL ?_)
    refine J0.cut (λw=>∃r',l=D.flatten++r'∧r'.length<2*bs∧Sat e w (DK v (srt cf D++ZeY (ltC cf) r')::R)) (λk4 hcut=>?_) ?_
    ·refine Zt1 (λc4=>?_) (λc4=>hcut _ ?_)
     ·obtain ⟨X,rfl⟩:∃X,B=[X]:=by
       match B with
       | []=>simp only[List.length_nil] at hBl;omega
       | [X]=>exact ⟨X,rfl⟩
       | X::Y::B'=>simp only[List.length_cons,Nat.add_mul] at hBl;omega
      have hXl:X.length=bs:=hB X (by simp)
      simp only[List.flatten_cons,List.flatten_nil,List.append_nil] at hll hl
      refine Zm9 hc o _ (P:=srt cf D) (L:=ZeY (ltC cf) X) (Q:=ZeY (ltC cf) r) (S:=[]) (Nat.le_refl _) (Zcc D).symm (by rw[Zcc,Yw];omega) (by rw[Zcc,Yw,Yw];omega)
       (by rw[Yw];omega) (by rw[Yw];omega) (by simp only[List.length_append,Zcc,Yw,List.length_nil];omega) (Zf5 o _) (Zf5 o _) (by rw[Zi0] at h1;simpa [srt] using h1) λw4 h4=>?_
      refine hcut _ ⟨X++r,by rw[hl];simp,by rw[List.length_append];omega,?_⟩
      rw[Zep o]
      simpa using h4
     ·match B,hB,hl,hll,hBl,h1 with
      | [],hB,hl,hll,hBl,h1=>exact ⟨r,by simpa using hl,by omega,by simpa [srt] using h1⟩
      | [X],hB,hl,hll,hBl,h1=>
       have hXl:X.length=bs:=hB X (by simp)
       simp only[List.flatten_cons,List.flatten_nil,List.append_nil] at hll
       have hr0:r=[]:=List.length_eq_zero_iff.1 (by omega)
       subst hr0
       exact ⟨X,by simpa using hl,by omega,by simpa [srt,ZeY] using h1⟩
      | X::Y::B',hB,hl,hll,hBl,h1=>simp only[List.length_cons,Nat.add_mul] at hBl;omega
    ·rintro w5 ⟨r',hl',hr',h5⟩
     refine Zp5 (b:=2) (by omega) ?_
     exact hg2 _ _ _ (by omega) ⟨bs*2,D,r',hl',by omega,by omega,λb hb=>by rw[hD b hb];omega,by omega,rfl,rfl,h5⟩
  ·have hBl:=Zsu hB
   refine hk _ ?_
   match B,hB,hl,hll,hBl,h1 with
   | [],hB,hl,hll,hBl,h1=>rw[show l=r by simpa using hl];simpa [srt] using h1
   | [X],hB,hl,hll,hBl,h1=>
    have hXl:X.length=bs:=hB X (by simp)
    simp only[List.flatten_cons,List.flatten_nil,List.append_nil] at hll
    have hr0:r=[]:=List.length_eq_zero_iff.1 (by omega)
    subst hr0
    rw[show l=X by simpa using hl]
    simpa [srt,ZeY] using h1
   | X::Y::B',hB,hl,hll,hBl,h1=>simp only[List.length_cons,Nat.add_mul] at hBl;omega
theorem Zpw {S:HP} (hc:Zvo e fv cf) (o:Zbr (ltC cf)) {l:List Yz} (hlen:l.length≤1000000) (hS:Sat e w (DK v l::S::R)) (hk:∀w',Sat e w' (DK v (ZeY (ltC cf) l)::S::R)→K (.tuple #[]) w') :
  Cl prog 126 #[v,fv] w K:=by
 refine ZaO ?_
 unfold Zad
 refine Zt hS 0 rfl (λ_=>Zp) ?_
 exact ZwX hc o hlen hS hk
theorem ZyG {b:Nat} {k:Key} {x:Yz} (hS:Sat e w (blk b 38 k.cs::R)) (hk:∀w',Sat e w' (blk b 38 k.cs::R)→K (.bool (decide (0≤ZeU x.cause k))) w') :
  clV prog (.func (.func 239) #[] #[.pointer (some ⟨b,0,none⟩)]) #[.agg x.cs.toArray] w K:=by
 refine ⟨_,_,_,rfl,?_⟩
 refine Ze4 (t0:=.agg x.cs.toArray) (t1:=.pointer (some ⟨b,0,none⟩)) ?_
 unfold ZeJ
 refine Yp (cs:=x.cs) hS rfl λb2 w1 h1=>?_
 refine Za ?_
 refine Zo h1 0 (vs:=x.cause.cs) rfl (by rfl) rfl ?_
 refine Zo h1 1 (vs:=k.cs) rfl (by rfl) rfl ?_
 refine Zcr h1 λw2 h2=>?_
 refine ZGo ?_
 exact hk _ h2.drop
def Zqc (k:Key) (x:Yz):Bool:=decide (0≤ZeU x.cause k)
theorem Zq2 {g:Nat} {fl:Int} {l:List Yz} (k:Key) (hS:Sat e w (Yo g fl l::R)) (hl:l.length≤1000000)
  (hk:∀v w',Sat e w' (Zz 40 6 Msg.cs v ((l.filter (Zqc k)).map Yz.m)::Yo g fl (l.filter λx=>!Zqc k x)::R)→K v w'):Cl prog 233 #[.pointer (some ⟨g,0,none⟩),.agg k.cs.toArray] w K:=by
 refine Zgp ?_
 unfold ZgZ
 refine Yp (cs:=k.cs) hS rfl λb3 w1 h1=>?_
 refine Zmp (Zqc k) h1.swap hl (λw R K x h hk=>ZyG h hk) λv' w2 h2=>?_
 refine ZjM h2 (λ_=>Zp) (Nat.le_trans (List.length_filter_le _ _) hl) λv3 w3 h3=>?_
 exact hk _ _ (h3.selR [_,_,_,_] [_,_] [0,2] (by decide) rfl)
def cfK (x y:Yz):Int:=ZeU x.cause y.cause
theorem ZtJ {x y:Yz}:ltC cfK x y=true↔Zv x.cause y.cause:=by
 unfold ltC cfK
 rw[decide_eq_true_eq]
 exact Zav
theorem ZrW {x y:Yz}:ltC cfK x y=false↔¬Zv x.cause y.cause:=by
 rw[←ZtJ]
 cases ltC cfK x y <;> simp
theorem ZrK:Zbr (ltC cfK) where
 asymm a b h:=ZrW.2 (ZtJ.1 h).asymm
 trans a b c h k:=by
  rw[ZrW] at h k ⊢
  intro hca
  rcases Zv.tri a.cause b.cause with h1 | h1 | h1
  ·exact k (hca.trans h1)
  ·rw[h1] at hca;exact k hca
  ·exact h h1
def Zo4 (t:Int) (x:Yz):Bool:=decide (x.cause.T<t)
def Zs6 (l:List Yz) (t:Int):List Yz:=ZeY (ltC cfK) (l.filter (Zo4 t))
def ZwV (l:List Yz) (t:Int):List Yz:=l.filter λx=>!Zo4 t x
theorem Zy5 {b:Nat} {t:Int} {x:Yz} (hS:Sat e w (blk b 3 [.int .i64 t]::R)) (hk:∀w',Sat e w' (blk b 3 [.int .i64 t]::R)→K (.bool (Zo4 t x)) w') :
  clV prog (.func (.func 125) #[] #[.pointer (some ⟨b,0,none⟩)]) #[.agg x.cs.toArray] w K:=by
 refine ⟨_,_,_,rfl,?_⟩
 refine ZeS (t0:=.agg x.cs.toArray) (t1:=.pointer (some ⟨b,0,none⟩)) ?_
 unfold ZeA
 refine Yp (cs:=x.cs) hS rfl λb2 w1 h1=>?_
 refine Za (Za ?_)
 refine Zb h1 0 rfl (v:=.int .i64 x.cause.T) rfl ?_
 refine Zb h1 1 rfl (v:=.int .i64 t) rfl ?_
 refine ZwL ?_
 exact hk _ h1.drop
theorem Zyi:Zvo e (.func (.func 127) #[] #[]) cfK:=by
 intro w R K x y hS hk
 refine ⟨_,_,_,rfl,?_⟩
 refine ZeR (t0:=.agg x.cs.toArray) (t1:=.agg y.cs.toArray) ?_
 unfold ZeD
 refine Yp (cs:=x.cs) hS rfl λb2 w1 h1=>?_
 refine Yp (cs:=y.cs) h1 rfl λb3 w2 h2=>?_
 refine Za (Zo h2 1 (vs:=x.cause.cs) rfl (by rfl) rfl ?_)
 refine Za (Zo h2 0 (vs:=y.cause.cs) rfl (by rfl) rfl ?_)
 exact Zcr h2 λw3 h3=>hk _ h3.drop.drop
theorem ZqO {g:Nat} {fl:Int} {l:List Yz} (t:Int) (hS:Sat e w (Yo g fl l::R)) (hl:l.length≤1000000)
  (hk:∀v w',Sat e w' (Zz 40 6 Msg.cs v ((Zs6 l t).map Yz.m)::Yo g (max fl t) (ZwV l t)::R)→K v w'):Cl prog 116 #[.pointer (some ⟨g,0,none⟩),.int .i64 t] w K:=by
 refine ZgO ?_
 unfold Zhk
 refine Yp (cs:=[.int .i64 t]) hS rfl λb3 w1 h1=>?_
 refine Zmp (Zo4 t) h1.swap hl (λw R K x h hk=>Zy5 h hk) λv' w2 h2=>?_
 have hfl:=List.length_filter_le (Zo4 t) l
 refine Zpw Zyi ZrK (by omega) h2 λw3 h3=>?_
 refine ZaY h3 λw4 h4=>?_
 obtain ⟨v,h5⟩:=(h4.selR [_,_,_] [_,_,_] [1,0,2] (by decide) rfl).ex
 have h6:=h5.split
 refine Zh (Za (Zb h6 0 rfl (v:=.int .i64 fl) rfl ?_))
 refine Zb h6 3 rfl (v:=.int .i64 t) rfl ?_
 refine ZwQ ?_
 refine Zh (Za ?_)
 refine Zq h6 0 rfl (vs:=[.int .i64 (max fl t)]) rfl rfl (Nat.le_of_ble_eq_true rfl) (by simp[flat]) (cs':=[.int .i64 (max fl t),v]) rfl λw5 h7=>?_
 have h8:Sat e w5 (DK v' (Zs6 l t)::Yo g (max fl t) (ZwV l t)::blk b3 3 [.int .i64 t]::R):=
  Sat.swap (.mk_ex v (.join (l':=[_,_]) (h7.selR [_,_,_,_] [_,_,_,_] [0,1,2,3] (by decide) rfl)))
 refine ZjM h8 (λ_=>Zp) (by unfold Zs6;rw[Yw];omega) λv3 w6 h9=>?_
 exact hk _ _ (h9.selR [_,_,_,_] [_,_] [0,2] (by decide) rfl)
structure Ins (G:List Yz) (x:Yz) (i:Nat) (d:Bool) (c:List Yz):Prop where
 no:d=false→c=G.take i∧∀z∈G.take i,ltC cfK x z=false
 yes:d=true→∃p y,p<i∧G[p]?=some y∧ltC cfK x y=true∧(∀z∈G.take p,ltC cfK x z=false)∧c=G.take p++x::(G.take i).drop p
theorem Ins.len {G:List Yz} {x:Yz} {i:Nat} {d:Bool} {c:List Yz} (h:Ins G x i d c) (_hi:i≤G.length):c.length≤i+1:=by
 cases d with
 | false=>rw[(h.no rfl).1,List.length_take];omega
 | true=>
  obtain ⟨p,y,hp,_,_,_,rfl⟩:=h.yes rfl
  simp only[List.length_append,List.length_cons,List.length_take,List.length_drop]
  omega
theorem Ins.done {G:List Yz} {x:Yz} {c:List Yz} (h:Ins G x G.length true c) (ha:Asc (ltC cfK) G):c=mg (ltC cfK) G [x]:=by
 obtain ⟨p,y,hp,hy,hxy,hlo,rfl⟩:=h.yes rfl
 rw[List.take_length]
 have hhi:=Zl6 ZrK ha hy hxy
 have:=ZnU hlo hhi
 rw[List.take_append_drop] at this
 exact this.symm
theorem Ins.push {G:List Yz} {x:Yz} {c:List Yz} (h:Ins G x G.length false c):c++[x]=mg (ltC cfK) G [x]:=by
 obtain ⟨rfl,hlo⟩:=h.no rfl
 rw[List.take_length] at hlo ⊢
 have:=ZnU (lt:=ltC cfK) (y:=x) (L1:=G) (L2:=[]) hlo (λ_ h=>by cases h)
 rw[List.append_nil] at this
 exact this.symm
variable {L Q:List HP} {S S2:HP}
abbrev DE (v:Value) (xs:List EnX):HP:=Zz 227 10 EnX.cs v xs
theorem Zoz {v:Value} {l:List EnX} (i:Nat) (hi:L[i]?=some S) (hl:l.length≤1000000) (hff:∀x∈l,flat x.ov=true) (hS:Sat e w L) (hr:∀g,S g→rdS 10 EnX.cs v l g)
  (hk:∀v' w',Sat e w' (DE v' l::L)→K v' w'):Cl prog 123 #[v] w K:=by
 refine Zbo ?_
 unfold ZaI
 have h0:=hS.pick i hi
 obtain ⟨A,c,rfl,_⟩:=h0.shape 0 rfl hr
 cases A with
 | none=>
  refine Yn (w':=w) (v:=.bool true) (by kernel_rfl) ?_
  obtain rfl:=ZlK h0 hr
  exact Zi (hk _ _ (Zlu hi (h0.own_nil 227 10 EnX.cs)))
 | some a=>
  refine Yn (w':=w) (v:=.bool false) (by kernel_rfl) ?_
  refine Zf ?_
  refine Zw3 h0 EnX.cs λv1 w2 h2=>?_
  refine Zcs ZPn Zrn (f:=EnX.cs) (λ_=>rfl) (λx hx=>EnX.flat (hff x hx)) h2 hr (by simp;omega) λv2 w3 h3=>?_
  rw[List.nil_append] at h3
  exact hk _ _ (Zlu hi h3)
theorem ZtE {v:Value} {xs:List EnX} (hl:xs.length≤1000000) (hff:∀x∈xs,flat x.ov=true) (hS:Sat e w (DE v xs::Q)) (hk:∀w',Sat e w' (DE v xs.reverse::Q)→K (.tuple #[]) w') :
  Cl prog 238 #[v] w K:=by
 refine Zbe ?_
 unfold Zax
 refine Zt hS 0 rfl (λ_=>Zp) ?_
 refine ZoJ (by omega) (by omega) ?_
 refine ZjF (λq t2 t3 w=>∃(i:Nat) (l:List EnX),2*i≤xs.length∧t2=.int .i64 i∧t3=.int .i64 ((xs.length:Int) - 1 - i)∧q=xs.length - i∧l.length=xs.length∧(∀p,p<xs.length→l[p]?=if p<i∨xs.length≤p+i then xs[xs.length - 1 - p]? else xs[p]?)∧Sat e w (DE v l::Q)) xs.length
  ⟨0,xs,by omega,rfl,by rw[Int.natCast_zero,Int.sub_zero],rfl,rfl,λp hp=>by rw[if_neg (by omega)],hS⟩ ?_
 rintro q _ _ w g ⟨i,l,hi2,rfl,rfl,rfl,hl2,hget,h2⟩ hg
 refine Za7 (λc=>Zi ?_) (λc=>Zf ?_)
 ·obtain ⟨j,hj⟩:∃j:Nat,(xs.length:Int) - 1 - i=j:=⟨xs.length - 1 - i,by omega⟩
  rw[hj] at c ⊢
  have hij:i<j:=by omega
  have hjl:j=xs.length - 1 - i:=by omega
  have gi:=hget i (by omega)
  have gj:=hget j (by omega)
  rw[if_neg (by omega)] at gi gj
  obtain ⟨x,hx⟩:=Zk (l:=xs) (j:=i) (by omega)
  obtain ⟨y,hy⟩:=Zk (l:=xs) (j:=j) (by omega)
  rw[hx] at gi
  rw[hy] at gj
  have fx:=hff x (List.mem_of_getElem? hx)
  have fy:=hff y (List.mem_of_getElem? hy)
  refine ZaY h2 λw3 h3=>?_
  refine Zw h3 0 rfl (λ_=>Zp) (λ_=>rfl) gj λa ha=>Ym h3 0 rfl ha rfl ?_
  refine Zw h3 0 rfl (λ_=>Zp) (λ_=>rfl) gi λa ha=>Ym h3 0 rfl ha rfl ?_
  refine ZdJ h3 0 rfl (λ_=>rfl) (by omega) (x:=y) rfl (EnX.flat fy) λw4 h4=>?_
  refine ZdJ h4 0 rfl (λ_=>rfl) (by rw[List.length_set];omega) (x:=x) rfl (EnX.flat fx) λw5 h5=>?_
  refine ZcD (by omega) (by omega) (ZoJ (by omega) (by omega) ?_)
  refine hg _ _ _ _ (by omega) ⟨i+1,(l.set i y).set j x,by omega,by rw[Int.natCast_add];rfl,by rw[←hj,Int.natCast_add];congr 1;omega,rfl,by rw[List.length_set,List.length_set];exact hl2,λp hp=>?_,h5⟩
  rw[List.getElem?_set,List.getElem?_set]
  by_cases h1:j=p
  ·subst h1
   rw[if_pos rfl,if_pos (by rw[List.length_set];omega),if_pos (by omega),show xs.length - 1 - j=i from by omega,hx]
  ·rw[if_neg h1]
   by_cases h6:i=p
   ·subst h6
    rw[if_pos rfl,if_pos (by omega),if_pos (by omega),←hjl,hy]
   ·rw[if_neg h6,hget p hp]
    by_cases h7:p<i∨xs.length≤p+i
    ·rw[if_pos h7,if_pos (by omega)]
    ·rw[if_neg h7,if_neg (by omega)]
 ·have he:l=xs.reverse:=by
   apply List.ext_getElem?
   intro p
   by_cases hp:p<xs.length
   ·rw[hget p hp,List.getElem?_reverse hp]
    by_cases h7:p<i∨xs.length≤p+i
    ·rw[if_pos h7]
    ·rw[if_neg h7]
     congr 1
     omega
   ·rw[List.getElem?_eq_none (by omega),List.getElem?_eq_none (by rw[List.length_reverse];omega)]
  rw[he] at h2
  exact hk _ h2
def Zmb (k:Key) (l:List En):List En:=l.filter λx=>decide (Zv x.m.key k)
def Zqh (k:Key) (l:List En):List En:=l.filter λx=>!decide (Zv x.m.key k)
def Zx0 (t:Int) (l:List En):List En:=l.filter λx=>decide (x.m.key.T<t)
def ZzN (t:Int) (l:List En):List En:=l.filter λx=>!decide (x.m.key.T<t)
theorem ZkM.sub {l l':List En} (h:ZkM l) (s:l'.Sublist l):ZkM l':=⟨h.up.sublist s,Nat.le_trans s.length_le h.len,λx hx=>h.outs x (s.subset hx)⟩
theorem Zx7 {P:En→Bool} {xs:List EnX} {l:List En} {m:Nat} (he:xs.map EnX.e=l) (h1:∀x∈xs.take m,P x.e=true) (h2:∀x∈xs.drop m,P x.e=false) :
  (xs.take m).map EnX.e=l.filter P∧(xs.drop m).map EnX.e=l.filter λx=>!P x:=by
 subst he
 constructor
 ·conv=>rhs;rw[←List.take_append_drop m xs]
  rw[List.map_append,List.filter_append,List.filter_eq_self.2 λx hx=>by obtain ⟨y,hy,rfl⟩:=List.mem_map.1 hx;exact h1 y hy,List.filter_eq_nil_iff.2 λx hx=>by obtain ⟨y,hy,rfl⟩:=List.mem_map.1 hx;rw[h2 y hy];decide,List.append_nil]
 ·conv=>rhs;rw[←List.take_append_drop m xs]
  rw[List.map_append,List.filter_append,List.filter_eq_nil_iff.2 λx hx=>by obtain ⟨y,hy,rfl⟩:=List.mem_map.1 hx;rw[h1 y hy];decide,List.filter_eq_self.2 λx hx=>by obtain ⟨y,hy,rfl⟩:=List.mem_map.1 hx;rw[h2 y hy];rfl,List.nil_append]
theorem ZEw {xs:List EnX} {l:List En} (he:xs.map EnX.e=l) (hp:ZkM l) {i j:Nat} {x y:EnX} (hij:i≤j) (hx:xs[i]?=some x) (hy:xs[j]?=some y):x=y∨Zv x.m.key y.m.key:=by
 rcases Nat.eq_or_lt_of_le hij with rfl | hlt
 ·rw[hx] at hy;exact .inl (Option.some.inj hy)
 ·right
  subst he
  have h1:=List.pairwise_map.1 hp.up
  obtain ⟨hi',rfl⟩:=List.getElem?_eq_some_iff.1 hx
  obtain ⟨hj',rfl⟩:=List.getElem?_eq_some_iff.1 hy
  exact List.pairwise_iff_getElem.1 h1 i j hi' hj' hlt
theorem Zq7 {p:Nat} {fl:Int} {l:List En} {k:Key} (hS:Sat e w (Yf p fl l::Q)) (hk:∀v w',Sat e w' (Zwo v (Zqh k l).reverse::Yf p fl (Zmb k l)::Q)→K v w') :
  Cl prog 232 #[.pointer (some ⟨p,0,none⟩),.agg k.cs.toArray] w K:=by
 refine ZgM ?_
 unfold Zg6
 obtain ⟨lv,xs,hp,h0⟩:=Zfr hS
 have hxl:xs.length≤64:=by have:=hp.2.len;rw[←hp.1,List.length_map] at this;exact this
 have hfl:∀x∈xs,flat x.ov=true:=λx hx=>ZlV 2 h0 rfl hx
 refine Yp (cs:=k.cs) h0 rfl λb w1 h1=>?_
 refine Zo h1 0 (vs:=k.cs) rfl (by rfl) rfl ?_
 refine Zyc (P:=λx=>decide (Zv x.m.key k)) hxl ⟨rfl,rfl⟩ (λi j x y hij hx hy hP=>?_) (λx w L K h hk=>Zsa x k h hk) (h1.selR [_,_,_,_] [_,_,_,_] [1,2,3,0] (by decide) rfl) λm w2 hm hlo hhi h2=>?_
 ·rw[decide_eq_true_iff] at*
  rcases ZEw hp.1 hp.2 hij hx hy with rfl | hlt
  ·exact hP
  ·exact hlt.trans hP
 obtain ⟨c1,c2⟩:=Zx7 (P:=λx=>decide (Zv x.m.key k)) hp.1 hlo hhi
 refine Zh (Za (Zb h2 0 rfl (v:=lv) rfl ?_))
 refine Zox h2 1 rfl (λ_=>Zp) (λ_=>rfl) hm λv1 hv1=>?_
 refine Zoz 1 rfl (by rw[List.length_drop];omega) (λx hx=>hfl x (List.mem_of_mem_drop hx)) h2 hv1 λv2 w3 h3=>?_
 refine ZtE (by rw[List.length_drop];omega) (λx hx=>hfl x (List.mem_of_mem_drop hx)) h3 λw4 h4=>?_
 refine Zh (Za (Zb h4 1 rfl (v:=lv) rfl ?_))
 refine ZuF h4 2 rfl (λ_=>rfl) hm λv3 h5=>?_
 replace h5:Sat e w4 (DE v2 (xs.drop m).reverse::blk p 178 [.int .i64 fl,lv]::DE v3 (xs.take m)::Yh (xs.map ZcP)::blk b 38 k.cs::Q):=h5
 have q3:=h5.own_cells 2 rfl
 refine Zh (Za (Zq h5 1 rfl (vs:=[v3]) q3.1 rfl (Nat.le_of_ble_eq_true rfl) (λc hc=>by rw[List.mem_singleton.1 hc];exact q3.2) (cs':=[.int .i64 fl,v3]) (by rfl) λw5 h6=>?_))
 replace h6:Sat e w5 (DE v2 (xs.drop m).reverse::blk p 178 [.int .i64 fl,v3]::DE v3 (xs.take m)::Yh (xs.map ZcP)::blk b 38 k.cs::Q):=h6
 rw[show xs.map ZcP=(xs.take m).map ZcP++(xs.drop m).map ZcP from by rw[←List.map_append,List.take_append_drop]] at h6
 have h7:=Zne (h6.pick 3 rfl)
 have h8:=Zt0 (b:=(xs.drop m).reverse.map ZcP) (by rw[List.map_reverse];exact (List.reverse_perm _).symm) h7.swap
 replace h8:Sat e w5 (Yh ((xs.drop m).reverse.map ZcP)::Yh ((xs.take m).map ZcP)::DE v2 (xs.drop m).reverse::blk p 178 [.int .i64 fl,v3]::DE v3 (xs.take m)::blk b 38 k.cs::Q):=h8
 have h9:=Zh1 (fl:=fl) (lv:=v3) (xs:=xs.take m) (l:=Zmb k l) ⟨c1,hp.2.sub List.filter_sublist⟩ (h8.selR [_,_,_,_,_,_] [_,_,_,_,_] [3,4,1,2,0] (by decide) rfl)
 have h10:=ZxK (v:=v2) (xs:=(xs.drop m).reverse) (h9.selR [_,_,_] [_,_,_] [1,2,0] (by decide) rfl)
 rw[show (xs.drop m).reverse.map EnX.e=(Zqh k l).reverse from by rw[List.map_reverse,c2];rfl] at h10
 exact hk _ _ h10
theorem Zoq {p:Nat} {fl:Int} {l:List En} {t:Int} (hS:Sat e w (Yf p fl l::Q)) (hk:∀v w',Sat e w' (Zwo v (Zx0 t l)::Yf p (max fl t) (ZzN t l)::Q)→K v w') :
  Cl prog 115 #[.pointer (some ⟨p,0,none⟩),.int .i64 t] w K:=by
 refine Ze3 ?_
 unfold Zey
 obtain ⟨lv,xs,hp,h1⟩:=Zfr hS
 have hxl:xs.length≤64:=by have:=hp.2.len;rw[←hp.1,List.length_map] at this;exact this
 have hfl:∀x∈xs,flat x.ov=true:=λx hx=>ZlV 2 h1 rfl hx
 refine Zaf (Yi [t,0,0]) (by kernel_rfl) ?_
 refine Zyc (k:=⟨t,0,0⟩) (P:=λx=>decide (x.m.key.T<t)) hxl ⟨rfl,rfl⟩ (λi j x y hij hx hy hP=>?_) (λx w L K h hk=>ZwO x ⟨t,0,0⟩ h hk) h1 λm w2 hm hlo hhi h2=>?_
 ·rw[decide_eq_true_iff] at*
  rcases ZEw hp.1 hp.2 hij hx hy with rfl | hlt
  ·exact hP
  ·unfold Zv at hlt;omega
 obtain ⟨c1,c2⟩:=Zx7 (P:=λx=>decide (x.m.key.T<t)) hp.1 hlo hhi
 refine Zh (Za (Zb h2 0 rfl (v:=lv) rfl ?_))
 refine ZD8 h2 1 rfl (λ_=>Zp) (λ_=>rfl) hm λv1 hv1=>?_
 refine Zoz 1 rfl (by rw[List.length_take];omega) (λx hx=>hfl x (List.mem_of_mem_take hx)) h2 hv1 λv2 w3 h3=>?_
 refine Zh (Za (Zb h3 1 rfl (v:=lv) rfl ?_))
 refine Zox h3 2 rfl (λ_=>Zp) (λ_=>rfl) hm λv3 hv3=>?_
 refine Zoz 2 rfl (by rw[List.length_drop];omega) (λx hx=>hfl x (List.mem_of_mem_drop hx)) h3 hv3 λv4 w4 h4=>?_
 have q4:=h4.own_cells 0 rfl
 refine Zh (Za (Zq h4 2 rfl (vs:=[v4]) q4.1 rfl (Nat.le_of_ble_eq_true rfl) (λc hc=>by rw[List.mem_singleton.1 hc];exact q4.2) (cs':=[.int .i64 fl,v4]) (by rfl) λw5 h5=>?_))
 refine Zh (Za (Zb h5 2 rfl (v:=.int .i64 fl) rfl (ZwQ ?_)))
 refine Zh (Za (Zq h5 2 rfl (vs:=Yi [max fl t]) rfl rfl (Nat.le_of_ble_eq_true rfl) (Zg _) (cs':=[.int .i64 (max fl t),v4]) (by rfl) λw6 h6=>?_))
 replace h6:Sat e w6 (DE v4 (xs.drop m)::DE v2 (xs.take m)::blk p 178 [.int .i64 (max fl t),v4]::DE lv xs::Yh (xs.map ZcP)::Q):=h6
 rw[show xs.map ZcP=(xs.take m).map ZcP++(xs.drop m).map ZcP from by rw[←List.map_append,List.take_append_drop]] at h6
 have h7:=Zne (h6.pick 4 rfl)
 replace h7:Sat e w6 (Yh ((xs.take m).map ZcP)::Yh ((xs.drop m).map ZcP)::DE v4 (xs.drop m)::DE v2 (xs.take m)::blk p 178 [.int .i64 (max fl t),v4]::DE lv xs::Q):=h7
 have h9:=Zh1 (fl:=max fl t) (lv:=v4) (xs:=xs.drop m) (l:=ZzN t l) ⟨c2,hp.2.sub List.filter_sublist⟩ (h7.selR [_,_,_,_,_,_] [_,_,_,_,_] [4,2,1,3,0] (by decide) rfl)
 have h10:=ZxK (v:=v2) (xs:=xs.take m) (h9.selR [_,_,_] [_,_,_] [1,2,0] (by decide) rfl)
 rw[c1] at h10
 exact hk _ _ h10
theorem ZE3 {op:BinOp} {t:TypeId} {xo yo:Operand} {x y v:Value} (h1:(eqGuard op t xo yo x y).run prog w=.ok () w) (h2:(binOp op t x y).run prog w=.ok v w) (hk:K v w):bO prog op t xo yo x y w K:=
 Yn (w':=w) (v:=v) (by simp only[Sem.run_bind,h1,Result.andThen_ok,h2]) hk
noncomputable def ZxI (t a:TypeId):Bool:=match prog.underlying a,prog.info? t,prog.info? a with
 | some (.interface want),some i,some j=>!(Go.lacking want i.methods).isEmpty&&(match j.zero with | some .nilIface=>true | _=>false)
 | _,_,_=>false
noncomputable def ZGN (t a:TypeId):Bool:=match prog.underlying a,prog.info? t with
 | some (.interface want),some i=>(Go.lacking want i.methods).isEmpty
 | _,_=>false
theorem Zjb {t a xt:TypeId} {v:Value} (h:ZxI t a=true) (hk:K (.tuple #[.nilIface,.bool false]) w):tyA prog (.iface t v) xt a true w K:=by
 unfold ZxI at h
 split at h
 ·rename_i want i j hu hi hj
  rw[Bool.and_eq_true] at h
  have hz:j.zero=some .nilIface:=by
   have:=h.2
   split at this
   ·assumption
   ·cases this
  refine Yn (w':=w) (v:=.tuple #[.nilIface,.bool false]) ?_ hk
  exact run_typeAssert_lacks hu hi hj hz λe=>by rw[e] at h;simp at h
 ·cases h
theorem ZyP {t a xt:TypeId} {v:Value} (h:ZGN t a=true) (hk:K (.tuple #[.iface t v,.bool true]) w):tyA prog (.iface t v) xt a true w K:=by
 unfold ZGN at h
 split at h
 ·rename_i want i hu hi
  refine Yn (w':=w) (v:=.tuple #[.iface t v,.bool true]) ?_ hk
  exact run_typeAssert_has hu hi (List.isEmpty_iff.1 h)
 ·cases h
theorem Zw0 (v:Value) (w:World):(Extern.ReflectliteType.typeOf #[.iface 30 v]).run prog w=.ok (.iface 338 (.agg #[typeHandle prog 30])) w:=by kernel_rfl
theorem Zxn {n:Value} (hk:K (.iface 338 (.agg #[typeHandle prog 30])) w):Cl prog 235 #[.iface 30 n] w K:=by
 have h8:=@run_callFunc_extern prog 235 _ Extern.ReflectliteType.typeOf Tryz.func235 (by kernel_rfl) (by kernel_rfl) (by kernel_rfl) (by kernel_rfl)
 have h9:ex prog (oV (pure (.iface 338 (.agg #[typeHandle prog 30])))) w K:=@Yn prog w K (pure (.iface 338 (.agg #[typeHandle prog 30]))) (.iface 338 (.agg #[typeHandle prog 30])) w (Sem.run_pure ..) hk
 have e9:(callFunc 235 #[.iface 30 n]).run prog w=(oV (pure (.iface 338 (.agg #[typeHandle prog 30])))).run prog w:=by
  rw[h8]
  unfold oV
  simp only[Sem.run_bind,Zw0,Result.andThen_ok,Sem.run_pure]
 exact @Zi5 prog w K _ _ e9 h9
theorem Zz5 {P:Program} {x r:Value} {name:String} {args:Array Value} {w:World} {K:KV} (h:(invoke (.fn (.method name) #[]) (#[x]++args)).run P w=.ok (.value r) w) (hk:K r w):clI P x name args w K:=by
 unfold clI ex
 rw[h]
 exact hk
theorem ZAF (w:World):(invoke (.fn (.method "Comparable") #[]) (#[.iface 338 (.agg #[typeHandle prog 30])]++#[])).run prog w=.ok (.value (.bool true)) w:=by kernel_rfl
theorem ZEJ (hk:K (.bool true) w):clI prog (.iface 338 (.agg #[typeHandle prog 30])) "Comparable" #[] w K:=
 @Zz5 prog (.iface 338 (.agg #[typeHandle prog 30])) (.bool true) "Comparable" #[] w K (ZAF w) hk
abbrev erV (t:Nat):Value:=.iface 325 (.pointer (some ⟨t,0,none⟩))
abbrev noV (n:Int):Value:=.iface 30 (.int .i64 n)
def BT (t:Nat) (k:Key) (er:Int):HP:=blk t 327 (k.cs++[noV er])
theorem Zu8 {n:Int} {xo yo:Operand} (hk:K (.bool false) w):bO prog .eql 305 xo yo (noV n) .nilIface w K:=Yn (w':=w) (v:=.bool false) (by kernel_rfl) hk
theorem Zzx {t:Nat} {xo yo:Operand} (hk:K (.bool false) w):bO prog .eql 305 xo yo (erV t) .nilIface w K:=Yn (w':=w) (v:=.bool false) (by kernel_rfl) hk
theorem Zus {t:Nat} {xo yo:Operand} (hk:K (.bool true) w):bO prog .neq 305 xo yo (erV t) .nilIface w K:=Yn (w':=w) (v:=.bool true) (by kernel_rfl) hk
theorem Zvk {a:Nat} (hk:K (.bool false) w):bO prog .neq 305 (.tmp a) (.const .nilIface) .nilIface .nilIface w K:=Yn (w':=w) (v:=.bool false) (by kernel_rfl) hk
theorem Zy7 {a:Nat} (hk:K (.bool true) w):bO prog .eql 305 (.tmp a) (.const .nilIface) .nilIface .nilIface w K:=Yn (w':=w) (v:=.bool true) (by kernel_rfl) hk
theorem ZFP {n:Int} {xo yo:Operand} (hk:K (.bool false) w):bO prog .eql 305 xo yo .nilIface (noV n) w K:=Yn (w':=w) (v:=.bool false) (by kernel_rfl) hk
theorem ZGg {t:Nat} {n:Int} {xo yo:Operand} (hk:K (.bool false) w):bO prog .eql 305 xo yo (erV t) (noV n) w K:=Yn (w':=w) (v:=.bool false) (by kernel_rfl) hk
theorem ZF9 {a b:Int} {xo yo:Operand} (hk:K (.bool (a==b)) w):bO prog .eql 305 xo yo (noV a) (noV b) w K:=
 ZE3 (by kernel_rfl) (Lib.run_eql_iface_int w a b Tryz.underlying305 (by kernel_rfl) Tryz.underlying30) hk
theorem ZIx {t:Nat} {k:Key} {er n:Int} (i:Nat) (hi:L[i]?=some (BT t k er)) (hS:Sat e w L) (hk:K (.bool (er==n)) w):Cl prog 236 #[erV t,noV n,.bool true] w K:=by
 refine Zl8 ?_
 unfold Zo6
 refine Zdk (λq x w'=>((q=1∧x=erV t)∨(q=0∧x=noV er))∧w'=w) 1 ⟨.inl ⟨rfl,rfl⟩,rfl⟩ ?_
 rintro q x w' g ⟨hx,rfl⟩ hg
 refine Ze (Ze (Ze ?_))
 rcases hx with ⟨rfl,rfl⟩ | ⟨rfl,rfl⟩
 ·refine ZGg (Yv (Zf ?_))
  refine Zjb (by kernel_rfl) (Zam (Zal ?_))
  refine Zu (Zu (Zu (Yd (Zf ?_))))
  refine ZyP (by kernel_rfl) (Zal (Zam (Zi ?_)))
  refine Zrj (f:=253) (rcv:=.pointer (some ⟨t,0,none⟩)) (by kernel_rfl) ?_
  refine ZdD (t0:=.pointer (some ⟨t,0,none⟩)) ?_
  unfold Zc7
  refine Zh (Za (Zb hS i hi (v:=noV er) rfl ?_))
  refine Zu8 (Zf ?_)
  exact hg _ _ _ (by omega) ⟨.inr ⟨rfl,rfl⟩,rfl⟩
 ·refine ZF9 (Yv ?_)
  cases hb:(er==n) with
  | true=>rw[hb] at hk;exact Zi hk
  | false=>
   rw[hb] at hk
   refine Zf (Zjb (by kernel_rfl) (Zam (Zal ?_)))
   refine Zu (Zu (Zu (Yd (Zf ?_))))
   refine Zjb (by kernel_rfl) (Zal (Zam (Zf ?_)))
   exact Zjb (by kernel_rfl) (Zal (Zam (Zf hk)))
theorem ZIp {t:Nat} {k:Key} {er n:Int} (i:Nat) (hi:L[i]?=some (BT t k er)) (hS:Sat e w L) (hk:K (.bool (er==n)) w):Cl prog 225 #[erV t,noV n] w K:=by
 refine Zfm ?_
 unfold Zlp
 refine Zzx (Zj (Zj (Zu8 (Yd (Zf ?_)))))
 exact Zxn (ZEJ (ZIx i hi hS hk))
theorem ZEu {n:Int} (hk:K (.bool false) w):Cl prog 225 #[.nilIface,noV n] w K:=by
 refine Zfm ?_
 unfold Zlp
 exact Zy7 (Zd (Zd (Yv (Zi (ZFP hk)))))
def ZtO (er:Int):Prop:=er=110∨er=3∨er=4∨er=2
theorem ZzY {t:Nat} {k:Key} {er:Int} (hS:Sat e w (BT t k er::Q)) (he:ZtO er) (hk:∀w',Sat e w' Q→K (.int .i64 er) w'):Cl prog 215 #[erV t] w K:=by
 refine ZeI ?_
 unfold Zkf
 refine Zfk (Yi [110,3,4,2]) hS (by kernel_rfl) λb w2 h2=>?_
 have hr:∀g,blk b 30 (Yi [110,3,4,2]) g→rdS 1 (Ye .i64) (.slice (some ⟨b,0,none⟩) 4 4) [110,3,4,2] g:=Zbx (f:=Ye .i64) [110,3,4,2] rfl (Nat.le_refl _)
 refine Zt h2 0 rfl hr ?_
 refine Zdk (λq x w'=>∃j:Nat,x=.int .i64 j∧j≤4∧q=4 - j∧(∀n∈[(110:Int),3,4,2].take j,n≠er)∧w'=w2) 4 ⟨0,rfl,by omega,rfl,by simp,rfl⟩ ?_
 rintro q x w' g ⟨j,rfl,hj,rfl,hno,rfl⟩ hg
 refine Za7 (λc=>Zi ?_) (λc=>Zf ?_)
 ·replace c:(j:Int)<4:=c
  obtain ⟨n,hn⟩:=Zk (l:=[(110:Int),3,4,2]) (j:=j) (by simp;omega)
  refine Zw h2 0 rfl hr (λ_=>rfl) hn λa ha=>Yt h2 0 rfl ha (v:=.int .i64 n) rfl ?_
  refine ZIp 1 rfl h2 ?_
  by_cases hen:er=n
  ·rw[beq_iff_eq.2 hen]
   refine Zi ?_
   rw[←hen]
   exact hk _ h2.drop.drop
  ·rw[beq_eq_false_iff_ne.2 hen]
   refine Zf (Yr (by omega) ?_)
   refine hg _ _ _ (by omega) ⟨j+1,rfl,by omega,rfl,λy hy=>?_,rfl⟩
   rw[Zx hn] at hy
   rcases List.mem_append.1 hy with h | h
   ·exact hno y h
   ·rw[List.mem_singleton.1 h];exact λh=>hen h.symm
 ·exfalso
  replace c:¬(j:Int)<4:=c
  have ej:j=4:=by omega
  subst ej
  rcases he with rfl | rfl | rfl | rfl
  ·exact hno 110 (by decide) rfl
  ·exact hno 3 (by decide) rfl
  ·exact hno 4 (by decide) rfl
  ·exact hno 2 (by decide) rfl
theorem Zvr (hS:Sat e w Q) (hk:∀w',Sat e w' Q→K (.int .i64 0) w'):Cl prog 215 #[.nilIface] w K:=by
 refine ZeI ?_
 unfold Zkf
 refine Zfk (Yi [110,3,4,2]) hS (by kernel_rfl) λb w2 h2=>?_
 have hr:∀g,blk b 30 (Yi [110,3,4,2]) g→rdS 1 (Ye .i64) (.slice (some ⟨b,0,none⟩) 4 4) [110,3,4,2] g:=Zbx (f:=Ye .i64) [110,3,4,2] rfl (Nat.le_refl _)
 refine Zt h2 0 rfl hr ?_
 refine Zdk (λq x w'=>∃j:Nat,x=.int .i64 j∧j≤4∧q=4 - j∧w'=w2) 4 ⟨0,rfl,by omega,rfl,rfl⟩ ?_
 rintro q x w' g ⟨j,rfl,hj,rfl,rfl⟩ hg
 refine Za7 (λc=>Zi ?_) (λc=>Zf (hk _ h2.drop))
 replace c:(j:Int)<4:=c
 obtain ⟨n,hn⟩:=Zk (l:=[(110:Int),3,4,2]) (j:=j) (by simp;omega)
 refine Zw h2 0 rfl hr (λ_=>rfl) hn λa ha=>Yt h2 0 rfl ha (v:=.int .i64 n) rfl ?_
 refine ZEu (Zf (Yr (by omega) ?_))
 exact hg _ _ _ (by omega) ⟨j+1,rfl,by omega,rfl,rfl⟩
theorem Zqi {k:Key} {er:Int} (hS:Sat e w Q) (hk:∀t w',Sat e w' (BT t k er::Q)→K (erV t) w'):Cl prog 221 #[.agg k.cs.toArray,.int .i64 er] w K:=by
 refine Zmd ?_
 unfold Zpt
 refine Yp (cs:=k.cs) hS rfl λb w1 h1=>?_
 refine Zo h1 0 (vs:=k.cs) rfl (by rfl) rfl ?_
 refine Zaf (k.cs++[noV er]) (by kernel_rfl) ?_
 refine Yp (cs:=k.cs++[noV er]) h1 rfl λt w2 h2=>?_
 exact hk t _ (h2.selR [_,_] [_] [0] (by decide) rfl)
structure Zan where
 (n begun over:Int) (T Rp:Nat→Int) (on0 on1 least value:Int)
def Zan.ns (c:Zan):List Int:=[c.n,c.begun,c.over,c.T 0,c.Rp 0,c.T 1,c.Rp 1,c.T 2,c.Rp 2,c.T 3,c.Rp 3,c.T 4,c.Rp 4,c.T 5,c.Rp 5,c.T 6,c.Rp 6,c.T 7,c.Rp 7,c.on0,c.on1,c.least,c.value]
def Zan.zero (n:Int):Zan:=⟨n,0,0,λ_=>0,λ_=>0,0,0,0,0⟩
def ZBt (f:Nat→Int) (i:Nat) (x:Int):Nat→Int:=λk=>if k=i then x else f k
def ZbI (g:Nat) (c:Zan):HP:=blk g 145 (Yi c.ns)
theorem Zlc (c:Zan):∀j,j<8→((Yi c.ns).drop (3+j*2)).take 2=Yi [c.T j,c.Rp j]
 | 0,_=>rfl | 1,_=>rfl | 2,_=>rfl | 3,_=>rfl | 4,_=>rfl | 5,_=>rfl | 6,_=>rfl | 7,_=>rfl
 | n+8,h=>by omega
theorem ZFL (c:Zan):∀j,j<8→(Yi c.ns)[3+j*2+0]?=some (.int .i64 (c.T j))
 | 0,_=>rfl | 1,_=>rfl | 2,_=>rfl | 3,_=>rfl | 4,_=>rfl | 5,_=>rfl | 6,_=>rfl | 7,_=>rfl
 | n+8,h=>by omega
theorem Zxs (c:Zan) (x:Int):∀j,j<8→wrL (Yi c.ns) (3+j*2+0) [.int .i64 x]=Yi (Zan.ns { c with T:=ZBt c.T j x })
 | 0,_=>rfl | 1,_=>rfl | 2,_=>rfl | 3,_=>rfl | 4,_=>rfl | 5,_=>rfl | 6,_=>rfl | 7,_=>rfl
 | n+8,h=>by omega
theorem Zv0 (c:Zan) (x:Int):∀j,j<8→wrL (Yi c.ns) (3+j*2+1) [.int .i64 x]=Yi (Zan.ns { c with Rp:=ZBt c.Rp j x })
 | 0,_=>rfl | 1,_=>rfl | 2,_=>rfl | 3,_=>rfl | 4,_=>rfl | 5,_=>rfl | 6,_=>rfl | 7,_=>rfl
 | n+8,h=>by omega
theorem ZdC (c:Zan):(Yi c.ns).length=23:=rfl
theorem ZuG {n:Int} (h1:1≤n) (h2:n≤8) (hS:Sat e w R) (hk:∀g w',Sat e w' (ZbI g (Zan.zero n)::R)→K (.tuple #[.pointer (some ⟨g,0,none⟩),.int .i64 0]) w'):Cl prog 21 #[.int .i64 n] w K:=by
 refine ZoD ?_
 unfold Zvg
 refine Ze7 (by omega) (Zj (Ze (Zle (by omega) (Yd (Zf ?_)))))
 rw[ZQy]
 refine Zaf (Yi (Zan.zero n).ns) (by kernel_rfl) ?_
 refine Yp (cs:=Yi (Zan.zero n).ns) hS rfl λg w2 h2=>?_
 exact hk _ _ h2
theorem ZjA {g:Nat} {c:Zan} {i:Int} (hS:Sat e w (ZbI g c::R)) (hk:K (.bool (decide (0≤i∧i<c.n))) w):Cl prog 85 #[.pointer (some ⟨g,0,none⟩),.int .i64 i] w K:=by
 refine Zk7 ?_
 unfold Zns
 refine Zu5 (λc1=>?_) (λc1=>?_)
 ·refine Ze (Ze (Ze (Zh (Ze (Za (Ze ?_))))))
  refine Zb hS 0 rfl (v:=.int .i64 c.n) rfl ?_
  refine Ze (ZwL ?_)
  refine Yv ?_
  rw[show decide (0≤i∧i<c.n)=decide (i<c.n) from by simp[c1]] at hk
  exact hk
 ·refine Zu (Zu (Zd (Zd (Zd (Zd (Yd ?_))))))
  rw[show decide (0≤i∧i<c.n)=false from by simp;omega] at hk
  exact hk
theorem Zel {g:Nat} {c:Zan} (hS:Sat e w (ZbI g c::R)) (hk:∀w',Sat e w' (ZbI g c::R)→K (.bool (decide (c.over<c.begun))) w'):Cl prog 84 #[.pointer (some ⟨g,0,none⟩)] w K:=by
 refine Zh7 ?_
 unfold Zjj
 refine ZaY hS λw1 h1=>?_
 refine Zh (Za ?_)
 refine Zb h1 0 rfl (v:=.int .i64 c.begun) rfl ?_
 refine Zh (Za ?_)
 refine Zb h1 0 rfl (v:=.int .i64 c.over) rfl ?_
 exact ZFJ (hk _ h1)
theorem Zrc {g:Nat} {c:Zan} (hS:Sat e w (ZbI g c::R)) (hk:K (.int .i64 c.value) w):Cl prog 92 #[.pointer (some ⟨g,0,none⟩)] w K:=by
 refine Zhn ?_
 unfold ZiR
 refine Zh (Za ?_)
 exact Zb hS 0 rfl (v:=.int .i64 c.value) rfl hk
theorem ZfD {g:Nat} {c:Zan} (hS:Sat e w (ZbI g c::R)) (hk:K (.int .i64 c.over) w):Cl prog 88 #[.pointer (some ⟨g,0,none⟩)] w K:=by
 refine ZgA ?_
 unfold ZgY
 refine Zh (Za ?_)
 exact Zb hS 0 rfl (v:=.int .i64 c.over) rfl hk
theorem Zo0 {g:Nat} {c:Zan} {i:Nat} (hi:i<8) (hin:(i:Int)<c.n) (hS:Sat e w (ZbI g c::R)) (hk:K (.int .i64 (c.T i % 2)) w):Cl prog 109 #[.pointer (some ⟨g,0,none⟩),.int .i64 i] w K:=by
 refine ZgH ?_
 unfold Zg2
 refine ZjA hS ?_
 rw[decide_eq_true (show 0≤(i:Int)∧(i:Int)<c.n from ⟨by omega,hin⟩)]
 refine ZaJ (Zf (Zh (Za ?_)))
 refine Zcb hi ?_
 refine Za ?_
 refine Zb hS 0 rfl (ZFL c i hi) ?_
 exact ZxU hk
theorem Zqy {g:Nat} {c:Zan} (hb:0≤c.begun∧c.begun≤1000000) (hS:Sat e w (ZbI g c::R))
  (hk:∀w',Sat e w' (ZbI g (if c.over<c.begun then c else { c with begun:=c.begun+1,least:=Inf })::R)→K (.int .i64 (if c.over<c.begun then 130 else 0)) w'):Cl prog 53 #[.pointer (some ⟨g,0,none⟩)] w K:=by
 refine Zh4 ?_
 unfold Ziu
 refine Zel hS λw1 h1=>?_
 by_cases hu:c.over<c.begun
 ·rw[if_pos hu,if_pos hu] at hk
  rw[decide_eq_true hu]
  exact Zi (hk _ h1)
 ·rw[if_neg hu,if_neg hu] at hk
  rw[decide_eq_false hu]
  refine Zf (Zh (Za ?_))
  refine Zb h1 0 rfl (v:=.int .i64 c.begun) rfl ?_
  refine ZcD (by omega) (by omega) ?_
  refine Zh (Za ?_)
  refine Zq h1 0 rfl (vs:=[.int .i64 (c.begun+1)]) rfl rfl (by rw[ZdC];decide) (by simp[flat]) (cs':=Yi (Zan.ns { c with begun:=c.begun+1 })) (by rfl) λw2 h2=>?_
  refine Zh (Za ?_)
  refine Zq h2 0 rfl (vs:=[.int .i64 Inf]) rfl rfl (by rw[ZdC];decide) (by simp[flat]) (cs':=Yi (Zan.ns { c with begun:=c.begun+1,least:=Inf })) (by rfl) λw3 h3=>?_
  exact hk _ h3
theorem Zou {t r q:Int} (hS:Sat e w R) (hk:∀w',Sat e w' R→K (.bool (decide (t=q))) w'):Cl prog 86 #[.agg (Yi [t,r]).toArray,.int .i64 q] w K:=by
 refine ZgN ?_
 unfold Zg5
 refine Yp (cs:=Yi [t,r]) hS rfl λb w1 h1=>?_
 refine Za ?_
 refine Zb h1 0 rfl (v:=.int .i64 t) rfl ?_
 exact ZBD (hk _ h1.drop)
theorem Znk {t r q:Int} (hS:Sat e w R) (hk:∀w',Sat e w' R→K (.bool (decide (r=q))) w'):Cl prog 112 #[.agg (Yi [t,r]).toArray,.int .i64 q] w K:=by
 refine Ze6 ?_
 unfold ZeB
 refine Yp (cs:=Yi [t,r]) hS rfl λb w1 h1=>?_
 refine Za ?_
 refine Zb h1 0 rfl (v:=.int .i64 r) rfl ?_
 exact ZBD (hk _ h1.drop)
def Zan.all (c:Zan) (p:Int→Int→Bool):Bool:=(List.range c.n.toNat).all λj=>p (c.T j) (c.Rp j)
theorem ZpV {g:Nat} {c:Zan} {fv:Value} (p:Int→Int→Bool) (hn:0≤c.n∧c.n≤8) (hS:Sat e w (ZbI g c::R))
  (hp:∀(w:World) (R:List HP) (K:KV) (t r:Int),Sat e w R→(∀w',Sat e w' R→K (.bool (p t r)) w')→clV prog fv #[.agg (Yi [t,r]).toArray,.int .i64 c.begun] w K)
  (hk:∀w',Sat e w' (ZbI g c::R)→K (.bool (c.all p)) w'):Cl prog 111 #[.pointer (some ⟨g,0,none⟩),fv] w K:=by
 obtain ⟨n,hn'⟩:∃n:Nat,c.n=n:=⟨c.n.toNat,by omega⟩
 refine Zkg ?_
 unfold ZlT
 refine ZaY hS λw1 h1=>?_
 refine Zh (Za (Zh (Za ?_)))
 refine Zb h1 0 rfl (v:=.int .i64 c.n) rfl ?_
 rw[hn']
 refine ZGk (n:=8) (e:=141) (by kernel_rfl) (i:=Tryz.t141) (by kernel_rfl) (by omega) ?_
 refine ⟨_,_,_,rfl,?_⟩
 refine Zdk (λm t16 w=>∃j:Nat,j≤n∧t16=.int .i64 j∧m=n - j∧(∀k,k<j→p (c.T k) (c.Rp k)=true)∧Sat e w (ZbI g c::R)) n
  ⟨0,Nat.zero_le _,rfl,rfl,λk hk=>by omega,h1⟩ ?_
 rintro m _ w g1 ⟨j,hj,rfl,rfl,hall,h2⟩ hg
 refine Za7 (λc2=>Zi ?_) (λc2=>Zf ?_)
 ·refine Zu3 (by omega) ?_
  refine Zo h2 0 rfl (Zlc c j (by omega)) rfl ?_
  rw[ZQl]
  refine Yp (cs:=Yi [0,0]) h2 rfl λb w3 h3=>?_
  refine Zq h3 0 rfl (vs:=Yi [c.T j,c.Rp j]) rfl rfl (by decide) (Zg _) (cs':=Yi [c.T j,c.Rp j]) (by rfl) λw4 h4=>?_
  refine ZaY h4 λw5 h5=>?_
  refine Zo h5 0 (vs:=Yi [c.T j,c.Rp j]) rfl (by rfl) rfl ?_
  refine Zh (Za ?_)
  refine Zb h5 1 rfl (v:=.int .i64 c.begun) rfl ?_
  refine hp _ _ _ _ _ h5.drop λw6 h6=>?_
  cases hpj:p (c.T j) (c.Rp j) with
  | true=>
   refine ZaJ (Zf ?_)
   refine Yr (by omega) ?_
   refine hg _ _ _ (by omega) ⟨j+1,by omega,rfl,rfl,λk hk=>?_,h6⟩
   by_cases hkj:k=j
   ·subst hkj;exact hpj
   ·exact hall k (by omega)
  | false=>
   refine Zch (Zi ?_)
   have hf:c.all p=false:=by
    unfold Zan.all
    rw[List.all_eq_false]
    exact ⟨j,List.mem_range.2 (by omega),by simp[hpj]⟩
   rw[hf] at hk
   exact hk _ h6
 ·have ht:c.all p=true:=by
   unfold Zan.all
   rw[List.all_eq_true]
   intro k hk
   have:=List.mem_range.1 hk
   exact hall k (by omega)
  rw[ht] at hk
  exact hk _ h2
def Zan.turnE (c:Zan) (i:Nat):Int:=if ¬c.over<c.begun∨c.T i=c.begun then 130 else 0
def Zan.turn (c:Zan) (i:Nat):Zan:=if ¬c.over<c.begun∨c.T i=c.begun then c else { c with T:=ZBt c.T i c.begun }
theorem Ztb {g:Nat} {c:Zan} {i:Nat} (hi:i<8) (hin:(i:Int)<c.n) (hS:Sat e w (ZbI g c::R)) (hk:∀w',Sat e w' (ZbI g (c.turn i)::R)→K (.int .i64 (c.turnE i)) w'):Cl prog 54 #[.pointer (some ⟨g,0,none⟩),.int .i64 i] w K:=by
 refine Zjr ?_
 unfold ZkB
 refine ZjA hS ?_
 rw[decide_eq_true (show 0≤(i:Int)∧(i:Int)<c.n from ⟨by omega,hin⟩)]
 refine ZaJ (Zf ?_)
 refine ZaY hS λw1 h1=>?_
 refine Zel h1 λw2 h2=>?_
 by_cases hu:c.over<c.begun
 ·rw[decide_eq_true hu]
  refine ZaJ (Zj (Zj (Zj (Zh (Zj (Za (Zj ?_)))))))
  refine Zcb hi ?_
  refine Zj (Zo h2 0 rfl (Zlc c i hi) rfl ?_)
  refine Zj (Zj (Zh (Zj (Za (Zj ?_)))))
  refine Zb h2 0 rfl (v:=.int .i64 c.begun) rfl ?_
  refine Zj (Zou h2 λw3 h3=>?_)
  by_cases ht:c.T i=c.begun
  ·rw[decide_eq_true ht]
   have e1:c.turnE i=130:=if_pos (.inr ht)
   have e2:c.turn i=c:=if_pos (.inr ht)
   rw[e1,e2] at hk
   refine Yd (Zi ?_)
   exact hk _ h3
  ·rw[decide_eq_false ht]
   have hn:¬(¬c.over<c.begun∨c.T i=c.begun):=by simp[hu,ht]
   have e1:c.turnE i=0:=if_neg hn
   have e2:c.turn i={ c with T:=ZBt c.T i c.begun }:=if_neg hn
   rw[e1,e2] at hk
   refine Yd (Zf (Zh (Za ?_)))
   have h4:=h3.drew
   refine Zb h4 0 rfl (v:=.int .i64 c.begun) rfl ?_
   refine Zh (Za ?_)
   refine Zcb hi ?_
   refine Za ?_
   refine Zq h4 0 rfl (vs:=[.int .i64 c.begun]) rfl rfl (by rw[ZdC];omega) (by simp[flat]) (Zxs c c.begun i hi) λw5 h5=>?_
   exact hk _ h5
 ·rw[decide_eq_false hu]
  have e1:c.turnE i=130:=if_pos (.inl hu)
  have e2:c.turn i=c:=if_pos (.inl hu)
  rw[e1,e2] at hk
  refine Zch (Zd (Zd (Zd (Zd (Zd (Zd (Zd (Zd (Zd (Zd (Zd (Yv (Zi ?_)))))))))))))
  exact hk _ h2
def Zan.on (c:Zan) (k:Int):Int:=if k=0 then c.on0 else c.on1
def Zan.early (c:Zan) (i:Nat):Prop:=¬c.over<c.begun∨c.all (λt _=>decide (t=c.begun))=false∨c.Rp i=c.begun
def Zan.rep1 (c:Zan) (i:Nat) (x:Int):Zan:={ c with Rp:=ZBt c.Rp i c.begun,least:=min c.least x }
def Zan.rep2 (c:Zan):Zan:=if c.all (λ_ r=>decide (r=c.begun))=true then { c with over:=c.begun,value:=max c.value c.least } else c
theorem ZEU (c:Zan) (a:Int):∃j:Nat,j<2∧a % 2=(j:Int)∧(Yi c.ns)[19+j*1]?=some (.int .i64 (c.on (a % 2))):=by
 rcases Int.emod_two_eq a with h | h
 ·exact ⟨0,by omega,h,by rw[h];rfl⟩
 ·exact ⟨1,by omega,h,by rw[h];rfl⟩
theorem Zo1 {g:Nat} {c:Zan} {i:Nat} {x:Int} (hn8:c.n≤8) (hi:i<8) (hin:(i:Int)<c.n) (hx:ZmY x) (hv:Yu x=true) (hS:Sat e w (ZbI g c::R))
  (h130:c.early i→∀w',Sat e w' (ZbI g c::R)→K (.int .i64 130) w')
  (h150:¬c.early i→0<c.on (c.over % 2)→∀w',Sat e w' (ZbI g c::R)→K (.int .i64 150) w')
  (h0:¬c.early i→¬0<c.on (c.over % 2)→∀w',Sat e w' (ZbI g (c.rep1 i x).rep2::R)→K (.int .i64 0) w'):Cl prog 89 #[.pointer (some ⟨g,0,none⟩),.int .i64 i,.int .i64 x] w K:=by
 refine ZgB ?_
 unfold Zha
 refine ZjA hS ?_
 rw[decide_eq_true (show 0≤(i:Int)∧(i:Int)<c.n from ⟨by omega,hin⟩)]
 refine ZaJ (Zj (Ze ?_))
 refine ZcO hx ?_
 rw[hv]
 refine Ze (ZaJ (Yd (Zf ?_)))
 refine ZaY hS λw1 h1=>?_
 refine Zel h1 λw2 h2=>?_
 by_cases hu:c.over<c.begun
 ·rw[decide_eq_true hu]
  refine ZaJ (Zj (Ze ?_))
  refine ZpV (λt _=>decide (t=c.begun)) ⟨by omega,hn8⟩ h2 (λw R K t r h hk=>⟨_,_,_,rfl,Zou h hk⟩) λw3 h3=>?_
  cases ha:c.all (λt _=>decide (t=c.begun)) with
  | false=>
   refine Zj (Zch (Yd (Zd (Zd (Zd (Zd (Zd (Zd (Zd (Zd (Zd (Zd (Zd (Yv (Zi ?_)))))))))))))))
   exact h130 (.inr (.inl ha)) _ h3
  | true=>
   refine Zj (ZaJ (Yd (Zj (Zj (Zj (Zh (Zj (Za (Zj ?_)))))))))
   refine Zcb hi ?_
   refine Zj (Zo h3 0 rfl (Zlc c i hi) rfl ?_)
   refine Zj (Zj (Zh (Zj (Za (Zj ?_)))))
   refine Zb h3 0 rfl (v:=.int .i64 c.begun) rfl ?_
   refine Zj (Znk h3 λw4 h4=>?_)
   by_cases ht:c.Rp i=c.begun
   ·rw[decide_eq_true ht]
    refine Yd (Zi ?_)
    exact h130 (.inr (.inr ht)) _ h4
   ·rw[decide_eq_false ht]
    have hne:¬c.early i:=by unfold Zan.early;rw[ha];simp[hu,ht]
    refine Yd (Zf (Zh (Za ?_)))
    have h5:=h4.drew
    refine Zb h5 0 rfl (v:=.int .i64 c.over) rfl ?_
    refine Zh (Za ?_)
    refine ZxU ?_
    obtain ⟨j,hj,hj2,hj3⟩:=ZEU c c.over
    rw[hj2]
    refine Zcb hj ?_
    refine Zb h5 0 rfl hj3 ?_
    refine Ztu (λc5=>Zi (h150 hne c5 _ h5)) (λc5=>Zf ?_)
    replace h0:=h0 hne c5
    refine ZaY h5 λw6 h6=>?_
    refine Zh (Za ?_)
    refine Zb h6 0 rfl (v:=.int .i64 c.begun) rfl ?_
    refine Zh (Za ?_)
    refine Zcb hi ?_
    refine Za ?_
    refine Zq h6 0 rfl (vs:=[.int .i64 c.begun]) rfl rfl (by rw[ZdC];omega) (by simp[flat]) (Zv0 c c.begun i hi) λw7 h7=>?_
    refine Zh (Za ?_)
    refine Zb h7 0 rfl (v:=.int .i64 c.least) rfl ?_
    refine Zty ?_
    refine Zh (Za ?_)
    refine Zq h7 0 rfl (vs:=[.int .i64 (min c.least x)]) rfl rfl (by rw[ZdC];decide) (by simp[flat]) (cs':=Yi (c.rep1 i x).ns) (by rfl) λw8 h8=>?_
    refine ZpV (c:=c.rep1 i x) (λ_ r=>decide (r=c.begun)) ⟨by show 0≤c.n;omega,hn8⟩ h8 (λw R K t r h hk=>⟨_,_,_,rfl,Znk h hk⟩) λw9 h9=>?_
    refine J0.cut (λw=>Sat e w (ZbI g (c.rep1 i x).rep2::R)) (λk1 hcut=>?_) (λw h=>h0 _ h)
    cases hb:(c.rep1 i x).all (λ_ r=>decide (r=c.begun)) with
    | false=>
     refine Zf (hcut _ ?_)
     have:(c.rep1 i x).rep2=c.rep1 i x:=if_neg (by show ¬(c.rep1 i x).all (λ_ r=>decide (r=c.begun))=true;rw[hb];decide)
     rw[this]
     exact h9
    | true=>
     have:(c.rep1 i x).rep2={ c.rep1 i x with over:=c.begun,value:=max c.value (min c.least x) }:=if_pos hb
     rw[this] at hcut
     refine Zi (Zh (Za ?_))
     refine Zb h9 0 rfl (v:=.int .i64 c.begun) rfl ?_
     refine Zh (Za ?_)
     refine Zq h9 0 rfl (vs:=[.int .i64 c.begun]) rfl rfl (by rw[ZdC];decide) (by simp[flat]) (cs':=Yi (Zan.ns { c.rep1 i x with over:=c.begun })) (by rfl) λw10 h10=>?_
     refine ZaY h10 λw11 h11=>?_
     refine Zh (Za ?_)
     refine Zb h11 0 rfl (v:=.int .i64 c.value) rfl ?_
     refine Zh (Za ?_)
     refine Zb h11 0 rfl (v:=.int .i64 (min c.least x)) rfl ?_
     refine ZwQ ?_
     refine Zh (Za ?_)
     refine Zq h11 0 rfl (vs:=[.int .i64 (max c.value (min c.least x))]) rfl rfl (by rw[ZdC];decide) (by simp[flat]) (cs':=Yi (Zan.ns { c.rep1 i x with over:=c.begun,value:=max c.value (min c.least x) })) (by rfl) λw12 h12=>?_
     exact hcut _ h12
 ·rw[decide_eq_false hu]
  refine Zch (Zd (Zd (Zd (Yv (Zd (Zd (Zd (Zd (Zd (Zd (Zd (Zd (Zd (Zd (Zd (Yv (Zi ?_)))))))))))))))))
  exact h130 (.inl hu) _ h2
def bl (b:Bool):List Value:=[.bool b]
def Zan.setOn (c:Zan) (k x:Int):Zan:=if k=0 then { c with on0:=x } else { c with on1:=x }
theorem Zqs (c:Zan) (a x:Int):∃j:Nat,j<2∧a % 2=(j:Int)∧(Yi c.ns)[19+j*1]?=some (.int .i64 (c.on (a % 2)))∧wrL (Yi c.ns) (19+j*1) [.int .i64 x]=Yi (c.setOn (a % 2) x).ns:=by
 rcases Int.emod_two_eq a with h | h
 ·exact ⟨0,by omega,h,by rw[h];rfl,by rw[h];rfl⟩
 ·exact ⟨1,by omega,h,by rw[h];rfl,by rw[h];rfl⟩
def Zan.sent (c:Zan) (i:Nat) (t:Int):Zan:=
 if c.over<c.begun∧c.T i=c.begun then { c.setOn (c.T i % 2) (c.on (c.T i % 2)+1) with least:=min c.least t } else c.setOn (c.T i % 2) (c.on (c.T i % 2)+1)
theorem Zan.setOn_begun (c:Zan) (k x:Int):(c.setOn k x).begun=c.begun:=by unfold Zan.setOn;split <;> rfl
theorem Zan.setOn_over (c:Zan) (k x:Int):(c.setOn k x).over=c.over:=by unfold Zan.setOn;split <;> rfl
theorem Zan.setOn_T (c:Zan) (k x:Int):(c.setOn k x).T=c.T:=by unfold Zan.setOn;split <;> rfl
theorem Zan.setOn_least (c:Zan) (k x:Int):(c.setOn k x).least=c.least:=by unfold Zan.setOn;split <;> rfl
theorem Zur (c:Zan):(Yi c.ns)[1]?=some (.int .i64 c.begun)∧(Yi c.ns)[21]?=some (.int .i64 c.least):=⟨rfl,rfl⟩
theorem Zpi (c:Zan) (x:Int):wrL (Yi c.ns) 21 [.int .i64 x]=Yi (Zan.ns { c with least:=x }):=rfl
theorem Zte {g:Nat} {c:Zan} {i:Nat} {t:Int} (hi:i<8) (hin:(i:Int)<c.n) (hx:ZmY t) (hv:Yu t=true) (hb:∀k,-1000000≤c.on k∧c.on k≤1000000) (hS:Sat e w (ZbI g c::R))
  (hk:∀w',Sat e w' (ZbI g (c.sent i t)::R)→K (.tuple #[.int .i64 (c.T i % 2),.int .i64 0]) w'):Cl prog 78 #[.pointer (some ⟨g,0,none⟩),.int .i64 i,.int .i64 t] w K:=by
 refine Zjy ?_
 unfold ZkR
 refine ZjA hS ?_
 rw[decide_eq_true (show 0≤(i:Int)∧(i:Int)<c.n from ⟨by omega,hin⟩)]
 refine ZaJ (Zj (Ze ?_))
 refine ZcO hx ?_
 rw[hv]
 refine Ze (ZaJ (Yd (Zf ?_)))
 refine Zo0 hi hin hS ?_
 refine ZaY hS λw1 h1=>?_
 obtain ⟨j,hj,hj2,hj3,hj4⟩:=Zqs c (c.T i) (c.on (c.T i % 2)+1)
 have hbk:=hb (c.T i % 2)
 refine Zh (Za ?_)
 rw[hj2]
 refine Zcb hj (Zb h1 0 rfl hj3 ?_)
 rw[hj2] at hbk ⊢
 refine ZcD (by omega) (by omega) ?_
 refine Zh (Za (Zcb hj ?_))
 rw[hj2] at hj4
 refine Zq h1 0 rfl (vs:=[.int .i64 (c.on j+1)]) rfl rfl (by rw[ZdC];omega) (by simp[flat]) (cs':=Yi (c.setOn j (c.on j+1)).ns) hj4 λw2 h2=>?_
 refine ZaY h2 λw3 h3=>?_
 refine Zel (c:=c.setOn j (c.on j+1)) h3 λw4 h4=>?_
 rw[Zan.setOn_begun,Zan.setOn_over]
 by_cases hu:c.over<c.begun
 ·rw[decide_eq_true hu]
  refine Ze (Ze (Ze (Zh (Ze (Za (Ze ?_))))))
  refine Zcb hi ?_
  refine Ze (Zo h4 0 rfl (Zlc _ i hi) rfl ?_)
  refine Ze (Ze (Zh (Ze (Za (Ze ?_)))))
  refine Zb h4 0 rfl (Zur _).1 ?_
  refine Ze (Zou h4 λw5 h5=>?_)
  rw[Zan.setOn_T,Zan.setOn_begun]
  by_cases ht:c.T i=c.begun
  ·rw[decide_eq_true ht]
   refine Yv (Zi (Zh (Za ?_)))
   refine Zb h5 0 rfl (Zur _).2 ?_
   refine Zty ?_
   refine Zh (Za ?_)
   refine Zq h5 0 rfl (vs:=[.int .i64 (min (c.setOn j (c.on j+1)).least t)]) rfl rfl (by rw[ZdC];decide) (by simp[flat]) (Zpi _ _) λw6 h6=>?_
   have e1:c.sent i t={ c.setOn j (c.on j+1) with least:=min c.least t }:=by
    unfold Zan.sent
    rw[if_pos ⟨hu,ht⟩,hj2]
   rw[Zan.setOn_least] at h6
   rw[e1,hj2] at hk
   exact hk _ h6
  ·rw[decide_eq_false ht]
   refine Yv (Zf ?_)
   have e1:c.sent i t=c.setOn j (c.on j+1):=by
    unfold Zan.sent
    rw[if_neg (λh=>ht h.2),hj2]
   rw[e1,hj2] at hk
   exact hk _ h5
 ·rw[decide_eq_false hu]
  refine Zu (Zu (Zu (Zu (Zu (Zu (Zu (Zu (Zu (Zu (Zd (Yd (Zf ?_))))))))))))
  have e1:c.sent i t=c.setOn j (c.on j+1):=by
   unfold Zan.sent
   rw[if_neg (λh=>hu h.1),hj2]
  rw[e1,hj2] at hk
  exact hk _ h4
def Zan.gotE (c:Zan) (k:Int):Int:=if ¬(0≤k∧k≤1)∨c.on k=0 then 1 else 0
def Zan.got (c:Zan) (k:Int):Zan:=if ¬(0≤k∧k≤1)∨c.on k=0 then c else c.setOn k (c.on k - 1)
theorem ZtM {g:Nat} {c:Zan} {i:Nat} {k:Int} (hin:(i:Int)<c.n) (hb:∀k,-1000000≤c.on k∧c.on k≤1000000) (hS:Sat e w (ZbI g c::R))
  (hk:∀w',Sat e w' (ZbI g (c.got k)::R)→K (.int .i64 (c.gotE k)) w'):Cl prog 83 #[.pointer (some ⟨g,0,none⟩),.int .i64 i,.int .i64 k] w K:=by
 refine ZjO ?_
 unfold ZmI
 refine ZjA hS ?_
 rw[decide_eq_true (show 0≤(i:Int)∧(i:Int)<c.n from ⟨by omega,hin⟩)]
 refine ZaJ (Zj (Zj (Zx8 ?_)))
 by_cases hk1:0≤k∧k≤1
 ·refine Zj (ZoP (by omega) ?_)
  obtain ⟨j,hj,hj2,hj3,hj4⟩:=Zqs c k (c.on (k % 2) - 1)
  have hkm:k % 2=k:=by omega
  rw[hkm] at hj2 hj3 hj4
  have hbk:=hb k
  refine Yd (Zj (Zj (Ze (Zh (Ze (Za (Ze ?_)))))))
  rw[hj2] at hj3 hj4 hbk ⊢
  refine Zcb hj (Zj (Zb hS 0 rfl hj3 ?_))
  by_cases h0:c.on k=0
  ·rw[hj2] at h0
   refine Ze (Znq (by omega) (Yd (Zi ?_)))
   have e1:c.gotE k=1:=if_pos (.inr (by rw[hj2];exact h0))
   have e2:c.got k=c:=if_pos (.inr (by rw[hj2];exact h0))
   rw[e1,e2] at hk
   exact hk _ hS
  ·have hn:¬(¬(0≤k∧k≤1)∨c.on k=0):=λh=>h.elim (λh=>h hk1) h0
   have e1:c.gotE k=0:=if_neg hn
   have e2:c.got k=c.setOn k (c.on k - 1):=if_neg hn
   rw[e1,e2,hj2] at hk
   rw[hj2] at h0
   refine Ze (Zd8 (by omega) (Yd (Zf (Zh (Za ?_)))))
   have h1:=hS.drew
   refine Zcb hj (Zb h1 0 rfl hj3 ?_)
   refine ZoJ (by omega) (by omega) ?_
   refine Zh (Za (Zcb hj ?_))
   refine Zq h1 0 rfl (vs:=[.int .i64 (c.on j - 1)]) rfl rfl (by rw[ZdC];omega) (by simp[flat]) hj4 λw2 h2=>?_
   exact hk _ h2
 ·refine Zj (Zng (by omega) ?_)
  refine Yd (Zd (Zd (Zd (Zd (Zd (Zd (Zd (Yv (Zi ?_)))))))))
  have e1:c.gotE k=1:=if_pos (.inl hk1)
  have e2:c.got k=c:=if_pos (.inl hk1)
  rw[e1,e2] at hk
  exact hk _ hS
end Go.Proofs.YtkpdpddmaoablaaGreat
end
section
namespace Go.Proofs.YtkpdpddmaoablaaGreat
open Go Go.E
set_option maxRecDepth 100000
variable {e w:World} {L Q:List HP} {K:KV} {S S2:HP}
structure ZMF where
 st:Int
 sent:Int
 lv:Value
 log:List Zak
def ZMF.cs (f:ZMF):List Value:=[.int .i64 f.st,.int .i64 f.sent,f.lv]
def ZMF.a (f:ZMF):FA:=⟨f.st,f.sent,f.log⟩
def ZRN (f:ZMF):HP:=Zz 42 7 Zak.cs f.lv f.log
structure ZTp where
 fv:Value
 fs:List ZMF
 arr:List Msg
def ZSL (r:Nat) (X:WdX) (R:RS):HP:=hex λp:ZTp=>Yh [pur (p.fs.map ZMF.a=R.feds∧p.arr.Perm R.wait∧Zr3 p.arr p.arr.length),IsW r (X.cs++[p.fv]) p.arr,Zz 105 3 ZMF.cs p.fv p.fs,Yh (p.fs.map ZRN),Zag X]
theorem ZSP {r:Nat} {X:WdX} {R:RS} (h:Sat e w (ZSL r X R::Q)):∃fv fs arr,(fs.map ZMF.a=R.feds∧arr.Perm R.wait∧Zr3 arr arr.length)∧Sat e w (IsW r (X.cs++[fv]) arr::Zz 105 3 ZMF.cs fv fs::Yh (fs.map ZRN)::Zag X::Q):=by
 obtain ⟨p,h0⟩:=h.ex
 exact ⟨p.fv,p.fs,p.arr,Sat.pure h0.split⟩
theorem ZSD {r:Nat} {X:WdX} {R:RS} {fv:Value} {fs:List ZMF} {arr:List Msg} (hp:fs.map ZMF.a=R.feds∧arr.Perm R.wait∧Zr3 arr arr.length) (h:Sat e w (IsW r (X.cs++[fv]) arr::Zz 105 3 ZMF.cs fv fs::Yh (fs.map ZRN)::Zag X::Q)):Sat e w (ZSL r X R::Q):=
 .mk_ex ⟨fv,fs,arr⟩ (.join (l':=[_,_,_,_,_]) (.mk_pure hp h))
structure ZSE (X:WdX) (wd:Wd) (R:RS) (k:Nat):Prop where
 eq:X.w=wd
 short:X.short
 may:ZoS wd
 run:ZLP wd R k
def ZRR (r:Nat) (wd:Wd) (R:RS) (k:Nat):HP:=hex λX:WdX=>Yh [pur (ZSE X wd R k),ZSL r X R]
theorem ZSA {r:Nat} {wd:Wd} {R:RS} {k:Nat} (h:Sat e w (ZRR r wd R k::Q)):∃X,ZSE X wd R k∧Sat e w (ZSL r X R::Q):=by
 obtain ⟨X,h0⟩:=h.ex
 exact ⟨X,Sat.pure h0.split⟩
theorem ZSp {r:Nat} {wd:Wd} {R:RS} {k:Nat} {X:WdX} (hp:ZSE X wd R k) (h:Sat e w (ZSL r X R::Q)):Sat e w (ZRR r wd R k::Q):=.mk_ex X (.join (l':=[_,_]) (.mk_pure hp h))
theorem ZS9 {x X:WdX} (h:X.w=x.w) (hs:x.short):X.short:=by
 have h1:X.Parents=x.Parents:=congrArg Wd.Parents h
 have h2:X.Feds.map Zao.f=x.Feds.map Zao.f:=congrArg Wd.Feds h
 have hl:X.Feds.length=x.Feds.length:=by simpa using congrArg List.length h2
 refine ⟨by rw[hl];exact hs.feds,by rw[h1];exact hs.par,λf hf=>?_⟩
 have h3:f.f∈x.Feds.map Zao.f:=by rw[←h2];exact List.mem_map_of_mem hf
 obtain ⟨g,hg,he⟩:=List.mem_map.1 h3
 have hsg:=hs.fed g hg
 have e1:g.Pubs=f.Pubs:=congrArg Fed.Pubs he
 have e2:g.Subs=f.Subs:=congrArg Fed.Subs he
 have e3:g.Init=f.Init:=congrArg Fed.Init he
 have e4:g.Rules.map Yg.r=f.Rules.map Yg.r:=congrArg Fed.Rules he
 have e5:g.Rules.length=f.Rules.length:=by simpa using congrArg List.length e4
 refine ⟨by rw[←e1];exact hsg.pubs,by rw[←e2];exact hsg.subs,by rw[←e3];exact hsg.init,by rw[←e5];exact hsg.rules,λq hq=>?_⟩
 have h5:q.r∈g.Rules.map Yg.r:=by rw[e4];exact List.mem_map_of_mem hq
 obtain ⟨q',hq',he'⟩:=List.mem_map.1 h5
 have e6:q'.Sends=q.Sends:=congrArg Zsp.Sends he'
 rw[←e6]
 exact hsg.sends q' hq'
theorem ldW {r o:Nat} {pre:List Value} {l:List Msg} {u:Value} (hS:Sat e w L) (i:Nat) (hi:L[i]?=some (IsW r pre l)) (ho:pre[o]?=some u) (hk:K u w):ld1 (.pointer (some ⟨r,o,none⟩)) w K:=by
 obtain ⟨v,hp,h1⟩:=ZSg (hS.pick i hi)
 refine Zb h1 0 rfl ?_ hk
 rw[List.getElem?_append_left (List.getElem?_eq_some_iff.1 ho).1]
 exact ho
theorem ZTo {r n:Nat} {pre us:List Value} {l:List Msg} (hS:Sat e w L) (i:Nat) (hi:L[i]?=some (IsW r pre l)) (ho:pre.take n=us) (hn:us.length=n) (hk:K (.agg us.toArray) w):ldN n (.pointer (some ⟨r,0,none⟩)) w K:=by
 obtain ⟨v,hp,h1⟩:=ZSg (hS.pick i hi)
 refine Zo h1 0 rfl ?_ hn hk
 have h4:n≤pre.length:=by
  have:=congrArg List.length ho
  rw[List.length_take,hn] at this
  omega
 rw[List.drop_zero,List.take_append_of_le_length h4,ho]
theorem ZTf {r:Nat} {pre:List Value} {l:List Msg} {x:Msg} (hl:l.length≤999999) (hS:Sat e w (IsW r pre l::Q))
  (hk:∀l' w',l'.Perm (l++[x])→(Zr3 l l.length→Zr3 l' l'.length)→Sat e w' (IsW r pre l'::Q)→K (.tuple #[]) w') :
  Cl prog 33 #[.pointer (some ⟨r,0,none⟩),.agg x.cs.toArray] w K:=by
 refine ZR8 ?_
 unfold ZSb
 refine Yp (cs:=x.cs) hS rfl λb w1 h1=>?_
 refine ZaY h1 λw2 h2=>?_
 refine Zh (Za (Zo h2 0 (vs:=x.cs) rfl (by rfl) rfl ?_))
 refine ZSW (x:=x) hl h2.swap λl' w3 hp hh h3=>?_
 exact hk l' _ hp hh (h3.selR [_,_] [_] [0] (by decide) rfl)
theorem ZS1 {r:Nat} {pre:List Value} {l ms:List Msg} {v:Value} (i:Nat) (hi:Q[i]?=some S) (hS:Sat e w (IsW r pre l::Q)) (hr:∀g,S g→rdS 6 Msg.cs v ms g) (hl:l.length+ms.length≤900000)
  (hk:∀l' w',l'.Perm (ms++l)→(Zr3 l l.length→Zr3 l' l'.length)→Sat e w' (IsW r pre l'::Q)→K (.tuple #[]) w') :
  Cl prog 32 #[v,.func (.func 33) #[.pointer (some ⟨r,0,none⟩)] #[]] w K:=by
 refine ZSj ?_
 unfold ZSx
 rw[ZNN]
 refine Zt hS (i+1) (by simpa using hi) hr ?_
 refine Zdk (λq t8 w=>∃(j:Nat) (l':List Msg),j≤ms.length∧t8=.int .i64 j∧q=ms.length - j∧l'.Perm (ms.take j++l)∧(Zr3 l l.length→Zr3 l' l'.length)∧Sat e w (IsW r pre l'::Q)) ms.length
  ⟨0,l,Nat.zero_le _,rfl,rfl,.refl _,id,hS⟩ ?_
 rintro q _ w g ⟨j,l',hj,rfl,rfl,hp,hh,h1⟩ hg
 refine Za7 (λc=>Zi ?_) (λc=>Zf ?_)
 ·obtain ⟨x,hx⟩:=Zk (l:=ms) (j:=j) (by omega)
  refine Zw h1 (i+1) (by simpa using hi) hr (λ_=>rfl) hx λa ha=>?_
  refine Ym h1 (i+1) (by simpa using hi) ha rfl ?_
  refine Yp (cs:=Msg.zero.cs) h1 rfl λb w2 h2=>?_
  refine Zq h2 0 rfl (vs:=x.cs) rfl rfl (by decide) (Zg _) (cs':=x.cs) (by rfl) λw3 h3=>?_
  refine Zo h3 0 (vs:=x.cs) rfl (by rfl) rfl ?_
  refine ⟨_,_,_,rfl,?_⟩
  have hlen:=hp.length_eq
  rw[List.length_append,List.length_take] at hlen
  refine ZTf (x:=x) (by omega) h3.swap λl2 w4 hp2 hh2 h4=>?_
  refine Yr (by omega) ?_
  refine hg _ _ _ (by omega) ⟨j+1,l2,by omega,rfl,rfl,?_,λh=>hh2 (hh h),h4.selR [_,_] [_] [0] (by decide) rfl⟩
  rw[Zx hx,List.append_assoc]
  refine hp2.trans ((hp.append_right [x]).trans ?_)
  rw[List.append_assoc]
  exact List.Perm.append_left _ List.perm_append_comm
 ·have ej:j=ms.length:=by omega
  rw[ej,List.take_length] at hp
  exact hk l' _ hp hh h1
theorem ZSI {x:WdX} (i:Nat) (hi:L[i]?=some S) (hS:Sat e w L) (hr:∀g,S g→ZtG x g) (hwf:x.wf) (hs:x.short)
  (hbad:(Za4 x.w).2≠0→∀w',Sat e w' L→K (.tuple #[.pointer none,.int .i64 (Za4 x.w).2]) w')
  (hok:(Za4 x.w).2=0→∀r w',Sat e w' (ZRR r x.w (ZF4 x.w) 0::L)→K (.tuple #[.pointer (some ⟨r,0,none⟩),.int .i64 0]) w'):Cl prog 13 #[.agg x.cs.toArray] w K:=by
 refine ZSl ?_
 unfold ZSF
 refine Yp (cs:=x.cs) hS rfl λb w1 h1=>?_
 refine Zo h1 0 (vs:=x.cs) rfl (by rfl) rfl ?_
 refine ZdI (x:=x) (i+1) (by simpa using hi) h1 hr hwf hs λw2 h2=>?_
 repeat (first | refine Ze ?_ | refine Zj ?_ | refine Zd ?_ | refine Zu ?_ | refine Zrb ?_ | refine Yv ?_ | refine Yd ?_ | refine Zi ?_ | refine Zf ?_ | refine ZaJ ?_ | refine Zch ?_ | refine ZSt ?_ | refine ZMz ?_ | refine Zh ?_ | refine Zwz ?_ | refine Za ?_ | refine Zam ?_ | refine Zal ?_ | refine Zok ?_ | refine Zow ?_ | refine ZoK ?_ | refine Znq (by omega) ?_ | refine Zd8 (by omega) ?_ | refine Zng (by omega) ?_ | refine ZoP (by omega) ?_ | refine Ztt (by omega) ?_ | refine Ze7 (by omega) ?_ | refine ZtF (by omega) ?_ | refine Zle (by omega) ?_ | refine Zqv (by omega) ?_ | refine ZnR (by omega) ?_ | refine ZCA (by omega) ?_ | refine ZCF (by omega) ?_)
 refine ZrP (λc1=>Zi (hbad c1 _ h2.drop)) (λc1=>Zf ?_)
 have hwd:=ZfI c1
 refine Zo h2 0 (vs:=x.cs) rfl (by rfl) rfl ?_
 refine ZSY (x:=x) (i+1) (by simpa using hi) h2 hr hs λX w3 hX h3=>?_
 refine Zaf (X.cs++[.slice none 0 0,.slice none 0 0]) (by kernel_rfl) ?_
 refine Yp (cs:=X.cs++[.slice none 0 0,.slice none 0 0]) h3 rfl λr w4 h4=>?_
 refine Za (Zb h4 2 rfl (v:=x.fv) rfl ?_)
 refine Zt h4 (i+3) (by simpa using hi) (λg hg=>(hr g hg).feds) ?_
 have hfl:=hs.feds
 rw[ZOh]
 refine Zdk (λq t24 w=>∃(j:Nat) (fv:Value),j≤x.Feds.length∧t24=.int .i64 j∧q=x.Feds.length - j∧
   Sat e w (Zz 105 3 ZMF.cs fv ((x.Feds.take j).map λf=>⟨f.Start,f.Init.length,.slice none 0 0,[]⟩)::blk r 103 (X.cs++[fv,.slice none 0 0])::Zag X::blk b 27 x.cs::L)) x.Feds.length
  ⟨0,.slice none 0 0,Nat.zero_le _,rfl,rfl,h4.own_nil 105 3 ZMF.cs⟩ ?_
 rintro q _ w g ⟨j,fv,hj,rfl,rfl,h5⟩ hg
 refine Za7 (λc0=>Zi ?_) (λc0=>Zf ?_)
 ·obtain ⟨fd,hf⟩:=Zk (l:=x.Feds) (j:=j) (by omega)
  have hfm:=List.mem_of_getElem? hf
  refine Zw h5 (i+4) (by simpa using hi) (λg hg=>(hr g hg).feds) (λ_=>rfl) hf λa ha=>?_
  refine Ym h5 (i+4) (by simpa using hi) ha rfl ?_
  refine Yp (cs:=[.int .i64 0,.int .i64 0,.int .i64 0,.slice none 0 0,.slice none 0 0,.slice none 0 0,.slice none 0 0]) h5 rfl λt w6 h6=>?_
  refine Zq h6 0 rfl (vs:=fd.cs) rfl rfl (by simp) (Zc1 i hi hS λg hg=>(hr g hg).fed fd hfm) (cs':=fd.cs) (by rfl) λw7 h7=>?_
  refine ZaY h7 λw8 h8=>?_
  refine Zh (Za (Zb h8 2 rfl (v:=fv) rfl ?_))
  refine Za (Zb h8 0 rfl (v:=.int .i64 fd.Start) rfl ?_)
  refine Za (Zb h8 0 rfl (v:=fd.iv) rfl ?_)
  refine Zt h8 (i+5) (by simpa using hi) (λg hg=>((hr g hg).fed fd hfm).init) ?_
  refine Zaf (⟨fd.Start,fd.Init.length,.slice none 0 0,[]⟩:ZMF).cs (by kernel_rfl) ?_
  refine ⟨Zb h8 2 rfl (v:=fv) rfl ⟨rfl,rfl⟩,?_⟩
  refine ZwC (vs:=(⟨fd.Start,fd.Init.length,.slice none 0 0,[]⟩:ZMF).cs) rfl rfl h8 λbb w9 h9=>?_
  refine ⟨Zb h9 3 rfl (v:=fv) rfl ⟨rfl,rfl⟩,?_⟩
  refine Zcs ZS2 ZS2.und (f:=ZMF.cs) (m:=[⟨fd.Start,fd.Init.length,.slice none 0 0,[]⟩]) (λ_=>rfl) (λy hy c hc=>?_) (h9.selR [_,_,_,_] [_,_,_,_] [2,0,1,3] (by decide) rfl) (Zfu (f:=ZMF.cs) (x:=⟨fd.Start,fd.Init.length,.slice none 0 0,[]⟩) (Nat.le_refl _)) (by simp;omega) λfv' w10 h10=>?_
  ·rw[List.mem_singleton.1 hy] at hc
   simp only[ZMF.cs,List.mem_cons,List.not_mem_nil,or_false] at hc
   rcases hc with rfl | rfl | rfl <;> rfl
  have q1:=h10.own_cells 0 rfl
  refine Zh (Za (Zq h10 3 rfl (vs:=[fv']) q1.1 rfl (Nat.le_of_ble_eq_true rfl) (λc hc=>by rw[List.mem_singleton.1 hc];exact q1.2) (cs':=X.cs++[fv',.slice none 0 0]) (by rfl) λw11 h11=>?_))
  refine Yr (by omega) ?_
  refine hg _ _ _ (by omega) ⟨j+1,fv',by omega,rfl,rfl,?_⟩
  rw[Zx hf,List.map_append]
  exact h11.selR [_,_,_,_] [_,_] [0,3] (by decide) rfl
 ·have ej:j=x.Feds.length:=by omega
  rw[ej,List.take_length] at h5
  refine Zo h5 3 (vs:=x.cs) rfl (by rfl) rfl ?_
  have hfl2:x.w.Feds.length=x.Feds.length:=by simp[WdX.w]
  refine ZwB (x:=x) (i+4) (by simpa using hi) h5 hr hs hwd.tree (by rw[←hfl2];exact hwd.n.2) (λf hf=>?_) λmv w6 h6 hml=>?_
  ·have:=hwd.init f.f (List.mem_map_of_mem hf)
   exact ⟨this.1,λo ho=>(this.2 o ho).1⟩
  have h7:Sat e w6 (IsW r (X.cs++[fv]) []::Zz 40 6 Msg.cs mv (Zaz x.w.Parents x.w.Feds x.w.Feds)::Zz 105 3 ZMF.cs fv (x.Feds.map λf=>⟨f.Start,f.Init.length,.slice none 0 0,[]⟩)::Zag X::blk b 27 x.cs::L):=
   ZSy (v:=.slice none 0 0) rfl (by
    have h8:=h6.own_nil 40 6 Msg.cs
    exact h8.selR [_,_,_,_] [_,_,_,_] [3,0,1,2] (by decide) rfl)
  refine ZS1 (ms:=Zaz x.w.Parents x.w.Feds x.w.Feds) 0 rfl h7 (λ_=>Zp) (by simp;omega) λl' w8 hp hh h8=>?_
  rw[List.append_nil] at hp
  have hheap:Zr3 l' l'.length:=hh λi x y hi hn=>by simp at hn
  refine hok c1 r _ (ZSp (X:=X) ⟨hX,ZS9 hX hs,hwd,ZLt hwd⟩ (ZSD (fv:=fv) (fs:=x.Feds.map λf=>⟨f.Start,f.Init.length,.slice none 0 0,[]⟩) (arr:=l') ⟨?_,?_,hheap⟩ ?_))
  ·simp only[ZF4,WdX.w,List.map_map]
   rfl
  ·have h9:=ZKK (Zaz x.w.Parents x.w.Feds x.w.Feds) []
   rw[List.append_nil] at h9
   exact hp.trans h9.symm
  ·have hlogs:∀(m:List Zao) (Q:List HP),Sat e w8 Q→Sat e w8 ((m.map λf=>ZRN ⟨f.Start,f.Init.length,.slice none 0 0,[]⟩)++Q):=by
    intro m Q hQ
    induction m with
    | nil=>exact hQ
    | cons f m ih=>exact ih.own_nil 42 7 Zak.cs
   have h10:=Sat.join (hlogs x.Feds _ h8)
   rw[List.map_map]
   exact h10.selR [_,_,_,_,_,_] [_,_,_,_] [1,3,0,4] (by decide) rfl
end Go.Proofs.YtkpdpddmaoablaaGreat
namespace Go.Proofs.YtkpdpddmaoablaaGreat
open Go Go.E
set_option maxRecDepth 100000
variable {e w:World} {L Q:List HP} {K:KV} {S S2:HP}
theorem ZSX {arr:List Msg} {m z:Msg} {rest:List Msg} (hp:arr.Perm (m::rest)) (hs:(m::rest).Pairwise MLt) (hh:Zr3 arr arr.length) (hz:arr[0]?=some z):z=m:=by
 have hzm:z∈m::rest:=hp.mem_iff.1 (List.mem_of_getElem? hz)
 rcases List.mem_cons.1 hzm with h | h
 ·exact h
 ·have h1:=(List.pairwise_cons.1 hs).1 z h
  have hm:m∈arr:=hp.mem_iff.2 (by simp)
  obtain ⟨i,hi⟩:=List.getElem?_of_mem hm
  exact absurd h1 (hh.min (Nat.le_refl _) hz i m (List.getElem?_eq_some_iff.1 hi).1 hi)
theorem ZLE {α β:Type} {f:α→β} {l:List α} {i:Nat} {x:α}:(l.set i x).map f=(l.map f).set i (f x):=List.map_set
theorem ZSB {r k:Nat} {wd:Wd} {R:RS} (hk0:k≤1000) (hS:Sat e w (ZRR r wd R k::Q))
  (hno:ZFO wd R=none→∀w',Sat e w' (ZRR r wd R k::Q)→K (.tuple #[.agg Zak.zero.cs.toArray,.bool false]) w')
  (hyes:∀d R',ZFO wd R=some (d,R')→∀w',Sat e w' (ZRR r wd R' (k+1)::Q)→K (.tuple #[.agg d.cs.toArray,.bool true]) w') :
  Cl prog 34 #[.pointer (some ⟨r,0,none⟩)] w K:=by
 refine ZR9 ?_
 unfold ZSa
 obtain ⟨X,hX,hS1⟩:=ZSA hS
 have hEnd:X.End=wd.End:=congrArg Wd.End hX.eq
 obtain ⟨fv,fs,arr,⟨hfs,hpa,hhp⟩,hS2⟩:=ZSP hS1
 rw[ZOu,ZNN]
 refine Yp (cs:=Zak.zero.cs) hS2 rfl λt2 w1 h1=>?_
 refine ZaY h1 λw2 h2=>?_
 obtain ⟨wv,hpre,h3⟩:=ZSg (h2.pick 1 rfl)
 have hnone:ZFO wd R=none→∀w',Sat e w' (blk t2 42 Zak.zero.cs::IsW r (X.cs++[fv]) arr::Zz 105 3 ZMF.cs fv fs::Yh (fs.map ZRN)::Zag X::Q)→
   bld (Zl prog 42) #[(0,6),(6,1)] [] w' λt31 w=>stN 7 (.pointer (some ⟨t2,0,none⟩)) t31 w λ_ w=>ldN 7 (.pointer (some ⟨t2,0,none⟩)) w λr0 _=>K (.tuple #[r0,.bool false]) w:=by
  intro hn w' h'
  refine Zaf Zak.zero.cs (by kernel_rfl) ?_
  refine Zq h' 0 rfl (vs:=Zak.zero.cs) rfl rfl (by decide) (Zg _) (cs':=Zak.zero.cs) (by kernel_rfl) λw3 h3=>?_
  refine Zo h3 0 (vs:=Zak.zero.cs) rfl (by rfl) rfl ?_
  exact hno hn _ (ZSp hX (ZSD ⟨hfs,hpa,hhp⟩ h3.drop))
 rw[ZOu] at hnone
 refine Zh (Za (Zb h3 0 rfl (ZRY hpre) ?_))
 refine Zt h3 1 rfl (λ_=>Zp) ?_
 cases hwait:R.wait with
 | nil=>
  rw[hwait] at hpa
  have ha0:arr=[]:=List.length_eq_zero_iff.1 (by rw[hpa.length_eq];rfl)
  refine Znq (by rw[ha0];rfl) ?_
  repeat (first | refine Ze ?_ | refine Zj ?_ | refine Zd ?_ | refine Zu ?_ | refine Zrb ?_ | refine Yv ?_ | refine Yd ?_ | refine Zi ?_ | refine Zf ?_ | refine ZaJ ?_ | refine Zch ?_ | refine ZSt ?_ | refine ZMz ?_ | refine Zh ?_ | refine Zwz ?_ | refine Za ?_ | refine Zam ?_ | refine Zal ?_ | refine Zok ?_ | refine Zow ?_ | refine ZoK ?_ | refine Znq (by omega) ?_ | refine Zd8 (by omega) ?_ | refine Zng (by omega) ?_ | refine ZoP (by omega) ?_ | refine Ztt (by omega) ?_ | refine Ze7 (by omega) ?_ | refine ZtF (by omega) ?_ | refine Zle (by omega) ?_ | refine Zqv (by omega) ?_ | refine ZnR (by omega) ?_ | refine ZCA (by omega) ?_ | refine ZCF (by omega) ?_)
  exact hnone (ZKW (.inl hwait)) _ h2
 | cons m rest=>
  have hs0:=hX.run.sorted
  rw[hwait] at hpa hs0
  have hal:=hpa.length_eq
  simp only[List.length_cons] at hal
  obtain ⟨z,hz⟩:=Zk (l:=arr) (j:=0) (by omega)
  have hzm:=ZSX hpa hs0 hhp hz
  subst hzm
  refine Zd8 (by omega) (Zj (Zj (Zwz ?_)))
  refine Zj (Za (Zj (Zb h3 0 rfl (ZRY hpre) ?_)))
  refine Zj (Zw (j:=0) h3 1 rfl (λ_=>Zp) (λ_=>rfl) hz λp hp=>?_)
  refine Zj (Zbd hp λp1 hp1=>Zj (Zbd hp1 λp2 hp2=>Zj ?_))
  refine Yt h3 1 rfl hp2 (v:=.int .i64 z.key.T) rfl ?_
  refine Zj (Zj (Zwz ?_))
  refine Zj (Za (Zj (Za (Zj (ldW h2 1 rfl (u:=.int .i64 X.End) rfl ?_)))))
  rw[hEnd]
  refine Zj (Zu5 (λc1=>?_) (λc1=>?_))
  ·refine Yd (Zi ?_)
   exact hnone (ZKW (.inr ⟨z,rest,hwait,c1⟩)) _ h2
  refine Yd (Zf (Zh (Za ?_)))
  have hcnt:=hX.run.cnt
  rw[hwait,List.length_cons] at hcnt
  refine ZTa (q:=r) hz (by omega) (h2.pick 1 rfl) λarr' w4 hp4 hh4 h4=>?_
  refine ZvQ (by kernel_rfl) ?_
  refine Yp (cs:=Msg.zero.cs) h4 rfl λt4 w5 h5=>?_
  refine Zq h5 0 rfl (vs:=z.cs) rfl rfl (by decide) (Zg _) (cs':=z.cs) (by rfl) λw6 h6=>?_
  have hpr:arr'.Perm rest:=by
   have h7:(z::arr').Perm (z::rest):=(List.perm_append_singleton z arr').symm.trans (hp4.trans hpa)
   exact (List.perm_cons z).1 h7
  have hh5:Zr3 arr' arr'.length:=hh4 hhp
  replace h6:Sat e w6 (blk t4 40 z.cs::IsW r (X.cs++[fv]) arr'::blk t2 42 Zak.zero.cs::Zz 105 3 ZMF.cs fv fs::Yh (fs.map ZRN)::Zag X::Q):=h6
  clear h1 h2 h3 h4 h5 hnone
  obtain ⟨t1,t2',t3,t4'⟩:=hX.run.to z (by rw[hwait];simp)
  obtain ⟨n,hn⟩:∃n:Nat,z.To=n:=⟨z.To.toNat,by omega⟩
  have hnl:n<wd.Feds.length:=by omega
  have hfl:fs.length=wd.Feds.length:=by
   have:=congrArg List.length hfs
   rw[List.length_map,hX.run.len] at this
   exact this
  obtain ⟨a,ha⟩:=Zk (l:=fs) (j:=n) (by omega)
  have hXf:X.Feds.map Zao.f=wd.Feds:=congrArg Wd.Feds hX.eq
  have hXp:X.Parents=wd.Parents:=congrArg Wd.Parents hX.eq
  have hXl:X.Feds.length=wd.Feds.length:=by rw[←hXf,List.length_map]
  obtain ⟨fd,hfd⟩:=Zk (l:=X.Feds) (j:=n) (by omega)
  have hfdm:=List.mem_of_getElem? hfd
  have hwf:wd.Feds[z.To.toNat]?=some fd.f:=by rw[hn,Int.toNat_natCast,←hXf,List.getElem?_map,hfd];rfl
  have hRa:R.feds[z.To.toNat]?=some a.a:=by rw[hn,Int.toNat_natCast,←hfs,List.getElem?_map,ha];rfl
  have hnext:=ZLx (wd:=wd) hwait (by omega) hwf hRa
  have hsent:=hX.run.sent a.a (List.mem_of_getElem? hRa)
  have hsf:=hX.short.fed fd hfdm
  refine ZaY h6 λw7 h7=>?_
  refine Zh (Za (ldW h7 1 rfl (u:=fv) rfl ?_))
  refine Za (Zb h7 0 rfl (v:=.int .i64 z.To) rfl ?_)
  rw[hn]
  refine ZjI h7 3 rfl ha λbf cf hfv=>?_
  refine ZaY h7 λw8 h8=>?_
  refine Zh (Za (Za (ldW h8 1 rfl (u:=X.fv) rfl ?_)))
  refine Za (Zb h8 0 rfl (v:=.int .i64 z.To) rfl ?_)
  rw[hn]
  refine Zw h8 5 rfl (λg hg=>(Zct hg).feds) (λ_=>rfl) hfd λp hp=>?_
  refine Zbd hp λp1 hp1=>?_
  refine Yt h8 5 rfl hp1 (v:=fd.rv) rfl ?_
  refine Zh (Za (Zaa h8 3 rfl (λ_=>rfl) hfv ha (u:=.int .i64 a.st) rfl ?_))
  refine Za (Zb h8 0 rfl (v:=.int .i64 z.Class) rfl ?_)
  refine Zkr (l:=fd.Rules) (s:=a.st) (c:=z.Class) (h8.pick 5 rfl) (λg hg=>((Zct hg).fed fd hfdm).rules) hsf.rules hsf.sends λov w9 h9=>?_
  generalize hso:ZbY (fd.Rules.map Yg.r) a.st z.Class=so at h9 ⊢
  have hso':ZbY fd.f.Rules a.a.st z.Class=so:=hso
  have houts:=ZlA hX.may (List.mem_of_getElem? hwf) a.a.st z.Class
  rw[hso'] at houts
  refine Zam (Zal ?_)
  replace h9:Sat e w9 (Zz 55 3 Out.cs ov so.2::Zag X::blk t4 40 z.cs::IsW r (X.cs++[fv]) arr'::blk t2 42 Zak.zero.cs::Zz 105 3 ZMF.cs fv fs::Yh (fs.map ZRN)::Q):=h9
  refine ZaY h9 λw10 h10=>?_
  refine Zh (Za (ZTo h10 3 rfl (us:=X.cs) rfl rfl ?_))
  refine Za (Zb h10 2 rfl (v:=.int .i64 z.To) rfl ?_)
  refine Zh (Za (Zaa h10 5 rfl (λ_=>rfl) hfv ha (u:=.int .i64 a.sent) rfl ?_))
  refine Za (Za (Zb h10 2 rfl (v:=.int .i64 z.key.T) rfl ?_))
  refine Za (Zb h10 2 rfl (v:=.int .i64 z.Body) rfl ?_)
  refine Zog (x:=X) (outs:=so.2) 1 0 rfl rfl h10 (λg hg=>Zct hg) (λ_=>Zp) hX.short (by rw[hXp];exact hX.may.tree) (λo ho=>by rw[hXp];exact (houts.2 o ho).1) (by omega) ⟨hsent.1,by have:=hsent.2.1;simp only[ZMF.a] at this;omega⟩ λmv w11 h11=>?_
  have hsp:Zau X.w.Parents X.w.Feds z.To a.sent z.key.T z.Body so.2=Zau wd.Parents wd.Feds z.To a.a.sent z.key.T z.Body so.2:=by rw[hX.eq];rfl
  rw[hsp] at h11
  generalize hms:Zau wd.Parents wd.Feds z.To a.a.sent z.key.T z.Body so.2=ms at h11
  have hmsl:ms.length≤24:=by
   have h12:=ZcU wd.Parents wd.Feds z.To a.a.sent z.key.T z.Body so.2
   have h13:so.2.length*wd.Feds.length≤3*8:=Nat.mul_le_mul houts.1 hX.may.n.2
   rw[hms] at h12
   omega
  have hrl:=hpr.length_eq
  have h12:=h11.selR [_,_,_,_,_,_,_,_] [_,_,_,_,_,_,_,_] [4,0,1,2,3,5,6,7] (by decide) rfl
  refine ZS1 (ms:=ms) 0 rfl h12 (λ_=>Zp) (by omega) λarr2 w13 hp13 hh13 h13=>?_
  have ha2:fs.length=(fs.map ZMF.a).length:=by simp
  refine Zh (Za (Zdz h13 6 rfl (λ_=>rfl) hfv ha (x':={ a with st:=so.1 }) (us:=[.int .i64 so.1]) rfl rfl (by decide) (by simp[flat]) rfl λw14 h14=>?_))
  have hset:∀(b c:ZMF),(fs.set n b).set n c=fs.set n c:=λb c=>List.set_set _
  have hg1:∀b:ZMF,(fs.set n b)[n]?=some b:=λb=>List.getElem?_set_self (by omega)
  have hln:∀b:ZMF,(fs.set n b).length=fs.length:=λb=>List.length_set
  replace h14:Sat e w14 (IsW r (X.cs++[fv]) arr2::Zz 40 6 Msg.cs mv ms::Zz 55 3 Out.cs ov so.2::Zag X::blk t4 40 z.cs::blk t2 42 Zak.zero.cs::Zz 105 3 ZMF.cs fv (fs.set n { a with st:=so.1 })::Yh (fs.map ZRN)::Q):=h14
  refine Zh (Za (Zaa h14 6 rfl (λ_=>rfl) (by rw[hln];exact hfv) (hg1 _) (u:=.int .i64 a.sent) rfl ?_))
  refine Zt h14 2 rfl (λ_=>Zp) ?_
  have hsu:=hsent.2.1
  have hsl:=hsent.1
  simp only[ZMF.a] at hsu hsl
  refine ZcD (by omega) (by omega) ?_
  refine Zh (Za (Zdz h14 6 rfl (λ_=>rfl) (by rw[hln];exact hfv) (hg1 _) (x':={ a with st:=so.1,sent:=a.sent+so.2.length }) (us:=[.int .i64 (a.sent+so.2.length)]) rfl rfl (by decide) (by simp[flat]) rfl λw15 h15=>?_))
  rw[hset] at h15
  replace h15:Sat e w15 (IsW r (X.cs++[fv]) arr2::Zz 40 6 Msg.cs mv ms::Zz 55 3 Out.cs ov so.2::Zag X::blk t4 40 z.cs::blk t2 42 Zak.zero.cs::Zz 105 3 ZMF.cs fv (fs.set n { a with st:=so.1,sent:=a.sent+so.2.length })::Yh (fs.map ZRN)::Q):=h15
  refine Zo h15 4 (vs:=z.cs) rfl (by rfl) rfl ?_
  refine Zaf (⟨z,so.1⟩:Zak).cs (by kernel_rfl) ?_
  refine Yp (cs:=Zak.zero.cs) h15 rfl λt8 w16 h16=>?_
  refine Zq h16 0 rfl (vs:=(⟨z,so.1⟩:Zak).cs) rfl rfl (Nat.le_of_ble_eq_true rfl) (Zg _) (cs':=(⟨z,so.1⟩:Zak).cs) (by rfl) λw17 h17=>?_
  refine ZaY h17 λw18 h18=>?_
  refine Zh (Za (Zaa h18 7 rfl (λ_=>rfl) (by rw[hln];exact hfv) (hg1 _) (u:=a.lv) rfl ?_))
  refine Zo h18 0 (vs:=(⟨z,so.1⟩:Zak).cs) rfl (by rfl) rfl ?_
  refine ZwC (vs:=(⟨z,so.1⟩:Zak).cs) rfl rfl h18 λbb w19 h19=>?_
  refine ⟨Zaa h19 8 rfl (λ_=>rfl) (by rw[hln];exact hfv) (hg1 _) (u:=a.lv) rfl ⟨rfl,rfl⟩,?_⟩
  have h20:=(h19.pick 9 rfl).focus n (by rw[List.getElem?_map,ha];rfl:(fs.map ZRN)[n]?=some (ZRN a))
  have hlog:=hsent.2.2
  simp only[ZMF.a] at hlog
  replace h20:Sat e w19 (ZRN a::Yh ((fs.map ZRN).eraseIdx n)::blk bb 42 (⟨z,so.1⟩:Zak).cs::blk t8 42 (⟨z,so.1⟩:Zak).cs::IsW r (X.cs++[fv]) arr2::Zz 40 6 Msg.cs mv ms::Zz 55 3 Out.cs ov so.2::Zag X::blk t4 40 z.cs::blk t2 42 Zak.zero.cs::Zz 105 3 ZMF.cs fv (fs.set n { a with st:=so.1,sent:=a.sent+so.2.length })::Q):=h20
  refine Zeo ZPl ZPl.und (f:=Zak.cs) (l:=a.log) (m:=[⟨z,so.1⟩]) (λ_=>rfl) (λ_=>Zg _) (h20.selR [_,_,_] [_,_,_] [0,2,1] (by decide) rfl) (Zfu (f:=Zak.cs) (x:=⟨z,so.1⟩) (Nat.le_refl _)) (by simp;omega) λlv' w21 h21=>?_
  have q1:=h21.own_cells 0 rfl
  refine Zh (Za (Zdz h21 10 rfl (λ_=>rfl) (by rw[hln];exact hfv) (hg1 _) (x':=⟨so.1,a.sent+so.2.length,lv',a.log++[⟨z,so.1⟩]⟩) (us:=[lv']) q1.1 rfl (by decide) (λc hc=>by rw[List.mem_singleton.1 hc];exact q1.2) rfl λw22 h22=>?_))
  rw[hset] at h22
  replace h22:Sat e w22 (ZRN ⟨so.1,a.sent+so.2.length,lv',a.log++[⟨z,so.1⟩]⟩::blk bb 42 (⟨z,so.1⟩:Zak).cs::Yh ((fs.map ZRN).eraseIdx n)::blk t8 42 (⟨z,so.1⟩:Zak).cs::IsW r (X.cs++[fv]) arr2::Zz 40 6 Msg.cs mv ms::Zz 55 3 Out.cs ov so.2::Zag X::blk t4 40 z.cs::blk t2 42 Zak.zero.cs::Zz 105 3 ZMF.cs fv (fs.set n ⟨so.1,a.sent+so.2.length,lv',a.log++[⟨z,so.1⟩]⟩)::Q):=h22
  refine Zo h22 3 (vs:=(⟨z,so.1⟩:Zak).cs) rfl (by rfl) rfl ?_
  refine Zq h22 9 rfl (vs:=(⟨z,so.1⟩:Zak).cs) rfl rfl (Nat.le_of_ble_eq_true rfl) (Zg _) (cs':=(⟨z,so.1⟩:Zak).cs) (by rfl) λw23 h23=>?_
  refine Zo h23 9 (vs:=(⟨z,so.1⟩:Zak).cs) rfl (by rfl) rfl ?_
  have h24:=(h23.selR [_,_,_,_,_,_,_,_,_,_,_] [_,_,_,_,_] [0,2,4,7,10] (by decide) rfl).unfocus n (by rw[List.getElem?_map,ha];rfl:(fs.map ZRN)[n]?=some (ZRN a))
  have hT:ZF5 wd fd.f a.a z rest R=(⟨z,so.1⟩,⟨R.feds.set n ⟨so.1,a.sent+so.2.length,a.log++[⟨z,so.1⟩]⟩,putL rest ms⟩):=by
   unfold ZF5
   rw[hso',hms,hn,Int.toNat_natCast]
   rfl
  rw[hT] at hnext
  refine hyes _ _ hnext _ (ZSp (X:=X) ⟨hX.eq,hX.short,hX.may,ZLs hX.may hX.run hnext⟩ (ZSD (fv:=fv) (fs:=fs.set n ⟨so.1,a.sent+so.2.length,lv',a.log++[⟨z,so.1⟩]⟩) (arr:=arr2) ⟨?_,?_,hh13 hh5⟩ ?_))
  ·rw[ZLE,hfs]
   rfl
  ·refine hp13.trans ?_
   refine (hpr.append_left ms).trans ?_
   exact (ZKK ms rest).symm
  ·rw[ZLE]
   exact h24.selR [_,_,_,_] [_,_,_,_] [1,3,0,2] (by decide) rfl
end Go.Proofs.YtkpdpddmaoablaaGreat
namespace Go.Proofs.YtkpdpddmaoablaaGreat
open Go Go.E
set_option maxRecDepth 100000
variable {e w:World} {L Q:List HP} {K:KV} {S S2:HP}
theorem ZLk (wd:Wd) (n:Nat) (R:RS):Zul wd (n+1) R=match ZFO wd R with
  | none=>(0,R)
  | some x=>((Zul wd n x.2).1+1,(Zul wd n x.2).2):=rfl
theorem ZSv {r k n:Nat} {wd:Wd} {R:RS} (hk0:k+n≤1000) (hS:Sat e w (ZRR r wd R k::Q))
  (hk:∀w',Sat e w' (ZRR r wd (Zul wd n R).2 (k+(Zul wd n R).1)::Q)→(Zul wd n R).1≤n→K (.int .i64 (Zul wd n R).1) w') :
  Cl prog 14 #[.pointer (some ⟨r,0,none⟩),.int .i64 n] w K:=by
 refine ZR4 ?_
 unfold ZR7
 refine J1.cut (λt5 w=>t5=.int .i64 (Zul wd n R).1∧(Zul wd n R).1≤n∧Sat e w (ZRR r wd (Zul wd n R).2 (k+(Zul wd n R).1)::Q)) (λk1 hcut=>?_) ?_
 ·refine Zdk (λq t5 w=>∃(j:Nat) (R':RS),j≤n∧t5=.int .i64 j∧q=n - j∧Zul wd n R=(j+(Zul wd (n - j) R').1,(Zul wd (n - j) R').2)∧Sat e w (ZRR r wd R' (k+j)::Q)) n
   ⟨0,R,Nat.zero_le _,rfl,rfl,by simp,hS⟩ ?_
  rintro q _ w g ⟨j,R',hj,rfl,rfl,heq,h1⟩ hg
  rw[ZOu]
  refine Za7 (λc=>Zi ?_) (λc=>Zf ?_)
  ·obtain ⟨m,hm⟩:∃m,n - j=m+1:=⟨n - j - 1,by omega⟩
   rw[hm,ZLk] at heq
   refine ZSB (by omega) h1 (λhno w2 h2=>?_) (λd R2 hyes w2 h2=>?_)
   ·rw[hno] at heq
    repeat (first | refine Ze ?_ | refine Zj ?_ | refine Zd ?_ | refine Zu ?_ | refine Zrb ?_ | refine Yv ?_ | refine Yd ?_ | refine Zi ?_ | refine Zf ?_ | refine ZaJ ?_ | refine Zch ?_ | refine ZSt ?_ | refine ZMz ?_ | refine Zh ?_ | refine Zwz ?_ | refine Za ?_ | refine Zam ?_ | refine Zal ?_ | refine Zok ?_ | refine Zow ?_ | refine ZoK ?_ | refine Znq (by omega) ?_ | refine Zd8 (by omega) ?_ | refine Zng (by omega) ?_ | refine ZoP (by omega) ?_ | refine Ztt (by omega) ?_ | refine Ze7 (by omega) ?_ | refine ZtF (by omega) ?_ | refine Zle (by omega) ?_ | refine Zqv (by omega) ?_ | refine ZnR (by omega) ?_ | refine ZCA (by omega) ?_ | refine ZCF (by omega) ?_)
    refine Yp (cs:=Zak.zero.cs) h2 rfl λt w3 h3=>?_
    refine Zq h3 0 rfl (vs:=Zak.zero.cs) rfl rfl (by decide) (Zg _) (cs':=Zak.zero.cs) (by rfl) λw4 h4=>?_
    refine Zch (Zi (hcut _ _ ?_))
    rw[heq]
    exact ⟨rfl,by simp;omega,by simpa using h4.drop⟩
   ·rw[hyes] at heq
    repeat (first | refine Ze ?_ | refine Zj ?_ | refine Zd ?_ | refine Zu ?_ | refine Zrb ?_ | refine Yv ?_ | refine Yd ?_ | refine Zi ?_ | refine Zf ?_ | refine ZaJ ?_ | refine Zch ?_ | refine ZSt ?_ | refine ZMz ?_ | refine Zh ?_ | refine Zwz ?_ | refine Za ?_ | refine Zam ?_ | refine Zal ?_ | refine Zok ?_ | refine Zow ?_ | refine ZoK ?_ | refine Znq (by omega) ?_ | refine Zd8 (by omega) ?_ | refine Zng (by omega) ?_ | refine ZoP (by omega) ?_ | refine Ztt (by omega) ?_ | refine Ze7 (by omega) ?_ | refine ZtF (by omega) ?_ | refine Zle (by omega) ?_ | refine Zqv (by omega) ?_ | refine ZnR (by omega) ?_ | refine ZCA (by omega) ?_ | refine ZCF (by omega) ?_)
    refine Yp (cs:=Zak.zero.cs) h2 rfl λt w3 h3=>?_
    refine Zq h3 0 rfl (vs:=d.cs) rfl rfl (by decide) (Zg _) (cs':=d.cs) (by rfl) λw4 h4=>?_
    refine ZaJ (Zf (Yr (by omega) ?_))
    refine hg _ _ _ (by omega) ⟨j+1,R2,by omega,rfl,rfl,?_,h4.drop⟩
    rw[heq,show n - (j+1)=m from by omega]
    simp only[Prod.mk.injEq,and_true]
    omega
  ·have ej:n - j=0:=by omega
   have ej2:j=n:=by omega
   rw[ej] at heq
   have heq':Zul wd n R=(j,R'):=heq
   refine hcut _ _ ?_
   rw[heq']
   exact ⟨rfl,hj,h1⟩
 ·rintro _ w ⟨rfl,hle,h⟩
  exact hk _ h hle
def ZK0 (R:RS) (f:Int):List Zak:=if 0≤f then ((R.feds[f.toNat]?).map FA.log).getD [] else []
def stR (R:RS) (f:Int):Int:=if 0≤f then ((R.feds[f.toNat]?).map FA.st).getD (-1) else -1
theorem ZS0 {k:Nat} {wd:Wd} {R:RS} {X:WdX} (hX:ZSE X wd R k) {fs:List ZMF} (h:fs.map ZMF.a=R.feds):fs.length=wd.Feds.length∧R.feds.length=fs.length:=by
 have h1:R.feds.length=fs.length:=by rw[←h,List.length_map]
 exact ⟨by rw[←h1,hX.run.len],h1⟩
theorem ZSJ {r k:Nat} {wd:Wd} {R:RS} {f:Int} (hk0:k≤1000) (hS:Sat e w (ZRR r wd R k::Q))
  (hk:∀v w',Sat e w' (Zz 42 7 Zak.cs v (ZK0 R f)::ZRR r wd R k::Q)→K v w'):Cl prog 15 #[.pointer (some ⟨r,0,none⟩),.int .i64 f] w K:=by
 refine ZSd ?_
 unfold ZSh
 obtain ⟨X,hX,hS1⟩:=ZSA hS
 obtain ⟨fv,fs,arr,⟨hfs,hpa,hhp⟩,hS2⟩:=ZSP hS1
 obtain ⟨hl1,hl2⟩:=ZS0 hX hfs
 have hn8:=hX.may.n.2
 have hnil:ZK0 R f=[]→K (.slice none 0 0) w:=λh=>by
  refine hk _ _ ?_
  rw[h]
  exact hS.own_nil 42 7 Zak.cs
 by_cases c1:f<0
 ·repeat (first | refine Ze ?_ | refine Zj ?_ | refine Zd ?_ | refine Zu ?_ | refine Zrb ?_ | refine Yv ?_ | refine Yd ?_ | refine Zi ?_ | refine Zf ?_ | refine ZaJ ?_ | refine Zch ?_ | refine ZSt ?_ | refine ZMz ?_ | refine Zh ?_ | refine Zwz ?_ | refine Za ?_ | refine Zam ?_ | refine Zal ?_ | refine Zok ?_ | refine Zow ?_ | refine ZoK ?_ | refine Znq (by omega) ?_ | refine Zd8 (by omega) ?_ | refine Zng (by omega) ?_ | refine ZoP (by omega) ?_ | refine Ztt (by omega) ?_ | refine Ze7 (by omega) ?_ | refine ZtF (by omega) ?_ | refine Zle (by omega) ?_ | refine Zqv (by omega) ?_ | refine ZnR (by omega) ?_ | refine ZCA (by omega) ?_ | refine ZCF (by omega) ?_)
  exact hnil (if_neg (by omega))
 refine Ze7 c1 (Zj (Zj (Zj (Zwz ?_))))
 refine Zj (Za (Zj (ldW hS2 0 rfl (u:=fv) rfl (Zj ?_))))
 refine Zt hS2 1 rfl (λ_=>Zp) ?_
 by_cases c2:(fs.length:Int)≤f
 ·repeat (first | refine Ze ?_ | refine Zj ?_ | refine Zd ?_ | refine Zu ?_ | refine Zrb ?_ | refine Yv ?_ | refine Yd ?_ | refine Zi ?_ | refine Zf ?_ | refine ZaJ ?_ | refine Zch ?_ | refine ZSt ?_ | refine ZMz ?_ | refine Zh ?_ | refine Zwz ?_ | refine Za ?_ | refine Zam ?_ | refine Zal ?_ | refine Zok ?_ | refine Zow ?_ | refine ZoK ?_ | refine Znq (by omega) ?_ | refine Zd8 (by omega) ?_ | refine Zng (by omega) ?_ | refine ZoP (by omega) ?_ | refine Ztt (by omega) ?_ | refine Ze7 (by omega) ?_ | refine ZtF (by omega) ?_ | refine Zle (by omega) ?_ | refine Zqv (by omega) ?_ | refine ZnR (by omega) ?_ | refine ZCA (by omega) ?_ | refine ZCF (by omega) ?_)
  refine hnil ?_
  unfold ZK0
  rw[if_pos (by omega),List.getElem?_eq_none (by omega)]
  rfl
 refine Zj (ZnR (by omega) (Yd (Zf ?_)))
 obtain ⟨n,rfl⟩:∃n:Nat,f=n:=⟨f.toNat,by omega⟩
 obtain ⟨a,ha⟩:=Zk (l:=fs) (j:=n) (by omega)
 have hRa:R.feds[n]?=some a.a:=by rw[←hfs,List.getElem?_map,ha];rfl
 refine Zh (Za (ldW hS2 0 rfl (u:=fv) rfl ?_))
 refine ZjI hS2 1 rfl ha λbf cf hfv=>?_
 refine Za (Zaa hS2 1 rfl (λ_=>rfl) hfv ha (u:=a.lv) rfl ?_)
 have hsent:=(hX.run.sent a.a (List.mem_of_getElem? hRa)).2.2
 simp only[ZMF.a] at hsent
 have h3:=(hS2.pick 2 rfl).focus n (by rw[List.getElem?_map,ha];rfl:(fs.map ZRN)[n]?=some (ZRN a))
 refine ZiJ (l:=a.log) (by omega) (λ_ _=>Zg _) h3 (λ_=>Zp) λv' w4 h4=>?_
 have hlog:ZK0 R n=a.log:=by
  unfold ZK0
  rw[if_pos (by omega),Int.toNat_natCast,hRa]
  rfl
 refine hk _ _ ?_
 rw[hlog]
 have h5:=(h4.drop).unfocus n (by rw[List.getElem?_map,ha];rfl:(fs.map ZRN)[n]?=some (ZRN a))
 have h6:=h4.selR [_,_,_] [_,_,_] [1,2,0] (by decide) rfl
 have h7:=h6.unfocus n (by rw[List.getElem?_map,ha];rfl:(fs.map ZRN)[n]?=some (ZRN a))
 have hse:(fs.map ZRN).set n (ZRN a)=fs.map ZRN:=by
  apply List.ext_getElem?
  intro i
  by_cases h:n=i
  ·subst h
   rw[List.getElem?_set_self (by rw[List.length_map];omega),List.getElem?_map,ha];rfl
  ·rw[List.getElem?_set_ne h]
 rw[hse] at h7
 have h8:=ZSD (R:=R) ⟨hfs,hpa,hhp⟩ (h7.selR [_,_,_,_,_] [_,_,_,_,_] [2,3,0,4,1] (by decide) rfl)
 exact (ZSp hX h8).swap
theorem ZSu {r k:Nat} {wd:Wd} {R:RS} {f:Int} (hS:Sat e w (ZRR r wd R k::Q)) (hk:K (.int .i64 (stR R f)) w):Cl prog 16 #[.pointer (some ⟨r,0,none⟩),.int .i64 f] w K:=by
 refine ZR5 ?_
 unfold ZR6
 obtain ⟨X,hX,hS1⟩:=ZSA hS
 obtain ⟨fv,fs,arr,⟨hfs,hpa,hhp⟩,hS2⟩:=ZSP hS1
 obtain ⟨hl1,hl2⟩:=ZS0 hX hfs
 have hn8:=hX.may.n.2
 by_cases c1:f<0
 ·repeat (first | refine Ze ?_ | refine Zj ?_ | refine Zd ?_ | refine Zu ?_ | refine Zrb ?_ | refine Yv ?_ | refine Yd ?_ | refine Zi ?_ | refine Zf ?_ | refine ZaJ ?_ | refine Zch ?_ | refine ZSt ?_ | refine ZMz ?_ | refine Zh ?_ | refine Zwz ?_ | refine Za ?_ | refine Zam ?_ | refine Zal ?_ | refine Zok ?_ | refine Zow ?_ | refine ZoK ?_ | refine Znq (by omega) ?_ | refine Zd8 (by omega) ?_ | refine Zng (by omega) ?_ | refine ZoP (by omega) ?_ | refine Ztt (by omega) ?_ | refine Ze7 (by omega) ?_ | refine ZtF (by omega) ?_ | refine Zle (by omega) ?_ | refine Zqv (by omega) ?_ | refine ZnR (by omega) ?_ | refine ZCA (by omega) ?_ | refine ZCF (by omega) ?_)
  unfold stR at hk
  rw[if_neg (by omega)] at hk
  exact hk
 refine Ze7 c1 (Zj (Zj (Zj (Zwz ?_))))
 refine Zj (Za (Zj (ldW hS2 0 rfl (u:=fv) rfl (Zj ?_))))
 refine Zt hS2 1 rfl (λ_=>Zp) ?_
 by_cases c2:(fs.length:Int)≤f
 ·repeat (first | refine Ze ?_ | refine Zj ?_ | refine Zd ?_ | refine Zu ?_ | refine Zrb ?_ | refine Yv ?_ | refine Yd ?_ | refine Zi ?_ | refine Zf ?_ | refine ZaJ ?_ | refine Zch ?_ | refine ZSt ?_ | refine ZMz ?_ | refine Zh ?_ | refine Zwz ?_ | refine Za ?_ | refine Zam ?_ | refine Zal ?_ | refine Zok ?_ | refine Zow ?_ | refine ZoK ?_ | refine Znq (by omega) ?_ | refine Zd8 (by omega) ?_ | refine Zng (by omega) ?_ | refine ZoP (by omega) ?_ | refine Ztt (by omega) ?_ | refine Ze7 (by omega) ?_ | refine ZtF (by omega) ?_ | refine Zle (by omega) ?_ | refine Zqv (by omega) ?_ | refine ZnR (by omega) ?_ | refine ZCA (by omega) ?_ | refine ZCF (by omega) ?_)
  unfold stR at hk
  rw[if_pos (by omega),List.getElem?_eq_none (by omega)] at hk
  exact hk
 refine Zj (ZnR (by omega) (Yd (Zf ?_)))
 obtain ⟨n,rfl⟩:∃n:Nat,f=n:=⟨f.toNat,by omega⟩
 obtain ⟨a,ha⟩:=Zk (l:=fs) (j:=n) (by omega)
 have hRa:R.feds[n]?=some a.a:=by rw[←hfs,List.getElem?_map,ha];rfl
 refine Zh (Za (ldW hS2 0 rfl (u:=fv) rfl ?_))
 refine ZjI hS2 1 rfl ha λbf cf hfv=>?_
 refine Za (Zaa hS2 1 rfl (λ_=>rfl) hfv ha (u:=.int .i64 a.st) rfl ?_)
 unfold stR at hk
 rw[if_pos (by omega),Int.toNat_natCast,hRa] at hk
 exact hk
end Go.Proofs.YtkpdpddmaoablaaGreat
namespace Go.Proofs.YtkpdpddmaoablaaGreat
open Go Go.E
set_option maxRecDepth 100000
variable {e w:World} {L Q:List HP} {K:KV} {S S2:HP}
def w0:Wd:=⟨[-1],[⟨0,1,0,[],[0],[],[⟨0,4,2⟩]⟩,⟨0,1,3,[],[],[0],[]⟩],9⟩
theorem MLt.time {a b:Msg} (h:MLt a b):a.key.T≤b.key.T:=by
 rcases h with h | h
 ·unfold Zv at h;omega
 ·rw[h.1];omega
end Go.Proofs.YtkpdpddmaoablaaGreat
namespace Go.Proofs.YtkpdpddmaoablaaGreat
open Go Go.E
set_option maxRecDepth 100000
variable {e w:World} {L Q:List HP} {K:KV} {S S2:HP}
end Go.Proofs.YtkpdpddmaoablaaGreat
namespace Go.Proofs.YtkpdpddmaoablaaGreat
open Go Go.E
set_option maxRecDepth 100000
variable {e w:World} {L Q:List HP} {K:KV} {S S2:HP}
end Go.Proofs.YtkpdpddmaoablaaGreat
end
