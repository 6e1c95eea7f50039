/- Texts of the proof, joined. Conditions: none. -/
import Derived.Test.YtnhaekgogppbiaaGreatP3
import Derived.Stop.Asserts
import Derived.Lib.IfaceEq
section
namespace Go.Proofs.YtnhaekgogppbiaaGreat
open Go Go.E
set_option maxRecDepth 100000
variable {e w:World} {R:List HP} {K:KV}
theorem ZCv {k:IntKind} {a b:Int} (hb:b≠0) (h:K (.int k (k.wrap (a.tdiv b))) w):bi .quo k (.int k a) (.int k b) w K:=⟨a,b,rfl,rfl,λ_=>hb,h⟩
theorem ZbN {a b c:Key} (h:¬Zv a b) (k:¬Zv b c):¬Zv a c:=by
 intro hac
 rcases Zv.tri a b with h1 | h1 | h1
 ·exact h h1
 ·subst h1;exact k hac
 ·exact k (h1.trans hac)
def Zb0 (l:List Msg) (n:Nat):Prop:=∀(i:Nat) (x y:Msg),0<i→i<n→l[i]?=some x→l[(i - 1) / 2]?=some y→¬Zv x.key y.key
def Zp9 (l:List Msg) (j:Nat):Prop:=
 (∀(i:Nat) (x y:Msg),0<i→i≠j→l[i]?=some x→l[(i - 1) / 2]?=some y→¬Zv x.key y.key)∧
 ∀(i:Nat) (x y:Msg),0<i→0<j→(i - 1) / 2=j→l[i]?=some x→l[(j - 1) / 2]?=some y→¬Zv x.key y.key
def Zc5 (l:List Msg) (j n:Nat):Prop:=
 (∀(i:Nat) (x y:Msg),0<i→i<n→(i - 1) / 2≠j→l[i]?=some x→l[(i - 1) / 2]?=some y→¬Zv x.key y.key)∧
 ∀(i:Nat) (x y:Msg),0<i→i<n→0<j→(i - 1) / 2=j→l[i]?=some x→l[(j - 1) / 2]?=some y→¬Zv x.key y.key
theorem Zb0.min {l:List Msg} {n:Nat} (h:Zb0 l n) (hn:n≤l.length) {z:Msg} (hz:l[0]?=some z):∀(i:Nat) (x:Msg),i<n→l[i]?=some x→¬Zv x.key z.key:=by
 intro i
 induction i using Nat.strongRecOn with
 | _ i ih=>
  intro x hi hx
  by_cases h0:i=0
  ·subst h0
   rw[hz] at hx
   injection hx with hx
   subst hx
   exact Zv.irrefl _
  ·obtain ⟨y,hy⟩:=Zk (l:=l) (j:=(i - 1) / 2) (by omega)
   exact ZbN (h i x y (by omega) hi hx hy) (ih _ (by omega) y (by omega) hy)
theorem Zp9.done {l:List Msg} {j:Nat} (h:Zp9 l j) (hj:j=0∨∃x y,l[j]?=some x∧l[(j - 1) / 2]?=some y∧¬Zv x.key y.key):Zb0 l l.length:=by
 intro i x y hi _ hx hy
 by_cases hij:i=j
 ·subst hij
  rcases hj with hj | ⟨x',y',hx',hy',hn⟩
  ·omega
  ·rw[hx] at hx'
   rw[hy] at hy'
   injection hx' with hx'
   injection hy' with hy'
   subst hx' hy'
   exact hn
 ·exact h.1 i x y hi hij hx hy
theorem Zp9.step {l:List Msg} {j:Nat} {x y:Msg} (h:Zp9 l j) (hj:0<j) (hx:l[j]?=some x) (hy:l[(j - 1) / 2]?=some y) (hlt:Zv x.key y.key):Zp9 (ZeZ l ((j - 1) / 2) j y x) ((j - 1) / 2):=by
 obtain ⟨h1,h2⟩:=h
 have hg:=ZaL (i:=(j - 1) / 2) (k:=j) hy hx
 constructor
 ·intro i a b hi hij ha hb
  rw[hg] at ha hb
  by_cases e1:i=j
  ·subst e1
   rw[if_pos rfl] at ha
   rw[if_neg (by omega),if_pos rfl] at hb
   injection ha with ha
   injection hb with hb
   subst ha hb
   exact hlt.asymm
  ·rw[if_neg e1,if_neg hij] at ha
   by_cases e2:(i - 1) / 2=j
   ·rw[if_pos e2] at hb
    injection hb with hb
    subst hb
    exact h2 i a y hi hj e2 ha hy
   ·rw[if_neg e2] at hb
    by_cases e3:(i - 1) / 2=(j - 1) / 2
    ·rw[if_pos e3] at hb
     injection hb with hb
     subst hb
     have:=h1 i a y hi e1 ha (by rw[e3];exact hy)
     intro hax
     exact this (hax.trans hlt)
    ·rw[if_neg e3] at hb
     exact h1 i a b hi e1 ha hb
 ·intro i a b hi hp hpar ha hb
  rw[hg] at ha hb
  rw[if_neg (by omega),if_neg (by omega)] at hb
  have hyb:=h1 ((j - 1) / 2) y b hp (by omega) hy hb
  by_cases e1:i=j
  ·rw[if_pos e1] at ha
   injection ha with ha
   subst ha
   exact hyb
  ·rw[if_neg e1,if_neg (by omega)] at ha
   have:=h1 i a y hi e1 ha (by rw[hpar];exact hy)
   exact ZbN this hyb
theorem ZH4 {q j0:Nat} {room:Int} {l:List Msg} (hj:j0<l.length) (hl:l.length≤1001) (hS:Sat e w (Yc q room l::R)) (hk:∀l' w',l'.Perm l→(Zp9 l j0→Zb0 l' l'.length)→Sat e w' (Yc q room l'::R)→K (.tuple #[]) w') :
  Cl prog 213 #[.iface 286 (rcv q),.int .i64 (j0:Int)] w K:=by
 refine ZiM ?_
 unfold Zrd
 refine Zdk (λz t1 w=>∃(j:Nat) (l':List Msg),t1=.int .i64 (j:Int)∧z=j∧j<l'.length∧l'.Perm l∧(Zp9 l j0→Zp9 l' j)∧Sat e w (Yc q room l'::R)) j0
  ⟨j0,l,rfl,rfl,hj,.refl _,id,hS⟩ ?_
 rintro j _ w g ⟨j',l',rfl,rfl,hjl,hp,hinv,h1⟩ hg
 have hlen:=hp.length_eq
 refine ZoJ (by omega) (by omega) (ZCv (by decide) ?_)
 by_cases h0:j=0
 ·subst h0
  refine Znq rfl (Zd (Zd (Zd (Zd (Zd (Yv (Zi (hk _ _ hp (λhu=>(hinv hu).done (.inl rfl)) h1))))))))
 ·have e1:IntKind.i64.wrap (((j:Int) - 1).tdiv 2)=(((j - 1) / 2:Nat):Int):=by
   rw[Int.tdiv_eq_ediv_of_nonneg (by omega),Zdl (by omega) (by omega)]
   omega
  rw[e1]
  obtain ⟨x,hx⟩:=Zk hjl
  obtain ⟨y,hy⟩:=Zk (l:=l') (j:=(j - 1) / 2) (by omega)
  refine Zd8 (by omega) (Zj (Zj (Zj (Zj ?_))))
  refine ZbS hx hy h1 λw2 h2=>?_
  by_cases hlt:ZeU x.key y.key<0
  ·rw[decide_eq_true hlt]
   refine Zj (ZaJ (Yd (Zf ?_)))
   refine ZbT hy hx h2 λw3 h3=>?_
   refine hg _ _ _ (by omega) ⟨(j - 1) / 2,_,rfl,rfl,by rw[Zcx];omega,(ZcT hy hx).trans hp,λhu=>(hinv hu).step (by omega) hx hy (Zav.1 hlt),h3⟩
  ·rw[decide_eq_false hlt]
   refine Zj (Zch (Yd (Zi (hk _ _ hp (λhu=>(hinv hu).done (.inr ⟨x,y,hx,hy,λh=>hlt (Zav.2 h)⟩)) h2))))
theorem Zc5.done {l:List Msg} {j n:Nat} (h:Zc5 l j n) (hj:∀(i:Nat) (x y:Msg),0<i→i<n→(i - 1) / 2=j→l[i]?=some x→l[j]?=some y→¬Zv x.key y.key):Zb0 l n:=by
 intro i x y hi hn hx hy
 by_cases hij:(i - 1) / 2=j
 ·exact hj i x y hi hn hij hx (by rw[←hij];exact hy)
 ·exact h.1 i x y hi hn hij hx hy
theorem Zc5.step {l:List Msg} {j c n:Nat} {x y:Msg} (h:Zc5 l j n) (hc0:0<c) (hcn:c<n) (hcj:(c - 1) / 2=j) (hx:l[j]?=some x) (hy:l[c]?=some y) (hlt:Zv y.key x.key)
  (hmin:∀(i:Nat) (a:Msg),0<i→i<n→(i - 1) / 2=j→l[i]?=some a→¬Zv a.key y.key):Zc5 (ZeZ l j c x y) c n:=by
 obtain ⟨h1,h2⟩:=h
 have hg:=ZaL (i:=j) (k:=c) hx hy
 constructor
 ·intro i a b hi hn hij ha hb
  rw[hg] at ha hb
  rw[if_neg hij] at hb
  by_cases e1:i=c
  ·subst e1
   rw[if_pos rfl] at ha
   rw[if_pos hcj] at hb
   injection ha with ha
   injection hb with hb
   subst ha hb
   exact hlt.asymm
  ·rw[if_neg e1] at ha
   by_cases e2:(i - 1) / 2=j
   ·rw[if_pos e2] at hb
    rw[if_neg (by omega)] at ha
    injection hb with hb
    subst hb
    exact hmin i a hi hn e2 ha
   ·rw[if_neg e2] at hb
    by_cases e3:i=j
    ·rw[if_pos e3] at ha
     injection ha with ha
     subst ha
     subst e3
     exact h2 c y b hc0 hcn hi hcj hy hb
    ·rw[if_neg e3] at ha
     exact h1 i a b hi hn e2 ha hb
 ·intro i a b hi hn hc hpar ha hb
  rw[hg] at ha hb
  rw[if_neg (by omega),if_neg (by omega)] at ha
  rw[if_neg (by omega),if_pos hcj] at hb
  injection hb with hb
  subst hb
  exact h1 i a y hi hn (by omega) ha (by rw[hpar];exact hy)
theorem ZC2 {q i0 n:Nat} {room:Int} {l:List Msg} (hn:n≤l.length) (hi0:i0≤n) (hl:l.length≤1001) (hS:Sat e w (Yc q room l::R))
  (hk:∀l' b w',l'.Perm l→(∀i,n≤i→l'[i]?=l[i]?)→(Zc5 l i0 n→Zb0 l' n)→Sat e w' (Yc q room l'::R)→K (.bool b) w') :
  Cl prog 214 #[.iface 286 (rcv q),.int .i64 (i0:Int),.int .i64 (n:Int)] w K:=by
 refine Zf3 ?_
 unfold Zmo
 refine J1.cut (λt7 w=>∃(i:Nat) (l':List Msg),t7=.int .i64 (i:Int)∧l'.Perm l∧(∀i,n≤i→l'[i]?=l[i]?)∧(Zc5 l i0 n→Zb0 l' n)∧Sat e w (Yc q room l'::R)) (λk1 hcut=>?_) ?_
 ·refine Zdk (λz t7 w=>∃(j:Nat) (l':List Msg),t7=.int .i64 (j:Int)∧z=n - j∧j≤n∧l'.Perm l∧(∀i,n≤i→l'[i]?=l[i]?)∧(Zc5 l i0 n→Zc5 l' j n)∧Sat e w (Yc q room l'::R)) (n - i0)
   ⟨i0,l,rfl,rfl,hi0,.refl _,λ_ _=>rfl,id,hS⟩ ?_
  rintro z _ w g ⟨j,l',rfl,rfl,hjn,hp,htail,hinv,h1⟩ hg
  have hlen:=hp.length_eq
  refine Zp5 (a:=2) (by omega) (Zb9 (b:=1) (by omega) ?_)
  refine Zu5 (λc1=>?_) (λc1=>?_)
  ·refine Zd (Zd (Yv (Zi (hcut _ _ ⟨j,l',rfl,hp,htail,λhd=>(hinv hd).done λi x y hi hin hpar _ _=>?_,h1⟩))))
   omega
  ·refine Zj (Zj (Ze7 (by omega) (Yd (Zf ?_))))
   refine Zb9 (b:=1) (by omega) ?_
   obtain ⟨x,hx⟩:=Zk (l:=l') (j:=j) (by omega)
   obtain ⟨y1,hy1⟩:=Zk (l:=l') (j:=2*j+1) (by omega)
   have hrest:∀(c:Nat) (y:Msg) w',(c=2*j+1∨c=2*j+1+1)→c<n→l'[c]?=some y→(∀(i:Nat) (a:Msg),0<i→i<n→(i - 1) / 2=j→l'[i]?=some a→¬Zv a.key y.key)→Sat e w' (Yc q room l'::R)→
     clI prog (.iface 286 (rcv q)) "Less" #[.int .i64 (c:Int),.int .i64 (j:Int)] w' λt38 w=>Zb3 t38 w λt39 w=>Zr t39 (k1 (.int .i64 (j:Int)) w)
      (clI prog (.iface 286 (rcv q)) "Swap" #[.int .i64 (j:Int),.int .i64 (c:Int)] w λ_ w=>g [.int .i64 (c:Int)] w):=by
    intro c y w' hc hcn hy hmin h2
    refine ZbS hy hx h2 λw3 h3=>?_
    by_cases hlt:ZeU y.key x.key<0
    ·rw[decide_eq_true hlt]
     refine ZaJ (Zf ?_)
     refine ZbT hx hy h3 λw4 h4=>?_
     refine hg _ _ _ (by omega) ⟨c,_,rfl,rfl,by omega,(ZcT hx hy).trans hp,λi hi=>?_,λhd=>(hinv hd).step (by omega) hcn (by omega) hx hy (Zav.1 hlt) hmin,h4⟩
     rw[ZaL hx hy,if_neg (by omega),if_neg (by omega)]
     exact htail i hi
    ·rw[decide_eq_false hlt]
     refine Zch (Zi (hcut _ _ ⟨j,l',rfl,hp,htail,λhd=>(hinv hd).done λi a b hi hin hpar ha hb=>?_,h3⟩))
     rw[hx] at hb
     injection hb with hb
     subst hb
     exact ZbN (hmin i a hi hin hpar ha) (λh=>hlt (Zav.2 h))
   refine Za7 (λc2=>?_) (λc2=>?_)
   ·obtain ⟨y2,hy2⟩:=Zk (l:=l') (j:=2*j+1+1) (by omega)
    refine Ze (Ze (Ze (Ze ?_)))
    refine ZbS hy2 hy1 h1 λw2 h2=>?_
    by_cases hlt:ZeU y2.key y1.key<0
    ·rw[decide_eq_true hlt]
     refine Yv (Zi ?_)
     refine hrest (2*j+1+1) y2 _ (.inr rfl) (by omega) hy2 (λi a hi hin hpar ha=>?_) h2
     have:i=2*j+1∨i=2*j+1+1:=by omega
     rcases this with rfl | rfl
     ·rw[hy1] at ha;injection ha with ha;subst ha;exact (Zav.1 hlt).asymm
     ·rw[hy2] at ha;injection ha with ha;subst ha;exact Zv.irrefl _
    ·rw[decide_eq_false hlt]
     refine Yv (Zf ?_)
     refine hrest (2*j+1) y1 _ (.inl rfl) (by omega) hy1 (λi a hi hin hpar ha=>?_) h2
     have:i=2*j+1∨i=2*j+1+1:=by omega
     rcases this with rfl | rfl
     ·rw[hy1] at ha;injection ha with ha;subst ha;exact Zv.irrefl _
     ·rw[hy2] at ha;injection ha with ha;subst ha;exact λh=>hlt (Zav.2 h)
   ·refine Zu (Zu (Zu (Zu (Yd (Zf ?_)))))
    refine hrest (2*j+1) y1 _ (.inl rfl) (by omega) hy1 (λi a hi hin hpar ha=>?_) h1
    have:i=2*j+1:=by omega
    subst this
    rw[hy1] at ha;injection ha with ha;subst ha;exact Zv.irrefl _
 ·rintro _ w ⟨i,l',rfl,hp,htail,hd,h2⟩
  exact ZFJ (hk _ _ _ hp htail hd h2)
theorem ZsK {q:Nat} {room:Int} {l:List Msg} {x:Msg} (hx:∀y∈l,y.key≠x.key) (hl:l.length≤1000) (hS:Sat e w (Yc q room l::R))
  (hk:∀l' w',l'.Perm (l++[x])→(Zb0 l l.length→Zb0 l' l'.length)→Sat e w' (Yc q room l'::R)→K (.tuple #[]) w') :
  Cl prog 209 #[.iface 286 (rcv q),.iface 81 (.agg x.cs.toArray)] w K:=by
 refine Zme ?_
 unfold ZpP
 refine ZpF hx hl hS λw2 h2=>?_
 refine Zh2 h2 λw3 h3=>?_
 have hlen:(l++[x]).length=l.length+1:=by simp
 refine ZjR (by omega) (by omega) ?_
 refine ZH4 (by omega) (by omega) h3 λl' w4 hp hu h4=>hk _ _ hp (λhh=>hu ⟨λi a b hi hij ha hb=>?_,λi a b hi hj hpar ha hb=>?_⟩) h4
 ·have hil:=(List.getElem?_eq_some_iff.1 ha).1
  rw[List.getElem?_append_left (by omega)] at ha hb
  exact hh i a b hi (by omega) ha hb
 ·have hil:=(List.getElem?_eq_some_iff.1 ha).1
  omega
def ZdT (room:Int) (l:List Msg) (x:Msg):Int:=if (l.any λy=>decide (y.key=x.key))=true then 3 else if room≤l.length then 2 else 0
theorem ZrG {q:Nat} {room:Int} {l:List Msg} {x:Msg} (hl:l.length≤1000) (hS:Sat e w (Yc q room l::R))
  (hbad:ZdT room l x≠0→∀w',Sat e w' (Yc q room l::R)→K (.int .i64 (ZdT room l x)) w')
  (hok:ZdT room l x=0→(∀y∈l,y.key≠x.key)→l.length<room→∀l' w',l'.Perm (l++[x])→(Zb0 l l.length→Zb0 l' l'.length)→Sat e w' (Yc q room l'::R)→K (.int .i64 0) w') :
  Cl prog 203 #[.pointer (some ⟨q,0,none⟩),.agg x.cs.toArray] w K:=by
 refine Zfb ?_
 unfold Zfj
 obtain ⟨v,b,m,ha,h1⟩:=Zcq hS
 refine Yp (cs:=x.cs) h1 rfl λc w2 h2=>?_
 refine ZaY h2 λw3 h3=>?_
 refine Zh (Za (Zb h3 1 rfl (v:=.map (some b)) rfl ?_))
 refine Za (Zo h3 0 (vs:=x.key.cs) rfl (by rfl) rfl ?_)
 refine ZsE Zgm ZTF h3 3 rfl x.key ?_
 refine Zam (Zal ?_)
 have hany:(lkA m x.key).isSome=l.any λy=>decide (y.key=x.key):=by
  rw[Bool.eq_iff_iff,ha.has,List.any_eq_true]
  constructor
  ·rintro ⟨y,hy,hk⟩;exact ⟨y,hy,by simpa using hk⟩
  ·rintro ⟨y,hy,hk⟩;exact ⟨y,hy,by simpa using hk⟩
 rw[hany]
 cases hh:l.any λy=>decide (y.key=x.key) with
 | true=>
  have e1:ZdT room l x=3:=if_pos hh
  have:=hbad (by rw[e1];decide) w3 (ZbP ha h3.drop)
  rw[e1] at this
  exact Zi this
 | false=>
  refine Zf ?_
  refine ZaY h3 λw4 h4=>?_
  refine Zh (Za (Zb h4 1 rfl (v:=v) rfl ?_))
  refine Zt h4 2 rfl (λ_=>Zp) ?_
  refine Zh (Za (Zb h4 1 rfl (v:=.int .i64 room) rfl ?_))
  have hno:¬(l.any λy=>decide (y.key=x.key))=true:=by rw[hh];decide
  refine Zu5 (λc1=>Zi ?_) (λc1=>Zf ?_)
  ·have e1:ZdT room l x=2:=by unfold ZdT;rw[if_neg hno,if_pos c1]
   have:=hbad (by rw[e1];decide) w4 (ZbP ha h4.drop)
   rw[e1] at this
   exact this
  ·have e1:ZdT room l x=0:=by unfold ZdT;rw[if_neg hno,if_neg c1]
   rw[ZT1]
   refine Zaf [.pointer (some ⟨q,0,none⟩)] (by kernel_rfl) ?_
   refine Zo h4 0 (vs:=x.cs) rfl (by rfl) rfl ?_
   have hne:∀y∈l,y.key≠x.key:=λy hy hk=>by
    rw[List.any_eq_false] at hh
    exact hh y hy (by simpa using hk)
   refine ZsK hne hl (ZbP ha h4.drop) λl' w5 hp hheap h5=>?_
   exact hok e1 hne (by omega) l' w5 hp hheap h5
end Go.Proofs.YtnhaekgogppbiaaGreat
namespace Go.Proofs.YtnhaekgogppbiaaGreat
open Go Go.E
set_option maxRecDepth 100000
variable {e w:World} {R:List HP} {K:KV}
theorem Znp.pop {m:List (Key × Nat)} {l:List Msg} {x:Msg} (h:Znp m (l++[x])):Znp (dlA m x.key) l:=by
 have hxl:(l++[x])[l.length]?=some x:=by simp
 refine ⟨h.u.dl _,λk i=>?_⟩
 rw[ZEP h.u]
 by_cases hk:k=x.key
 ·rw[if_pos hk]
  constructor
  ·intro hn;cases hn
  ·rintro ⟨y,hy,hyk⟩
   have hil:=(List.getElem?_eq_some_iff.1 hy).1
   have:=h.inj (i:=i) (j:=l.length) (by rw[List.getElem?_append_left hil];exact hy) hxl (by rw[hyk,hk])
   omega
 ·rw[if_neg hk,h.ok k i]
  constructor
  ·rintro ⟨y,hy,hyk⟩
   by_cases hil:i<l.length
   ·rw[List.getElem?_append_left hil] at hy
    exact ⟨y,hy,hyk⟩
   ·have hle:=(List.getElem?_eq_some_iff.1 hy).1
    rw[List.length_append] at hle
    simp only[List.length_cons,List.length_nil] at hle
    rw[show i=l.length by omega,hxl] at hy
    injection hy with hy
    subst hy
    exact absurd hyk.symm hk
  ·rintro ⟨y,hy,hyk⟩
   exact ⟨y,by rw[List.getElem?_append_left (List.getElem?_eq_some_iff.1 hy).1];exact hy,hyk⟩
theorem Zlm {q:Nat} {room:Int} {l:List Msg} {x:Msg} (hl:l.length≤1000) (hS:Sat e w (Yc q room (l++[x])::R)) (hk:∀w',Sat e w' (Yc q room l::R)→K (.iface 81 (.agg x.cs.toArray)) w') :
  clI prog (.iface 286 (rcv q)) "Pop" #[] w K:=by
 refine Zrj (f:=256) (rcv:=rcv q) (by kernel_rfl) ?_
 refine Zgo (t0:=rcv q) ?_
 unfold Zhd
 obtain ⟨v,b,m,ha,h1⟩:=Zcq hS
 have hlen:(l++[x]).length=l.length+1:=by simp
 have hxl:(l++[x])[l.length]?=some x:=by simp
 refine Yp (cs:=[.pointer (some ⟨q,0,none⟩)]) h1 rfl λc w2 h2=>?_
 refine Za (Zb h2 0 rfl (v:=.pointer (some ⟨q,0,none⟩)) rfl ?_)
 refine Zh (Za (Zb h2 1 rfl (v:=v) rfl ?_))
 refine Zt h2 2 rfl (λ_=>Zp) ?_
 rw[hlen]
 refine ZjR (by omega) (by omega) ?_
 rw[Nat.add_sub_cancel]
 refine Za (Zb h2 0 rfl (v:=.pointer (some ⟨q,0,none⟩)) rfl ?_)
 refine Zh (Za (Zb h2 1 rfl (v:=v) rfl ?_))
 refine Zw h2 2 rfl (λ_=>Zp) (λ_=>rfl) hxl λp hp=>?_
 refine Ym h2 2 rfl hp rfl ?_
 rw[ZTr]
 refine Yp (cs:=Yi [0,0,0,0,0,0]) h2 rfl λd w3 h3=>?_
 refine Zq h3 0 rfl (vs:=x.cs) rfl rfl (Nat.le_of_ble_eq_true rfl) (Zg _) (cs':=x.cs) (by kernel_rfl) λw4 h4=>?_
 refine ZaY h4 λw5 h5=>?_
 refine Za (Zb h5 1 rfl (v:=.pointer (some ⟨q,0,none⟩)) rfl ?_)
 refine Za (Zb h5 1 rfl (v:=.pointer (some ⟨q,0,none⟩)) rfl ?_)
 refine Zh (Za (Zb h5 2 rfl (v:=v) rfl ?_))
 refine ZuF h5 3 rfl (λ_=>rfl) (hi:=l.length) (by omega) λv' h6=>?_
 rw[List.take_left' rfl] at h6
 refine Zh (Za ?_)
 refine Zpm h6 2 rfl (h6.own_cells 3 rfl) (Nat.le_of_ble_eq_true rfl) (cs':=[.int .i64 room,v',.map (some b)]) rfl λw7 h7=>?_
 replace h7:Sat e w7 (blk d 81 x.cs::blk c 286 [.pointer (some ⟨q,0,none⟩)]::blk q 177 [.int .i64 room,v',.map (some b)]::Zz 81 6 Msg.cs v' l::Zaj kfK vfN b m::R):=h7
 refine ZaY h7 λw8 h8=>?_
 refine Za (Zb h8 1 rfl (v:=.pointer (some ⟨q,0,none⟩)) rfl ?_)
 refine Zh (Za (Zb h8 2 rfl (v:=.map (some b)) rfl ?_))
 refine Za (Zo h8 0 (vs:=x.key.cs) rfl (by rfl) rfl ?_)
 refine ZGa Zgm ZTF (h8.pick 4 rfl) x.key λw9 h9=>?_
 refine Zo h9 1 (vs:=x.cs) rfl (by rfl) rfl ?_
 exact hk _ (ZbP ha.pop (h9.selR [_,_,_,_,_] [_,_,_] [3,4,0] (by decide) rfl))
theorem ZtI {q:Nat} {room:Int} {l:List Msg} {x:Msg} (hx:l[0]?=some x) (hl:l.length≤1001) (hS:Sat e w (Yc q room l::R))
  (hk:∀l' w',(l'++[x]).Perm l→(Zb0 l l.length→Zb0 l' l'.length)→Sat e w' (Yc q room l'::R)→K (.iface 81 (.agg x.cs.toArray)) w') :
  Cl prog 211 #[.iface 286 (rcv q)] w K:=by
 refine ZmV ?_
 unfold Zr2
 have h0:=(List.getElem?_eq_some_iff.1 hx).1
 obtain ⟨n,hn⟩:∃n,l.length=n+1:=⟨l.length - 1,by omega⟩
 obtain ⟨y,hy⟩:=Zk (l:=l) (j:=n) (by omega)
 refine Zh2 hS λw2 h2=>?_
 rw[hn]
 refine ZjR (by omega) (by omega) ?_
 rw[Nat.add_sub_cancel]
 refine ZbT (i:=0) (k:=n) hx hy h2 λw3 h3=>?_
 have hp1:=ZcT hx hy
 refine ZC2 (i0:=0) (n:=n) (by rw[Zcx];omega) (by omega) (by rw[Zcx];omega) h3 λl2 bb w4 hp2 htail hd h4=>?_
 have hl2:l2.length=n+1:=by rw[hp2.length_eq,Zcx,hn]
 have hln:l2[n]?=some x:=by rw[htail n (Nat.le_refl _),ZaL hx hy,if_pos rfl]
 have hsp:l2=l2.take n++[x]:=by
  have:=Zx hln
  rw[List.take_of_length_le (by omega)] at this
  exact this
 have hpf:(l2.take n++[x]).Perm l:=by rw[←hsp];exact hp2.trans hp1
 rw[hsp] at h4
 refine Zlm (by rw[List.length_take];omega) h4 λw5 h5=>hk _ _ hpf (λhh=>?_) h5
 have hh2:=hd ⟨λi a b hi hin hpar ha hb=>?_,λi a b hi hin hj=>by omega⟩
 ·intro i a b hi hin ha hb
  rw[List.length_take] at hin
  rw[List.getElem?_take,if_pos (by omega)] at ha hb
  exact hh2 i a b hi (by omega) ha hb
 ·rw[ZaL hx hy,if_neg (by omega),if_neg (by omega)] at ha hb
  exact hh i a b hi (by omega) ha hb
theorem Zn8 {q:Nat} {room:Int} (hS:Sat e w (Yc q room []::R)) (hk:∀w',Sat e w' (Yc q room []::R)→K (.tuple #[.agg Msg.zero.cs.toArray,.bool false]) w'):Cl prog 205 #[.pointer (some ⟨q,0,none⟩)] w K:=by
 refine ZcK ?_
 unfold ZdA
 rw[ZTr]
 obtain ⟨v,b,m,ha,h1⟩:=Zcq hS
 refine Yp (cs:=Yi [0,0,0,0,0,0]) h1 rfl λd w3 h3=>?_
 refine Zh (Za (Zb h3 1 rfl (v:=v) rfl ?_))
 refine Zt h3 2 rfl (λ_=>Zp) ?_
 refine Znq rfl (Zi ?_)
 refine Zaf Msg.zero.cs (by kernel_rfl) ?_
 refine Zq h3 0 rfl (vs:=Msg.zero.cs) rfl rfl (Nat.le_of_ble_eq_true rfl) (Zg _) (cs':=Msg.zero.cs) (by kernel_rfl) λw4 h4=>?_
 refine Zo h4 0 (vs:=Msg.zero.cs) rfl (by rfl) rfl ?_
 exact hk _ (ZbP ha h4.drop)
theorem ZsH {q:Nat} {room:Int} {l:List Msg} {x:Msg} (hx:l[0]?=some x) (hl:l.length≤1001) (hS:Sat e w (Yc q room l::R))
  (hk:∀l' w',(l'++[x]).Perm l→(Zb0 l l.length→Zb0 l' l'.length)→Sat e w' (Yc q room l'::R)→K (.tuple #[.agg x.cs.toArray,.bool true]) w'):Cl prog 205 #[.pointer (some ⟨q,0,none⟩)] w K:=by
 refine ZcK ?_
 unfold ZdA
 rw[ZTr,ZT1]
 obtain ⟨v,b,m,ha,h1⟩:=Zcq hS
 have h0:=(List.getElem?_eq_some_iff.1 hx).1
 refine Yp (cs:=Yi [0,0,0,0,0,0]) h1 rfl λd w3 h3=>?_
 refine Zh (Za (Zb h3 1 rfl (v:=v) rfl ?_))
 refine Zt h3 2 rfl (λ_=>Zp) ?_
 refine Zd8 (by omega) (Zf ?_)
 refine Zaf [.pointer (some ⟨q,0,none⟩)] (by kernel_rfl) ?_
 refine ZtI hx hl (ZbP ha (h3.selR [_,_,_,_] [_,_,_,_] [1,2,3,0] (by decide) rfl)) λl' w4 hp hh h4=>?_
 refine ZvQ (by kernel_rfl) ?_
 refine Zq h4 1 rfl (vs:=x.cs) rfl rfl (Nat.le_of_ble_eq_true rfl) (Zg _) (cs':=x.cs) (by kernel_rfl) λw5 h5=>?_
 refine Zo h5 1 (vs:=x.cs) rfl (by rfl) rfl ?_
 exact hk _ _ hp hh (h5.selR [_,_] [_] [0] (by decide) rfl)
end Go.Proofs.YtnhaekgogppbiaaGreat
namespace Go.Proofs.YtnhaekgogppbiaaGreat
open Go Go.E
set_option maxRecDepth 100000
variable {e w:World} {R:List HP} {K:KV}
def UpN (l:List Msg) (j n:Nat):Prop:=
 (∀(i:Nat) (x y:Msg),0<i→i<n→i≠j→l[i]?=some x→l[(i - 1) / 2]?=some y→¬Zv x.key y.key)∧
 ∀(i:Nat) (x y:Msg),0<i→i<n→0<j→(i - 1) / 2=j→l[i]?=some x→l[(j - 1) / 2]?=some y→¬Zv x.key y.key
theorem UpN.done {l:List Msg} {j n:Nat} (h:UpN l j n) (hj:j=0∨∃x y,l[j]?=some x∧l[(j - 1) / 2]?=some y∧¬Zv x.key y.key):Zb0 l n:=by
 intro i x y hi hin hx hy
 by_cases hij:i=j
 ·subst hij
  rcases hj with hj | ⟨x',y',hx',hy',hn⟩
  ·omega
  ·rw[hx] at hx'
   rw[hy] at hy'
   injection hx' with hx'
   injection hy' with hy'
   subst hx' hy'
   exact hn
 ·exact h.1 i x y hi hin hij hx hy
theorem UpN.step {l:List Msg} {j n:Nat} {x y:Msg} (h:UpN l j n) (hj:0<j) (hjn:j<n) (hx:l[j]?=some x) (hy:l[(j - 1) / 2]?=some y) (hlt:Zv x.key y.key):UpN (ZeZ l ((j - 1) / 2) j y x) ((j - 1) / 2) n:=by
 obtain ⟨h1,h2⟩:=h
 have hg:=ZaL (i:=(j - 1) / 2) (k:=j) hy hx
 constructor
 ·intro i a b hi hin hij ha hb
  rw[hg] at ha hb
  by_cases e1:i=j
  ·subst e1
   rw[if_pos rfl] at ha
   rw[if_neg (by omega),if_pos rfl] at hb
   injection ha with ha
   injection hb with hb
   subst ha hb
   exact hlt.asymm
  ·rw[if_neg e1,if_neg hij] at ha
   by_cases e2:(i - 1) / 2=j
   ·rw[if_pos e2] at hb
    injection hb with hb
    subst hb
    exact h2 i a y hi hin hj e2 ha hy
   ·rw[if_neg e2] at hb
    by_cases e3:(i - 1) / 2=(j - 1) / 2
    ·rw[if_pos e3] at hb
     injection hb with hb
     subst hb
     have:=h1 i a y hi hin e1 ha (by rw[e3];exact hy)
     intro hax
     exact this (hax.trans hlt)
    ·rw[if_neg e3] at hb
     exact h1 i a b hi hin e1 ha hb
 ·intro i a b hi hin hp hpar ha hb
  rw[hg] at ha hb
  rw[if_neg (by omega),if_neg (by omega)] at hb
  have hyb:=h1 ((j - 1) / 2) y b hp (by omega) (by omega) hy hb
  by_cases e1:i=j
  ·rw[if_pos e1] at ha
   injection ha with ha
   subst ha
   exact hyb
  ·rw[if_neg e1,if_neg (by omega)] at ha
   have:=h1 i a y hi hin e1 ha (by rw[hpar];exact hy)
   exact ZbN this hyb
theorem ZFZ {q j0 n:Nat} {room:Int} {l:List Msg} (hj:j0<n) (hn:n≤l.length) (hl:l.length≤1001) (hS:Sat e w (Yc q room l::R))
  (hk:∀l' w',l'.Perm l→(∀i,n≤i→l'[i]?=l[i]?)→(UpN l j0 n→Zb0 l' n)→Sat e w' (Yc q room l'::R)→K (.tuple #[]) w') :
  Cl prog 213 #[.iface 286 (rcv q),.int .i64 (j0:Int)] w K:=by
 refine ZiM ?_
 unfold Zrd
 refine Zdk (λz t1 w=>∃(j:Nat) (l':List Msg),t1=.int .i64 (j:Int)∧z=j∧j<n∧l'.Perm l∧(∀i,n≤i→l'[i]?=l[i]?)∧(UpN l j0 n→UpN l' j n)∧Sat e w (Yc q room l'::R)) j0
  ⟨j0,l,rfl,rfl,hj,.refl _,λ_ _=>rfl,id,hS⟩ ?_
 rintro j _ w g ⟨j',l',rfl,rfl,hjn,hp,htail,hinv,h1⟩ hg
 have hlen:=hp.length_eq
 refine ZoJ (by omega) (by omega) (ZCv (by decide) ?_)
 by_cases h0:j=0
 ·subst h0
  refine Znq rfl (Zd (Zd (Zd (Zd (Zd (Yv (Zi (hk _ _ hp htail (λhu=>(hinv hu).done (.inl rfl)) h1))))))))
 ·have e1:IntKind.i64.wrap (((j:Int) - 1).tdiv 2)=(((j - 1) / 2:Nat):Int):=by
   rw[Int.tdiv_eq_ediv_of_nonneg (by omega),Zdl (by omega) (by omega)]
   omega
  rw[e1]
  obtain ⟨x,hx⟩:=Zk (l:=l') (j:=j) (by omega)
  obtain ⟨y,hy⟩:=Zk (l:=l') (j:=(j - 1) / 2) (by omega)
  refine Zd8 (by omega) (Zj (Zj (Zj (Zj ?_))))
  refine ZbS hx hy h1 λw2 h2=>?_
  by_cases hlt:ZeU x.key y.key<0
  ·rw[decide_eq_true hlt]
   refine Zj (ZaJ (Yd (Zf ?_)))
   refine ZbT hy hx h2 λw3 h3=>?_
   refine hg _ _ _ (by omega) ⟨(j - 1) / 2,_,rfl,rfl,by omega,(ZcT hy hx).trans hp,λi hi=>?_,λhu=>(hinv hu).step (by omega) hjn hx hy (Zav.1 hlt),h3⟩
   rw[ZaL hy hx,if_neg (by omega),if_neg (by omega)]
   exact htail i hi
  ·rw[decide_eq_false hlt]
   refine Zj (Zch (Yd (Zi (hk _ _ hp htail (λhu=>(hinv hu).done (.inr ⟨x,y,hx,hy,λh=>hlt (Zav.2 h)⟩)) h2))))
def ZBF (l:List Msg) (j n:Nat):Prop:=
 (∀(i:Nat) (x y:Msg),0<i→i<n→i≠j→(i - 1) / 2≠j→l[i]?=some x→l[(i - 1) / 2]?=some y→¬Zv x.key y.key)∧
 ∀(i:Nat) (x y:Msg),0<i→i<n→0<j→(i - 1) / 2=j→l[i]?=some x→l[(j - 1) / 2]?=some y→¬Zv x.key y.key
theorem ZBF.step {l:List Msg} {j c n:Nat} {x y:Msg} (h:ZBF l j n) (hc0:0<c) (hcn:c<n) (hcj:(c - 1) / 2=j) (hx:l[j]?=some x) (hy:l[c]?=some y) (hlt:Zv y.key x.key)
  (hmin:∀(i:Nat) (a:Msg),0<i→i<n→(i - 1) / 2=j→l[i]?=some a→¬Zv a.key y.key):Zc5 (ZeZ l j c x y) c n:=by
 obtain ⟨h1,h2⟩:=h
 have hg:=ZaL (i:=j) (k:=c) hx hy
 constructor
 ·intro i a b hi hn hij ha hb
  rw[hg] at ha hb
  rw[if_neg hij] at hb
  by_cases e1:i=c
  ·subst e1
   rw[if_pos rfl] at ha
   rw[if_pos hcj] at hb
   injection ha with ha
   injection hb with hb
   subst ha hb
   exact hlt.asymm
  ·rw[if_neg e1] at ha
   by_cases e2:(i - 1) / 2=j
   ·rw[if_pos e2] at hb
    rw[if_neg (by omega)] at ha
    injection hb with hb
    subst hb
    exact hmin i a hi hn e2 ha
   ·rw[if_neg e2] at hb
    by_cases e3:i=j
    ·rw[if_pos e3] at ha
     injection ha with ha
     subst ha
     subst e3
     exact h2 c y b hc0 hcn hi hcj hy hb
    ·rw[if_neg e3] at ha
     exact h1 i a b hi hn e3 e2 ha hb
 ·intro i a b hi hn hc hpar ha hb
  rw[hg] at ha hb
  rw[if_neg (by omega),if_neg (by omega)] at ha
  rw[if_neg (by omega),if_pos hcj] at hb
  injection hb with hb
  subst hb
  exact h1 i a y hi hn (by omega) (by omega) ha (by rw[hpar];exact hy)
theorem ZzM {q i0 n:Nat} {room:Int} {l:List Msg} (hn:n≤l.length) (hi0:i0≤n) (hl:l.length≤1001) (hS:Sat e w (Yc q room l::R))
  (hk0:(∀(i:Nat) (x y:Msg),0<i→i<n→(i - 1) / 2=i0→l[i]?=some x→l[i0]?=some y→¬Zv x.key y.key)→∀w',Sat e w' (Yc q room l::R)→K (.bool false) w')
  (hk:∀l' w',l'.Perm l→(∀i,n≤i→l'[i]?=l[i]?)→(ZBF l i0 n→Zb0 l' n)→Sat e w' (Yc q room l'::R)→K (.bool true) w') :
  Cl prog 214 #[.iface 286 (rcv q),.int .i64 (i0:Int),.int .i64 (n:Int)] w K:=by
 refine Zf3 ?_
 unfold Zmo
 refine J1.cut (λt7 w=>∃(i:Nat) (l':List Msg),t7=.int .i64 (i:Int)∧i0≤i∧l'.Perm l∧(∀i,n≤i→l'[i]?=l[i]?)∧(i=i0→l'=l∧∀(i:Nat) (x y:Msg),0<i→i<n→(i - 1) / 2=i0→l[i]?=some x→l[i0]?=some y→¬Zv x.key y.key)∧
   (i0<i→ZBF l i0 n→Zb0 l' n)∧Sat e w (Yc q room l'::R)) (λk1 hcut=>?_) ?_
 ·refine Zdk (λz t7 w=>∃(j:Nat) (l':List Msg),t7=.int .i64 (j:Int)∧z=n - j∧i0≤j∧j≤n∧l'.Perm l∧(∀i,n≤i→l'[i]?=l[i]?)∧(j=i0→l'=l)∧(i0<j→ZBF l i0 n→Zc5 l' j n)∧Sat e w (Yc q room l'::R)) (n - i0)
   ⟨i0,l,rfl,rfl,Nat.le_refl _,hi0,.refl _,λ_ _=>rfl,λ_=>rfl,(λh=>absurd h (Nat.lt_irrefl _)),hS⟩ ?_
  rintro z _ w g ⟨j,l',rfl,rfl,hij,hjn,hp,htail,hsame,hinv,h1⟩ hg
  have hlen:=hp.length_eq
  refine Zp5 (a:=2) (by omega) (Zb9 (b:=1) (by omega) ?_)
  have hend:∀w',(∀(i:Nat) (x y:Msg),0<i→i<n→(i - 1) / 2=j→l'[i]?=some x→l'[j]?=some y→¬Zv x.key y.key)→Sat e w' (Yc q room l'::R)→k1 (.int .i64 (j:Int)) w':=by
   intro w' hch h
   refine hcut _ _ ⟨j,l',rfl,hij,hp,htail,λe=>⟨hsame e,?_⟩,λhlt hh=>(hinv hlt hh).done hch,h⟩
   subst e
   have:=hsame rfl
   subst this
   exact hch
  refine Zu5 (λc1=>?_) (λc1=>?_)
  ·refine Zd (Zd (Yv (Zi (hend _ (λi x y hi hin hpar _ _=>?_) h1))))
   omega
  ·refine Zj (Zj (Ze7 (by omega) (Yd (Zf ?_))))
   refine Zb9 (b:=1) (by omega) ?_
   obtain ⟨x,hx⟩:=Zk (l:=l') (j:=j) (by omega)
   obtain ⟨y1,hy1⟩:=Zk (l:=l') (j:=2*j+1) (by omega)
   have hrest:∀(c:Nat) (y:Msg) w',(c=2*j+1∨c=2*j+1+1)→c<n→l'[c]?=some y→(∀(i:Nat) (a:Msg),0<i→i<n→(i - 1) / 2=j→l'[i]?=some a→¬Zv a.key y.key)→Sat e w' (Yc q room l'::R)→
     clI prog (.iface 286 (rcv q)) "Less" #[.int .i64 (c:Int),.int .i64 (j:Int)] w' λt38 w=>Zb3 t38 w λt39 w=>Zr t39 (k1 (.int .i64 (j:Int)) w)
      (clI prog (.iface 286 (rcv q)) "Swap" #[.int .i64 (j:Int),.int .i64 (c:Int)] w λ_ w=>g [.int .i64 (c:Int)] w):=by
    intro c y w' hc hcn hy hmin h2
    refine ZbS hy hx h2 λw3 h3=>?_
    by_cases hlt:ZeU y.key x.key<0
    ·rw[decide_eq_true hlt]
     refine ZaJ (Zf ?_)
     refine ZbT hx hy h3 λw4 h4=>?_
     refine hg _ _ _ (by omega) ⟨c,_,rfl,rfl,by omega,by omega,(ZcT hx hy).trans hp,λi hi=>?_,λe=>by omega,λ_ hh=>?_,h4⟩
     ·rw[ZaL hx hy,if_neg (by omega),if_neg (by omega)]
      exact htail i hi
     ·by_cases hj0:j=i0
      ·subst hj0
       have:=hsame rfl
       subst this
       exact hh.step (by omega) hcn (by omega) hx hy (Zav.1 hlt) hmin
      ·exact (hinv (by omega) hh).step (by omega) hcn (by omega) hx hy (Zav.1 hlt) hmin
    ·rw[decide_eq_false hlt]
     refine Zch (Zi (hend _ (λi a b hi hin hpar ha hb=>?_) h3))
     rw[hx] at hb
     injection hb with hb
     subst hb
     exact ZbN (hmin i a hi hin hpar ha) (λh=>hlt (Zav.2 h))
   refine Za7 (λc2=>?_) (λc2=>?_)
   ·obtain ⟨y2,hy2⟩:=Zk (l:=l') (j:=2*j+1+1) (by omega)
    refine Ze (Ze (Ze (Ze ?_)))
    refine ZbS hy2 hy1 h1 λw2 h2=>?_
    by_cases hlt:ZeU y2.key y1.key<0
    ·rw[decide_eq_true hlt]
     refine Yv (Zi ?_)
     refine hrest (2*j+1+1) y2 _ (.inr rfl) (by omega) hy2 (λi a hi hin hpar ha=>?_) h2
     have:i=2*j+1∨i=2*j+1+1:=by omega
     rcases this with rfl | rfl
     ·rw[hy1] at ha;injection ha with ha;subst ha;exact (Zav.1 hlt).asymm
     ·rw[hy2] at ha;injection ha with ha;subst ha;exact Zv.irrefl _
    ·rw[decide_eq_false hlt]
     refine Yv (Zf ?_)
     refine hrest (2*j+1) y1 _ (.inl rfl) (by omega) hy1 (λi a hi hin hpar ha=>?_) h2
     have:i=2*j+1∨i=2*j+1+1:=by omega
     rcases this with rfl | rfl
     ·rw[hy1] at ha;injection ha with ha;subst ha;exact Zv.irrefl _
     ·rw[hy2] at ha;injection ha with ha;subst ha;exact λh=>hlt (Zav.2 h)
   ·refine Zu (Zu (Zu (Zu (Yd (Zf ?_)))))
    refine hrest (2*j+1) y1 _ (.inl rfl) (by omega) hy1 (λi a hi hin hpar ha=>?_) h1
    have:i=2*j+1:=by omega
    subst this
    rw[hy1] at ha;injection ha with ha;subst ha;exact Zv.irrefl _
 ·rintro _ w ⟨i,l',rfl,hii,hp,htail,hsame,hd,h2⟩
  refine Ztu (λc=>?_) (λc=>?_)
  ·exact hk l' _ hp htail (hd (by omega)) h2
  ·have:i=i0:=by omega
   obtain ⟨hs1,hs2⟩:=hsame this
   subst hs1
   exact hk0 hs2 _ h2
theorem Zp7 {q i:Nat} {room:Int} {l:List Msg} {x:Msg} (hx:l[i]?=some x) (hl:l.length≤1001) (hS:Sat e w (Yc q room l::R))
  (hk:∀l' w',(l'++[x]).Perm l→(Zb0 l l.length→Zb0 l' l'.length)→Sat e w' (Yc q room l'::R)→K (.iface 81 (.agg x.cs.toArray)) w') :
  Cl prog 246 #[.iface 286 (rcv q),.int .i64 (i:Int)] w K:=by
 refine ZjV ?_
 unfold Zl7
 have h0:=(List.getElem?_eq_some_iff.1 hx).1
 obtain ⟨n,hn⟩:∃n,l.length=n+1:=⟨l.length - 1,by omega⟩
 obtain ⟨y,hy⟩:=Zk (l:=l) (j:=n) (by omega)
 refine Zh2 hS λw2 h2=>?_
 rw[hn]
 refine ZjR (by omega) (by omega) ?_
 rw[Nat.add_sub_cancel]
 have hlast:∀l2 w',l2.Perm l→l2[n]?=some x→(Zb0 l l.length→Zb0 l2 n)→Sat e w' (Yc q room l2::R)→clI prog (.iface 286 (rcv q)) "Pop" #[] w' K:=by
  intro l2 w' hp hln hh h
  have hl2:l2.length=n+1:=by rw[hp.length_eq,hn]
  have hsp:l2=l2.take n++[x]:=by
   have:=Zx hln
   rw[List.take_of_length_le (by omega)] at this
   exact this
  have hpf:(l2.take n++[x]).Perm l:=by rw[←hsp];exact hp
  rw[hsp] at h
  refine Zlm (by rw[List.length_take];omega) h λw5 h5=>hk _ _ hpf (λhl=>?_) h5
  have hh2:=hh hl
  intro i a b hi hin ha hb
  rw[List.length_take] at hin
  rw[List.getElem?_take,if_pos (by omega)] at ha hb
  exact hh2 i a b hi (by omega) ha hb
 refine ZrP (λc=>?_) (λc=>?_)
 ·have hin:i≠n:=λe=>c (by rw[e])
  refine Zi ?_
  refine ZbT hx hy h2 λw3 h3=>?_
  have hp1:=ZcT hx hy
  have hg1:=ZaL hx hy
  have hln1:(ZeZ l i n x y)[n]?=some x:=by rw[hg1,if_pos rfl]
  have hhole:Zb0 l l.length→ZBF (ZeZ l i n x y) i n:=by
   intro hh
   constructor
   ·intro a u v ha han hai hpi hu hv
    rw[hg1,if_neg (by omega),if_neg hai] at hu
    rw[hg1,if_neg (by omega),if_neg hpi] at hv
    exact hh a u v ha (by omega) hu hv
   ·intro a u v ha han hi0 hpar hu hv
    rw[hg1,if_neg (by omega),if_neg (by omega)] at hu
    rw[hg1,if_neg (by omega),if_neg (by omega)] at hv
    have h3:=hh a u x ha (by omega) hu (by rw[hpar];exact hx)
    have h4:=hh i x v hi0 (by omega) hx hv
    exact ZbN h3 h4
  refine ZzM (by rw[Zcx];omega) (by omega) (by rw[Zcx];omega) h3 (λhch w4 h4=>?_) (λl2 w4 hp2 htail hd h4=>?_)
  ·refine Zch (Zi ?_)
   refine ZFZ (n:=n) (by omega) (by rw[Zcx];omega) (by rw[Zcx];omega) h4 λl2 w5 hp2 htail hu h5=>?_
   refine hlast l2 _ (hp2.trans hp1) (by rw[htail n (Nat.le_refl _)];exact hln1) (λhh=>hu ⟨λa u v ha han hai hu' hv'=>?_,(hhole hh).2⟩) h5
   by_cases hpi:(a - 1) / 2=i
   ·rw[hpi] at hv';exact hch a u v ha han hpi hu' hv'
   ·exact (hhole hh).1 a u v ha han hai hpi hu' hv'
  ·refine ZaJ (Zf ?_)
   exact hlast l2 _ (hp2.trans hp1) (by rw[htail n (Nat.le_refl _)];exact hln1) (λhh=>hd (hhole hh)) h4
 ·have hin:i=n:=by omega
  subst hin
  refine Zf ?_
  exact hlast l _ (.refl _) hx (λhh a u v ha han hu hv=>hh a u v ha (by omega) hu hv) h2
theorem ZoC {q:Nat} {room:Int} {l:List Msg} {x:Msg} (hx:x∈l) (hl:l.length≤1001) (hS:Sat e w (Yc q room l::R))
  (hk:∀l' w',(l'++[x]).Perm l→(Zb0 l l.length→Zb0 l' l'.length)→Sat e w' (Yc q room l'::R)→K (.tuple #[.agg x.cs.toArray,.bool true]) w'):Cl prog 236 #[.pointer (some ⟨q,0,none⟩),.agg x.key.cs.toArray] w K:=by
 refine Zeh ?_
 unfold Zd7
 rw[ZTr,ZT1]
 obtain ⟨v,b,m,ha,h1⟩:=Zcq hS
 refine Yp (cs:=x.key.cs) h1 rfl λc w2 h2=>?_
 refine Yp (cs:=Yi [0,0,0,0,0,0]) h2 rfl λd w3 h3=>?_
 refine ZaY h3 λw4 h4=>?_
 refine Zh (Za (Zb h4 2 rfl (v:=.map (some b)) rfl ?_))
 refine Zo h4 1 (vs:=x.key.cs) rfl (by rfl) rfl ?_
 refine ZsE Zgm ZTF h4 4 rfl x.key ?_
 obtain ⟨i,hi⟩:=List.mem_iff_getElem?.1 hx
 rw[(ha.ok x.key i).2 ⟨x,hi,rfl⟩]
 refine Zam (Zal (ZaJ (Zf ?_)))
 refine Zaf [.pointer (some ⟨q,0,none⟩)] (by kernel_rfl) ?_
 refine Zp7 hi hl (ZbP ha (h4.selR [_,_,_,_,_] [_,_,_,_] [2,3,4,0] (by decide) rfl)) λl' w5 hp hh h5=>?_
 refine ZvQ (by kernel_rfl) ?_
 refine Zq h5 1 rfl (vs:=x.cs) rfl rfl (Nat.le_of_ble_eq_true rfl) (Zg _) (cs':=x.cs) (by kernel_rfl) λw6 h6=>?_
 refine Zo h6 1 (vs:=x.cs) rfl (by rfl) rfl ?_
 exact hk _ _ hp hh (h6.selR [_,_] [_] [0] (by decide) rfl)
theorem Zmh {q:Nat} {room:Int} (hS:Sat e w (Yc q room []::R)) (hk:∀w',Sat e w' (Yc q room []::R)→K (.tuple #[.agg Msg.zero.cs.toArray,.bool false]) w'):Cl prog 99 #[.pointer (some ⟨q,0,none⟩)] w K:=by
 refine Zcm ?_
 unfold ZcE
 rw[ZTr]
 obtain ⟨v,b,m,ha,h1⟩:=Zcq hS
 refine Yp (cs:=Yi [0,0,0,0,0,0]) h1 rfl λd w3 h3=>?_
 refine Zh (Za (Zb h3 1 rfl (v:=v) rfl ?_))
 refine Zt h3 2 rfl (λ_=>Zp) ?_
 refine Znq rfl (Zi ?_)
 refine Zaf Msg.zero.cs (by kernel_rfl) ?_
 refine Zq h3 0 rfl (vs:=Msg.zero.cs) rfl rfl (Nat.le_of_ble_eq_true rfl) (Zg _) (cs':=Msg.zero.cs) (by kernel_rfl) λw4 h4=>?_
 refine Zo h4 0 (vs:=Msg.zero.cs) rfl (by rfl) rfl ?_
 exact hk _ (ZbP ha h4.drop)
theorem ZpH {q:Nat} {room:Int} {l:List Msg} {x:Msg} (hx:l[0]?=some x) (hS:Sat e w (Yc q room l::R))
  (hk:∀w',Sat e w' (Yc q room l::R)→K (.tuple #[.agg x.cs.toArray,.bool true]) w'):Cl prog 99 #[.pointer (some ⟨q,0,none⟩)] w K:=by
 refine Zcm ?_
 unfold ZcE
 rw[ZTr]
 obtain ⟨v,b,m,ha,h1⟩:=Zcq hS
 have h0:=(List.getElem?_eq_some_iff.1 hx).1
 refine Yp (cs:=Yi [0,0,0,0,0,0]) h1 rfl λd w3 h3=>?_
 refine Zh (Za (Zb h3 1 rfl (v:=v) rfl ?_))
 refine Zt h3 2 rfl (λ_=>Zp) ?_
 refine Zd8 (by omega) (Zf ?_)
 refine Zh (Za (Zb h3 1 rfl (v:=v) rfl ?_))
 refine Zw (j:=0) h3 2 rfl (λ_=>Zp) (λ_=>rfl) hx λp hp=>?_
 refine Ym h3 2 rfl hp rfl ?_
 refine Zq h3 0 rfl (vs:=x.cs) rfl rfl (Nat.le_of_ble_eq_true rfl) (Zg _) (cs':=x.cs) (by kernel_rfl) λw4 h4=>?_
 refine Zo h4 0 (vs:=x.cs) rfl (by rfl) rfl ?_
 exact hk _ (ZbP ha h4.drop)
end Go.Proofs.YtnhaekgogppbiaaGreat
end
section
namespace Go.Proofs.YtnhaekgogppbiaaGreat
open Go Go.E
set_option maxRecDepth 100000
variable {e w:World} {R:List HP} {K:KV}
structure Place (l:List Msg) (m:Msg) (p:Nat):Prop where
 le:p≤l.length
 low:∀z∈l.take p,¬Zv m.key z.key
 high:p=l.length∨∃y,l[p]?=some y∧Zv m.key y.key
def ZCz (l:List Msg) (m:Msg) (p:Nat):List Msg:=l.take p++m::l.drop p
def Up (l:List Msg):Prop:=l.Pairwise λa b=>Zv a.key b.key
theorem Place.up {l:List Msg} {m:Msg} {p:Nat} (h:Place l m p) (hu:Up l) (hne:∀y∈l,y.key≠m.key):Up (ZCz l m p):=by
 unfold Up ZCz at*
 have hs:(l.take p++l.drop p).Pairwise λa b=>Zv a.key b.key:=by rw[List.take_append_drop];exact hu
 obtain ⟨h1,h2,h3⟩:=List.pairwise_append.1 hs
 have hm:∀y∈l.drop p,Zv m.key y.key:=by
  intro y hy
  rcases h.high with hp | ⟨z,hz,hmz⟩
  ·rw[List.drop_of_length_le (by omega)] at hy;cases hy
  ·rw[Zaq hz] at hy h2
   rcases List.mem_cons.1 hy with rfl | hy
   ·exact hmz
   ·exact hmz.trans ((List.pairwise_cons.1 h2).1 y hy)
 refine List.pairwise_append.2 ⟨h1,List.pairwise_cons.2 ⟨hm,h2⟩,λz hz y hy=>?_⟩
 rcases List.mem_cons.1 hy with rfl | hy
 ·rcases Zv.tri z.key y.key with h4 | h4 | h4
  ·exact h4
  ·exact absurd h4 (hne z (List.mem_of_mem_take hz))
  ·exact absurd h4 (h.low z hz)
 ·exact h3 z hz y hy
structure ZHc (l:List Msg) (m:Msg) (i:Nat) (d:Bool) (c:List Msg):Prop where
 no:d=false→c=l.take i∧∀z∈l.take i,¬Zv m.key z.key
 yes:d=true→∃p y,p<i∧l[p]?=some y∧Zv m.key y.key∧(∀z∈l.take p,¬Zv m.key z.key)∧c=l.take p++m::(l.take i).drop p
theorem ZHc.len {l:List Msg} {m:Msg} {i:Nat} {d:Bool} {c:List Msg} (h:ZHc l m i d c) (_hi:i≤l.length):c.length≤i+1:=by
 cases d with
 | false=>rw[(h.no rfl).1,List.length_take];omega
 | true=>
  obtain ⟨p,y,hp,_,_,_,rfl⟩:=h.yes rfl
  simp only[List.length_append,List.length_cons,List.length_take,List.length_drop]
  omega
end Go.Proofs.YtnhaekgogppbiaaGreat
namespace Go.Proofs.YtnhaekgogppbiaaGreat
open Go Go.E
set_option maxRecDepth 100000
variable {e w:World} {R:List HP} {K:KV}
def without (l:List Msg) (k:Key):List Msg:=l.filter λx=>!decide (x.key=k)
end Go.Proofs.YtnhaekgogppbiaaGreat
end
section
namespace Go.Proofs.YtnhaekgogppbiaaGreat
open Go Go.E
set_option maxRecDepth 100000
instance (a b:Key):Decidable (Zv a b):=by unfold Zv;infer_instance
structure En where
 m:Msg
 ahead:Int
 sent:Int
 st:Int
 outs:List Msg
structure EnX where
 m:Msg
 ahead:Int
 sent:Int
 st:Int
 ov:Value
 outs:List Msg
def EnX.e (x:EnX):En:=⟨x.m,x.ahead,x.sent,x.st,x.outs⟩
variable {e w:World} {L Q R:List HP} {K:KV} {S S2:HP}
def EnX.cs (x:EnX):List Value:=[.int .i64 x.m.key.T,.int .i64 x.m.key.From,.int .i64 x.m.key.Seq,.int .i64 x.m.To,.int .i64 x.m.Class,.int .i64 x.m.Body,.int .i64 x.ahead,.int .i64 x.sent,.int .i64 x.st,x.ov]
def EnX.zero:EnX:=⟨Msg.zero,0,0,0,.slice none 0 0,[]⟩
def ZcP (x:EnX):HP:=Zz 81 6 Msg.cs x.ov x.outs
theorem EnX.flat {x:EnX} (h:flat x.ov=true):∀c∈x.cs,Go.E.flat c=true:=by
 intro c hc
 simp only[EnX.cs,List.mem_cons,List.not_mem_nil,or_false] at hc
 rcases hc with rfl | rfl | rfl | rfl | rfl | rfl | rfl | rfl | rfl | rfl <;> first | rfl | exact h
theorem Zne {a b:List HP} (h:Sat e w (Yh (a++b)::R)):Sat e w (Yh a::Yh b::R):=by
 have h1:=h.split
 rw[List.append_assoc] at h1
 have h2:Sat e w (Yh a::(b++R)):=Sat.join h1
 have h3:Sat e w (b++(Yh a::R)):=h2.perm List.perm_middle.symm
 exact (Sat.join h3).swap
theorem ZtR {a b:List HP} (h:Sat e w (Yh a::Yh b::R)):Sat e w (Yh (a++b)::R):=by
 have h1:Sat e w (b++(Yh a::R)):=Sat.split h.swap
 have h2:Sat e w (Yh a::(b++R)):=h1.perm List.perm_middle
 have h3:=h2.split
 rw[←List.append_assoc] at h3
 exact Sat.join h3
theorem Zt0 {a b:List HP} (hp:a.Perm b) (h:Sat e w (Yh a::R)):Sat e w (Yh b::R):=Sat.join (h.split.perm (hp.append_right R))
theorem ZlV {xs:List EnX} (i:Nat) (hS:Sat e w L) (hi:L[i]?=some (Yh (xs.map ZcP))) {x:EnX} (hx:x∈xs):flat x.ov=true:=by
 obtain ⟨j,hj⟩:=List.getElem?_of_mem hx
 have h1:=(hS.pick i hi).split
 have h2:(xs.map ZcP++L.eraseIdx i)[j]?=some (ZcP x):=by
  rw[List.getElem?_append_left (by rw[List.length_map];exact (List.getElem?_eq_some_iff.1 hj).1),List.getElem?_map,hj]
  rfl
 exact (h1.own_cells j h2).2
structure ZkM (l:List En):Prop where
 up:l.Pairwise λa b=>Zv a.m.key b.m.key
 len:l.length≤64
 outs:∀x∈l,x.outs.length≤1000
structure PV where
 lv:Value
 xs:List EnX
def Yf (p:Nat) (fl:Int) (l:List En):HP:=hex λv:PV=>Yh [pur (v.xs.map EnX.e=l∧ZkM l),blk p 185 [.int .i64 fl,v.lv],Zz 203 10 EnX.cs v.lv v.xs,Yh (v.xs.map ZcP)]
theorem Zfr {p:Nat} {fl:Int} {l:List En} (h:Sat e w (Yf p fl l::R)):∃lv xs,(xs.map EnX.e=l∧ZkM l)∧Sat e w (blk p 185 [.int .i64 fl,lv]::Zz 203 10 EnX.cs lv xs::Yh (xs.map ZcP)::R):=by
 obtain ⟨v,h0⟩:=h.ex
 exact ⟨v.lv,v.xs,Sat.pure h0.split⟩
theorem Zh1 {p:Nat} {fl:Int} {l:List En} {lv:Value} {xs:List EnX} (hp:xs.map EnX.e=l∧ZkM l) (h:Sat e w (blk p 185 [.int .i64 fl,lv]::Zz 203 10 EnX.cs lv xs::Yh (xs.map ZcP)::R)):Sat e w (Yf p fl l::R):=
 .mk_ex ⟨lv,xs⟩ (.join (l':=[_,_,_,_]) (.mk_pure hp h))
def Zwo (v:Value) (l:List En):HP:=hex λxs:List EnX=>Yh [pur (xs.map EnX.e=l),Zz 203 10 EnX.cs v xs,Yh (xs.map ZcP)]
theorem ZxO {v:Value} {l:List En} (h:Sat e w (Zwo v l::R)):∃xs,xs.map EnX.e=l∧Sat e w (Zz 203 10 EnX.cs v xs::Yh (xs.map ZcP)::R):=by
 obtain ⟨xs,h0⟩:=h.ex
 exact ⟨xs,Sat.pure h0.split⟩
theorem ZxK {v:Value} {xs:List EnX} (h:Sat e w (Zz 203 10 EnX.cs v xs::Yh (xs.map ZcP)::R)):Sat e w (Zwo v (xs.map EnX.e)::R):=.mk_ex xs (.join (l':=[_,_,_]) (.mk_pure rfl h))
theorem Zgk (hS:Sat e w R) (hk:∀p w',Sat e w' (Yf p 0 []::R)→K (.pointer (some ⟨p,0,none⟩)) w'):Cl prog 50 #[] w K:=by
 refine ZmL ?_
 unfold ZrX
 refine Zaf [.int .i64 0,.slice none 0 0] (by kernel_rfl) ?_
 refine Yp (cs:=[.int .i64 0,.slice none 0 0]) hS rfl λp w1 h1=>?_
 refine hk p _ (Zh1 (lv:=.slice none 0 0) (xs:=[]) ⟨rfl,.nil,by simp,by simp⟩ ?_)
 have h2:Sat e w1 (Yh []::blk p 185 [.int .i64 0,.slice none 0 0]::R):=Sat.join (l':=[]) h1
 have h3:=h2.own_nil 203 10 EnX.cs
 exact h3.selR [_,_,_] [_,_,_] [2,0,1] (by decide) rfl
theorem Zfi {p:Nat} {fl:Int} {l:List En} (hS:Sat e w (Yf p fl l::R)) (hk:K (.int .i64 fl) w):Cl prog 103 #[.pointer (some ⟨p,0,none⟩)] w K:=by
 refine ZfC ?_
 unfold ZfT
 obtain ⟨lv,xs,hp,h1⟩:=Zfr hS
 exact Zh (Za (Zb h1 0 rfl (v:=.int .i64 fl) rfl hk))
theorem Znx {p:Nat} {fl:Int} {l:List En} (hS:Sat e w (Yf p fl l::R)) (hk:K (.int .i64 (l.length:Int)) w):Cl prog 76 #[.pointer (some ⟨p,0,none⟩)] w K:=by
 refine Zib ?_
 unfold ZiH
 obtain ⟨lv,xs,hp,h1⟩:=Zfr hS
 refine Zh (Za (Zb h1 0 rfl (v:=lv) rfl ?_))
 refine Zt h1 1 rfl (λ_=>Zp) ?_
 rw[show (xs.length:Int)=l.length from by rw[←hp.1,List.length_map]]
 exact hk
theorem Zrr {p:Nat} {fl:Int} {l:List En} (hS:Sat e w (Yf p fl l::R)) (hk:∀v w',Sat e w' (Zz 79 3 Key.cs v (l.map λx=>x.m.key)::Yf p fl l::R)→K v w'):Cl prog 241 #[.pointer (some ⟨p,0,none⟩)] w K:=by
 refine Zgt ?_
 unfold Zhm
 obtain ⟨lv,xs,hp,h1⟩:=Zfr hS
 have hxl:xs.length≤64:=by have:=hp.2.len;rw[←hp.1,List.length_map] at this;exact this
 refine Zh (Za (Zb h1 0 rfl (v:=lv) rfl ?_))
 refine Zt h1 1 rfl (λ_=>Zp) ?_
 rw[ZTG]
 refine ZjF (λq t3 t11 w=>∃j:Nat,j≤xs.length∧t11=.int .i64 j∧q=xs.length - j∧Sat e w (Zz 79 3 Key.cs t3 ((xs.take j).map λx=>x.m.key)::blk p 185 [.int .i64 fl,lv]::Zz 203 10 EnX.cs lv xs::Yh (xs.map ZcP)::R)) xs.length
  ⟨0,Nat.zero_le _,rfl,rfl,h1.own_nil 79 3 Key.cs⟩ ?_
 rintro q t3 _ w g ⟨j,hj,rfl,rfl,h2⟩ hg
 refine Za7 (λc=>Zi ?_) (λc=>Zf ?_)
 ·obtain ⟨x,hx⟩:=Zk (l:=xs) (j:=j) (by omega)
  refine Zw h2 2 rfl (λ_=>Zp) (λ_=>rfl) hx λa ha=>Ym h2 2 rfl ha rfl ?_
  refine Yp (cs:=EnX.zero.cs) h2 rfl λb w3 h3=>?_
  refine Zq h3 0 rfl (vs:=x.cs) rfl rfl (by simp[EnX.zero,EnX.cs]) (EnX.flat (ZlV 4 h3 rfl (List.mem_of_getElem? hx))) (cs':=x.cs) (by rfl) λw4 h4=>?_
  refine Za (Za (Zo h4 0 (vs:=x.m.key.cs) rfl (by rfl) rfl ?_))
  refine Zj7 ZVq (f:=Key.cs) (λ_=>rfl) (λ_=>Zg _) h4.swap (x:=x.m.key) rfl (by rw[List.length_map,List.length_take];omega) λv' w5 h5=>?_
  refine Yr (by omega) ?_
  refine hg _ _ _ _ (by omega) ⟨j+1,by omega,rfl,rfl,?_⟩
  rw[Zx hx,List.map_append]
  exact h5.selR [_,_] [_] [0] (by decide) rfl
 ·have ej:j=xs.length:=by omega
  rw[ej,List.take_length] at h2
  have hke:xs.map (λx=>x.m.key)=l.map λx=>x.m.key:=by rw[←hp.1,List.map_map];rfl
  rw[hke] at h2
  refine hk _ _ (Sat.swap (Zh1 (lv:=lv) hp ?_))
  exact h2.selR [_,_,_,_] [_,_,_,_] [1,2,3,0] (by decide) rfl
theorem Zw8 {v:Value} {l:List Msg} (i:Nat) (hi:L[i]?=some S) (hl:l.length≤1000000) (hS:Sat e w L) (hr:∀g,S g→rdS 6 Msg.cs v l g)
  (hk:∀v' w',Sat e w' (Zz 81 6 Msg.cs v' l::L)→K v' w'):Cl prog 174 #[v] w K:=by
 have hback:∀{X:HP} {w'},Sat e w' (X::S::L.eraseIdx i)→Sat e w' (X::L):=λh=>h.perm (List.Perm.cons _ (ZfR L i S hi).symm)
 have h0:=hS.pick i hi
 refine ZaE ?_
 unfold Zaw
 obtain ⟨A,c,rfl,_⟩:=h0.shape 0 rfl hr
 cases A with
 | none=>
  refine Yn (w':=w) (v:=.bool true) (by kernel_rfl) ?_
  have hnil:l=[]:=by
   obtain ⟨g,hg,_⟩:=h0.get 0 rfl
   obtain ⟨A',c',h1,h2,h3⟩:=hr g hg
   injection h1 with e1 e2 e3
   by_cases h0:0<l.length
   ·obtain ⟨a,ha,_⟩:=h3 h0
    rw[←e1] at ha
    cases ha
   ·exact List.length_eq_zero_iff.1 (by omega)
  subst hnil
  exact Zi (hk _ _ (hback (h0.own_nil 81 6 Msg.cs)))
 | some a=>
  refine Yn (w':=w) (v:=.bool false) (by kernel_rfl) ?_
  refine Zf ?_
  refine Zw3 h0 Msg.cs λv1 w2 h2=>?_
  refine Zeo ZTO ZTR (f:=Msg.cs) (λ_=>rfl) (λ_=>Zg _) h2 hr (by simp;omega) λv2 w3 h3=>?_
  rw[List.nil_append] at h3
  exact hk _ _ (hback h3)
theorem Znb {x:EnX} (i:Nat) (hi:L[i]?=some S) (hl:x.outs.length≤1000000) (hS:Sat e w L) (hr:∀g,S g→rdS 6 Msg.cs x.ov x.outs g)
  (hk:∀v' w',Sat e w' (ZcP ⟨x.m,x.ahead,x.sent,x.st,v',x.outs⟩::L)→K (.agg (EnX.cs ⟨x.m,x.ahead,x.sent,x.st,v',x.outs⟩).toArray) w'):Cl prog 240 #[.agg x.cs.toArray] w K:=by
 refine ZmW ?_
 unfold ZrL
 refine Yp (cs:=x.cs) hS rfl λb w1 h1=>?_
 rw[ZTG]
 refine Yp (cs:=EnX.zero.cs) h1 rfl λb2 w2 h2=>?_
 refine Za (Zb h2 1 rfl (v:=x.ov) rfl ?_)
 refine Zw8 (i+2) (by simpa using hi) hl h2 hr λv' w3 h3=>?_
 have q1:=h3.own_cells 0 rfl
 refine Za (Zq h3 2 rfl (vs:=[v']) q1.1 rfl (Nat.le_of_ble_eq_true rfl) (λc hc=>by rw[List.mem_singleton.1 hc];exact q1.2) (cs':=(EnX.cs ⟨x.m,x.ahead,x.sent,x.st,v',x.outs⟩)) (by rfl) λw4 h4=>?_)
 refine Zo h4 2 (vs:=(EnX.cs ⟨x.m,x.ahead,x.sent,x.st,v',x.outs⟩)) rfl (by rfl) rfl ?_
 refine Zq h4 1 rfl (vs:=(EnX.cs ⟨x.m,x.ahead,x.sent,x.st,v',x.outs⟩)) rfl rfl (by simp[EnX.zero,EnX.cs]) (EnX.flat q1.2) (cs':=(EnX.cs ⟨x.m,x.ahead,x.sent,x.st,v',x.outs⟩)) (by rfl) λw5 h5=>?_
 refine Zo h5 1 (vs:=(EnX.cs ⟨x.m,x.ahead,x.sent,x.st,v',x.outs⟩)) rfl (by rfl) rfl ?_
 exact hk _ _ (h5.selR [_,_,_] [_] [0] (by decide) rfl)
theorem ZqS {p:Nat} {fl:Int} {l:List En} (hS:Sat e w (Yf p fl l::R))
  (h0:l=[]→∀w',Sat e w' (Yf p fl l::R)→K (.tuple #[.agg EnX.zero.cs.toArray,.bool false]) w')
  (h1:∀(x:EnX) (l':List En),l=l'++[x.e]→∀w',Sat e w' (ZcP x::Yf p fl l::R)→K (.tuple #[.agg x.cs.toArray,.bool true]) w'):Cl prog 238 #[.pointer (some ⟨p,0,none⟩)] w K:=by
 refine Zgz ?_
 unfold Zhi
 obtain ⟨lv,xs,hp,h2⟩:=Zfr hS
 have hxl:xs.length≤64:=by have:=hp.2.len;rw[←hp.1,List.length_map] at this;exact this
 rw[ZTG]
 refine Yp (cs:=EnX.zero.cs) h2 rfl λt2 w3 h3=>?_
 refine Zh (Za (Zb h3 1 rfl (v:=lv) rfl ?_))
 refine Zt h3 2 rfl (λ_=>Zp) ?_
 refine ZoR (λc=>Zi ?_) (λc=>Zf ?_)
 ·have hx0:xs=[]:=List.length_eq_zero_iff.1 (by omega)
  refine Zaf EnX.zero.cs (by kernel_rfl) ?_
  refine Zq h3 0 rfl (vs:=EnX.zero.cs) rfl rfl (by simp[EnX.zero,EnX.cs]) (EnX.flat rfl) (cs':=EnX.zero.cs) (by kernel_rfl) λw4 h4=>?_
  refine Zo h4 0 (vs:=EnX.zero.cs) rfl (by rfl) rfl ?_
  exact h0 (by rw[←hp.1,hx0];rfl) _ (Zh1 hp h4.drop)
 ·refine ZaY h3 λw4 h4=>?_
  refine Zh (Za (Zb h4 1 rfl (v:=lv) rfl ?_))
  refine Zh (Za (Zb h4 1 rfl (v:=lv) rfl ?_))
  refine Zt h4 2 rfl (λ_=>Zp) ?_
  refine ZoJ (by omega) (by omega) ?_
  rw[show (xs.length:Int) - 1=((xs.length - 1:Nat):Int) from by omega]
  obtain ⟨x,hx⟩:=Zk (l:=xs) (j:=xs.length - 1) (by omega)
  have hxm:=List.mem_of_getElem? hx
  have hout:x.outs.length≤1000:=hp.2.outs x.e (by rw[←hp.1];exact List.mem_map_of_mem hxm)
  refine Zw h4 2 rfl (λ_=>Zp) (λ_=>rfl) hx λa ha=>Ym h4 2 rfl ha rfl ?_
  refine Znb (x:=x) 3 rfl (by omega) h4 (λg hg=>?_) λv' w5 h5=>?_
  ·obtain ⟨j,hj⟩:=List.getElem?_of_mem hxm
   obtain ⟨hs,k1,k2⟩:=ZcB.get (S:=ZcP x) (l:=xs.map ZcP) hg (i:=j) (by rw[List.getElem?_map,hj];rfl)
   obtain ⟨A,c,q1,q2,q3⟩:=Zp k1
   exact ⟨A,c,q1,q2,λh0=>by obtain ⟨a,h4,h5⟩:=q3 h0;exact ⟨a,h4,h5.up k2⟩⟩
  have q1:=h5.own_cells 0 rfl
  refine Zq h5 1 rfl (vs:=(EnX.cs ⟨x.m,x.ahead,x.sent,x.st,v',x.outs⟩)) rfl rfl (by simp[EnX.zero,EnX.cs]) (EnX.flat q1.2) (cs':=(EnX.cs ⟨x.m,x.ahead,x.sent,x.st,v',x.outs⟩)) (by rfl) λw6 h6=>?_
  refine Zo h6 1 (vs:=(EnX.cs ⟨x.m,x.ahead,x.sent,x.st,v',x.outs⟩)) rfl (by rfl) rfl ?_
  have hsp:xs=xs.take (xs.length - 1)++[x]:=by
   conv=>lhs;rw[←List.take_append_drop (xs.length - 1) xs,Zaq hx,List.drop_of_length_le (by omega)]
  refine h1 ⟨x.m,x.ahead,x.sent,x.st,v',x.outs⟩ ((xs.take (xs.length - 1)).map EnX.e) ?_ _ ?_
  ·rw[←hp.1]
   conv=>lhs;rw[hsp,List.map_append]
   rfl
  ·have h7:=Zh1 hp (h6.selR [_,_,_,_,_] [_,_,_,_] [2,3,4,0] (by decide) rfl)
   exact h7.swap
theorem Zws {n:Nat} {fv:Value} {f:Nat→Bool} (hn:n≤1000000) (hmono:∀i j,i≤j→j<n→f i=true→f j=true) (hS:Sat e w L)
  (hp:∀j,j<n→∀(w:World) (K:KV),Sat e w L→(∀w',Sat e w' L→K (.bool (f j)) w')→clV prog fv #[.int .i64 (j:Int)] w K)
  (hk:∀(m:Nat) w',m≤n→(∀j,j<m→f j=false)→(∀j,m≤j→j<n→f j=true)→Sat e w' L→K (.int .i64 (m:Int)) w'):Cl prog 137 #[.int .i64 (n:Int),fv] w K:=by
 refine Zj9 ?_
 unfold Zmv
 refine ZjF (λq t5 t6 w=>∃lo hi:Nat,t5=.int .i64 lo∧t6=.int .i64 hi∧q=hi - lo∧lo≤hi∧hi≤n∧(∀j,j<lo→f j=false)∧(∀j,hi≤j→j<n→f j=true)∧Sat e w L) n
  ⟨0,n,rfl,rfl,by omega,Nat.zero_le _,Nat.le_refl _,λ_ h=>absurd h (by omega),λ_ h1 h2=>absurd h2 (by omega),hS⟩ ?_
 rintro q _ _ w g ⟨lo,hi,rfl,rfl,rfl,h1,h2,h3,h4,h5⟩ hg
 refine Za7 (λc=>Zi ?_) (λc=>Zf ?_)
 ·refine Zb9 (by omega) ?_
  refine Zqe (xo:=λ_=>_) (yo:=λ_=>_) (n:=lo+hi) (by omega) ?_
  have hm1:lo≤(lo+hi) / 2:=by omega
  have hm2:(lo+hi) / 2<hi:=by omega
  generalize (lo+hi) / 2=m at hm1 hm2
  refine hp m (by omega) _ _ h5 λw6 h6=>?_
  cases hf:f m with
  | false=>
   refine Zch (Zi (Yr (by omega) ?_))
   refine hg _ _ _ _ (by omega) ⟨m+1,hi,rfl,rfl,rfl,by omega,h2,λj hj=>?_,h4,h6⟩
   cases hfj:f j with
   | false=>rfl
   | true=>
    have:=hmono j m (by omega) (by omega) hfj
    rw[hf] at this
    cases this
  | true=>
   refine ZaJ (Zf ?_)
   exact hg _ _ _ _ (by omega) ⟨lo,m,rfl,rfl,rfl,by omega,by omega,h3,λj hj1 hj2=>hmono m j hj1 hj2 hf,h6⟩
 ·have e1:lo=hi:=by omega
  subst e1
  exact hk lo _ h2 h3 h4 h5
theorem Zyc {p:Nat} {fl:Int} {lv:Value} {xs:List EnX} {k:Key} {by':Value} {P:EnX→Bool} (hx:xs.length≤64) (hby:flat by'=true∧by'.cells.toList=[by'])
  (hmono:∀(i j:Nat) x y,i≤j→xs[i]?=some x→xs[j]?=some y→P y=true→P x=true)
  (hP:∀(x:EnX) (w:World) (L:List HP) (K:KV),Sat e w L→(∀w',Sat e w' L→K (.bool (P x)) w')→clV prog by' #[.agg x.cs.toArray,.agg k.cs.toArray] w K)
  (hS:Sat e w (blk p 185 [.int .i64 fl,lv]::Zz 203 10 EnX.cs lv xs::Q))
  (hk:∀(m:Nat) w',m≤xs.length→(∀x∈xs.take m,P x=true)→(∀x∈xs.drop m,P x=false)→Sat e w' (blk p 185 [.int .i64 fl,lv]::Zz 203 10 EnX.cs lv xs::Q)→K (.int .i64 (m:Int)) w') :
  Cl prog 123 #[.pointer (some ⟨p,0,none⟩),by',.agg k.cs.toArray] w K:=by
 refine Zgw ?_
 unfold ZgW
 refine Yp (cs:=[.pointer (some ⟨p,0,none⟩)]) hS rfl λb3 w1 h1=>?_
 refine Yp (cs:=[by']) h1 hby.2 λb4 w2 h2=>?_
 refine Yp (cs:=k.cs) h2 rfl λb5 w3 h3=>?_
 refine Zb h3 2 rfl rfl ?_
 refine Zh (Za (Zb h3 3 rfl (v:=lv) rfl ?_))
 refine Zt h3 4 rfl (λ_=>Zp) ?_
 refine Zws (n:=xs.length) (f:=λj=>!(xs[j]?.map P).getD false) (by omega) (λi j hij hj hi=>?_) h3 (λj hj w K h4 hK=>?_) (λm w4 hm hlo hhi h4=>?_)
 ·obtain ⟨y,hy⟩:=Zk (l:=xs) (j:=j) hj
  obtain ⟨x,hx⟩:=Zk (l:=xs) (j:=i) (by omega)
  simp only[hy,hx,Option.map_some,Option.getD_some,Bool.not_eq_true'] at hi ⊢
  cases hpy:P y with
  | false=>rfl
  | true=>rw[hmono i j x y hij hx hy hpy] at hi;cases hi
 ·obtain ⟨y,hy⟩:=Zk (l:=xs) (j:=j) hj
  refine ⟨_,_,_,rfl,?_⟩
  refine Ze2 (t0:=.int .i64 (j:Int)) (t1:=.pointer (some ⟨b4,0,none⟩)) (t2:=.pointer (some ⟨b3,0,none⟩)) (t3:=.pointer (some ⟨b5,0,none⟩)) ?_
  unfold ZeN
  refine ZaY h4 λw5 h5=>?_
  refine Zb h5 1 rfl rfl (Zb h5 2 rfl rfl ?_)
  refine Zh (Za (Zb h5 3 rfl (v:=lv) rfl ?_))
  refine Zw h5 4 rfl (λ_=>Zp) (λ_=>rfl) hy λa ha=>Ym h5 4 rfl ha rfl ?_
  refine Zo h5 0 (vs:=k.cs) rfl (by rfl) rfl ?_
  refine hP y _ _ _ h5 λw6 h6=>?_
  have hK':=hK _ h6
  simp only[hy,Option.map_some,Option.getD_some] at hK'
  cases hpy:P y with
  | false=>rw[hpy] at hK';exact Zch hK'
  | true=>rw[hpy] at hK';exact ZaJ hK'
 ·refine hk m _ hm (λx hx=>?_) (λx hx=>?_) (h4.selR [_,_,_,_,_] [_,_] [3,4] (by decide) rfl)
  ·obtain ⟨j,hj⟩:=List.getElem?_of_mem hx
   have hjl:=(List.getElem?_eq_some_iff.1 hj).1
   rw[List.length_take] at hjl
   rw[List.getElem?_take,if_pos (by omega)] at hj
   have:=hlo j (by omega)
   simp only[hj,Option.map_some,Option.getD_some,Bool.not_eq_false'] at this
   exact this
  ·obtain ⟨j,hj⟩:=List.getElem?_of_mem hx
   have hjl:=(List.getElem?_eq_some_iff.1 hj).1
   rw[List.length_drop] at hjl
   rw[List.getElem?_drop] at hj
   have:=hhi (m+j) (by omega) (by omega)
   simp only[hj,Option.map_some,Option.getD_some,Bool.not_eq_true'] at this
   exact this
theorem Zsa (x:EnX) (k:Key) (hS:Sat e w L) (hk:∀w',Sat e w' L→K (.bool (decide (Zv x.m.key k))) w'):clV prog (.func (.func 239) #[] #[]) #[.agg x.cs.toArray,.agg k.cs.toArray] w K:=by
 refine ⟨_,_,_,rfl,?_⟩
 refine ZeX (t0:=.agg x.cs.toArray) (t1:=.agg k.cs.toArray) ?_
 unfold ZeH
 refine Yp (cs:=x.cs) hS rfl λb w1 h1=>?_
 refine Yp (cs:=k.cs) h1 rfl λb2 w2 h2=>?_
 refine Za (Za (Zo h2 1 (vs:=x.m.key.cs) rfl (by rfl) rfl ?_))
 refine Zo h2 0 (vs:=k.cs) rfl (by rfl) rfl ?_
 refine Zcr h2 λw3 h3=>?_
 refine ZwL ?_
 have:=hk _ h3.drop.drop
 rwa [show decide (Zv x.m.key k)=decide (ZeU x.m.key k<0) from by rw[Bool.eq_iff_iff,decide_eq_true_iff,decide_eq_true_iff,Zav]] at this
theorem Zwb (x:EnX) (k:Key) (hS:Sat e w L) (hk:∀w',Sat e w' L→K (.bool (decide (Zv x.m.key k))) w'):Cl prog 239 #[.agg x.cs.toArray,.agg k.cs.toArray] w K:=by
 obtain ⟨_,_,_,h1,h2⟩:=Zsa x k hS hk
 cases h1
 exact h2
theorem ZwO (x:EnX) (k:Key) (hS:Sat e w L) (hk:∀w',Sat e w' L→K (.bool (decide (x.m.key.T<k.T))) w'):clV prog (.func (.func 124) #[] #[]) #[.agg x.cs.toArray,.agg k.cs.toArray] w K:=by
 refine ⟨_,_,_,rfl,?_⟩
 refine ZeW (t0:=.agg x.cs.toArray) (t1:=.agg k.cs.toArray) ?_
 unfold ZeL
 refine Yp (cs:=x.cs) hS rfl λb w1 h1=>?_
 refine Yp (cs:=k.cs) h1 rfl λb2 w2 h2=>?_
 refine Za (Za (Za (Zb h2 1 rfl (v:=.int .i64 x.m.key.T) rfl ?_)))
 refine Za (Zb h2 0 rfl (v:=.int .i64 k.T) rfl ?_)
 exact ZwL (hk _ h2.drop.drop)
def Zx4 (l:List En) (k:Key):Prop:=∀x,l.getLast?=some x→Zv x.m.key k
theorem Zri {p:Nat} {fl:Int} {l:List En} {x:EnX} (i:Nat) (hi:Q[i]?=some S) (hl:x.outs.length≤1000) (hr:∀g,S g→rdS 6 Msg.cs x.ov x.outs g) (h1:¬x.m.key.T<fl) (h2:Zx4 l x.m.key) (h3:l.length<64)
  (hS:Sat e w (Yf p fl l::Q)) (hk:∀w',Sat e w' (Yf p fl (l++[x.e])::Q)→K (.int .i64 0) w'):Cl prog 229 #[.pointer (some ⟨p,0,none⟩),.agg x.cs.toArray] w K:=by
 refine Zgy ?_
 unfold Zhj
 rw[ZTG]
 refine Yp (cs:=x.cs) hS rfl λb w1 h4=>?_
 have key:∀(q:Bool) (y:EnX) (w':World),flat y.ov=true→(q=true→Zv y.m.key x.m.key)→Sat e w' (Yf p fl l::blk b 203 x.cs::Q)→
   al EnX.zero.cs.toArray 203 w' λt5 w=>stN 10 t5 (.agg y.cs.toArray) w λ_ w=>dr w λw=>fld 0 (.pointer (some ⟨b,0,none⟩)) w λt13 _=>fld 0 t13 w λt14 _=>fld 0 t14 w λt15 _=>ld1 t15 w λt16 _=>
    ncP (.pointer (some ⟨p,0,none⟩))<|fld 0 (.pointer (some ⟨p,0,none⟩)) w λt19 _=>ld1 t19 w λt20 _=>bi .lss .i64 t16 t20 w λt21 _=>Zr t21 (K (.int .i64 110) w)
     (gd (.bool q) true (λk=>ldN 10 t5 w k) w λt25 w=>gd (.bool q) true (λk=>fld 0 (.pointer (some ⟨b,0,none⟩)) w k) w λt26 w=>gd (.bool q) true (λk=>fld 0 t26 w k) w λt27 w=>gd (.bool q) true (λk=>ldN 3 t27 w k) w λt28 w=>
     gd (.bool q) true (λk=>Cl prog 239 #[t25,t28] w k) w λt29 w=>gd (.bool q) true (λk=>Zb3 t29 w k) w λt30 w=>pk (.bool q) t30 (.bool false) w λt31 w=>Zr t31 (K (.int .i64 130) w)
     (ncP (.pointer (some ⟨p,0,none⟩))<|fld 1 (.pointer (some ⟨p,0,none⟩)) w λt35 w=>ld1 t35 w λt36 w=>lnS t36 w λt37 w=>bi .geq .i64 t37 (.int .i64 64) w λt38 w=>Zr t38 (K (.int .i64 2) w)
     (dr w λw=>ncP (.pointer (some ⟨p,0,none⟩))<|fld 1 (.pointer (some ⟨p,0,none⟩)) w λt42 _=>ld1 t42 w λt43 _=>ldN 10 (.pointer (some ⟨b,0,none⟩)) w λt44 _=>Cl prog 240 #[t44] w λt45 w=>
     (ld1 t42 w (λv' w''=>v'=t43∧w''=w))∧(bsl 203 10 1 (Zl prog 203) [(0,t45)] w λt46 w=>(ld1 t42 w (λv' w''=>v'=t43∧w''=w))∧(apS prog #[183,183] 183 t43 t46 w λt47 w=>
     ncP (.pointer (some ⟨p,0,none⟩))<|fld 1 (.pointer (some ⟨p,0,none⟩)) w λt49 _=>stN 1 t49 t47 w λ_ w=>K (.int .i64 0) w))))):=by
  intro q y w' hyf hq h5
  refine Yp (cs:=EnX.zero.cs) h5 rfl λt5 w2 h6=>?_
  refine Zq h6 0 rfl (vs:=y.cs) rfl rfl (by simp[EnX.zero,EnX.cs]) (EnX.flat hyf) (cs':=y.cs) (by rfl) λw3 h7=>?_
  obtain ⟨lv,xs,hp,h8⟩:=Zfr (h7.pick 1 rfl)
  replace h8:Sat e w3 (blk p 185 [.int .i64 fl,lv]::Zz 203 10 EnX.cs lv xs::Yh (xs.map ZcP)::blk t5 203 y.cs::blk b 203 x.cs::Q):=h8
  have hxl:xs.length=l.length:=by rw[←hp.1,List.length_map]
  refine ZaY h8 λw4 h9=>?_
  refine Za (Za (Za (Zb h9 4 rfl (v:=.int .i64 x.m.key.T) rfl ?_)))
  refine Zh (Za (Zb h9 0 rfl (v:=.int .i64 fl) rfl (Ze7 h1 (Zf ?_))))
  have hrest:∀w',Sat e w' (blk p 185 [.int .i64 fl,lv]::Zz 203 10 EnX.cs lv xs::Yh (xs.map ZcP)::blk t5 203 y.cs::blk b 203 x.cs::Q)→
    (ncP (.pointer (some ⟨p,0,none⟩))<|fld 1 (.pointer (some ⟨p,0,none⟩)) w' λt35 w=>ld1 t35 w λt36 w=>lnS t36 w λt37 w=>bi .geq .i64 t37 (.int .i64 64) w λt38 w=>Zr t38 (K (.int .i64 2) w)
     (dr w λw=>ncP (.pointer (some ⟨p,0,none⟩))<|fld 1 (.pointer (some ⟨p,0,none⟩)) w λt42 _=>ld1 t42 w λt43 _=>ldN 10 (.pointer (some ⟨b,0,none⟩)) w λt44 _=>Cl prog 240 #[t44] w λt45 w=>
     (ld1 t42 w (λv' w''=>v'=t43∧w''=w))∧(bsl 203 10 1 (Zl prog 203) [(0,t45)] w λt46 w=>(ld1 t42 w (λv' w''=>v'=t43∧w''=w))∧(apS prog #[183,183] 183 t43 t46 w λt47 w=>
     ncP (.pointer (some ⟨p,0,none⟩))<|fld 1 (.pointer (some ⟨p,0,none⟩)) w λt49 _=>stN 1 t49 t47 w λ_ w=>K (.int .i64 0) w)))):=by
   intro w' ha
   refine Zh (Za (Zb ha 0 rfl (v:=lv) rfl ?_))
   refine Zt ha 1 rfl (λ_=>Zp) (ZnR (by omega) (Zf ?_))
   refine ZaY ha λw5 hb=>?_
   refine Zh (Za (Zb hb 0 rfl (v:=lv) rfl ?_))
   refine Zo hb 4 (vs:=x.cs) rfl (by rfl) rfl ?_
   refine Znb (x:=x) (i+5) (by simpa using hi) (by omega) hb hr λv' w6 hc=>?_
   refine ⟨Zb hc 1 rfl (v:=lv) rfl ⟨rfl,rfl⟩,?_⟩
   have q0:=hc.own_cells 0 rfl
   obtain ⟨x2,hx2⟩:∃x2:EnX,x2=⟨x.m,x.ahead,x.sent,x.st,v',x.outs⟩:=⟨_,rfl⟩
   rw[←hx2] at hc ⊢
   have hx2f:flat x2.ov=true:=by rw[hx2];exact q0.2
   refine ZwC (vs:=x2.cs) rfl rfl hc λbb w7 hd=>?_
   refine ⟨Zb hd 2 rfl (v:=lv) rfl ⟨rfl,rfl⟩,?_⟩
   refine Zcs ZUV ZUV.und (f:=EnX.cs) (m:=[x2]) (λ_=>rfl) (λy hy c hc=>by rw[List.mem_singleton.1 hy] at hc;exact EnX.flat hx2f c hc) (hd.selR [_,_,_,_] [_,_,_,_] [3,0,1,2] (by decide) rfl) (Zfu (f:=EnX.cs) (x:=x2) (Nat.le_refl _)) (by simp;omega) λlv' w8 he=>?_
   have q1:=he.own_cells 0 rfl
   refine Zh (Za (Zq he 3 rfl (vs:=[lv']) q1.1 rfl (Nat.le_of_ble_eq_true rfl) (λc hc=>by rw[List.mem_singleton.1 hc];exact q1.2) (cs':=[.int .i64 fl,lv']) (by rfl) λw9 hf'=>?_))
   replace hf':Sat e w9 (Zz 203 10 EnX.cs lv' (xs++[x2])::blk bb 203 x2.cs::ZcP x2::blk p 185 [.int .i64 fl,lv']::Yh (xs.map ZcP)::blk t5 203 y.cs::blk b 203 x.cs::Q):=hf'
   have hg2:Sat e w9 (Yh (xs.map ZcP)::Yh [ZcP x2]::Zz 203 10 EnX.cs lv' (xs++[x2])::blk p 185 [.int .i64 fl,lv']::Q):=by
    have h1:=hf'.selR [_,_,_,_,_,_,_] [_,_,_,_] [2,4,0,3] (by decide) rfl
    exact (Sat.join (l':=[_]) h1).swap
   have hh:=ZtR hg2
   rw[show xs.map ZcP++[ZcP x2]=(xs++[x2]).map ZcP from by rw[List.map_append];rfl] at hh
   refine hk _ (Zh1 (lv:=lv') (xs:=xs++[x2]) ⟨?_,?_⟩ (hh.selR [_,_,_] [_,_,_] [2,1,0] (by decide) rfl))
   ·rw[List.map_append,hp.1,hx2]
    rfl
   ·refine ⟨?_,by rw[List.length_append,List.length_singleton];omega,λz hz=>?_⟩
    ·rw[List.pairwise_append]
     refine ⟨hp.2.up,List.pairwise_singleton _ _,λa ha b hb=>?_⟩
     rw[List.mem_singleton.1 hb]
     cases hla:l.getLast? with
     | none=>rw[List.getLast?_eq_none_iff] at hla;subst hla;cases ha
     | some z=>
      have hz:=h2 z hla
      obtain ⟨l0,rfl⟩:=List.getLast?_eq_some_iff.1 hla
      rcases List.mem_append.1 ha with ha | ha
      ·exact ((List.pairwise_append.1 hp.2.up).2.2 a ha z (by simp)).trans hz
      ·rw[List.mem_singleton.1 ha];exact hz
    ·rcases List.mem_append.1 hz with hz | hz
     ·exact hp.2.outs z hz
     ·rw[List.mem_singleton.1 hz];exact hl
  cases q with
  | false=>
   refine Zu (Zu (Zu (Zu (Zu (Zu (Yd (Zf ?_)))))))
   exact hrest _ h9
  | true=>
   refine Ze (Zo h9 3 (vs:=y.cs) rfl (by rfl) rfl (Ze (Za (Ze (Za (Ze (Zo h9 4 (vs:=x.m.key.cs) rfl (by rfl) rfl (Ze ?_))))))))
   refine Zwb y x.m.key h9 λw5 h10=>?_
   rw[decide_eq_true (hq rfl)]
   refine Ze (ZaJ (Yv (Zf ?_)))
   exact hrest _ h10
 refine ZqS h4.swap (λh0 w2 h5=>?_) (λy l' hl' w2 h5=>?_)
 ·refine Zam (Zal ?_)
  exact key false EnX.zero w2 rfl (λh=>by cases h) h5
 ·refine Zam (Zal ?_)
  have q1:=h5.own_cells 0 rfl
  refine key true y w2 q1.2 (λ_=>?_) h5.drop
  exact h2 y.e (by rw[hl'];simp)
def Yo (g:Nat) (fl:Int) (l:List Yz):HP:=hex λv:Value=>Yh [blk g 188 [.int .i64 fl,v],Zz 223 9 Yz.cs v l]
theorem Zd9 (hS:Sat e w R) (hk:∀g w',Sat e w' (Yo g 0 []::R)→K (.pointer (some ⟨g,0,none⟩)) w'):Cl prog 51 #[] w K:=by
 refine ZmT ?_
 unfold Zsc
 rw[ZUX]
 refine ⟨_,rfl,?_⟩
 refine Yp (cs:=[.int .i64 0,.slice none 0 0]) hS rfl λb w1 h1=>?_
 exact hk _ _ (.mk_ex (.slice none 0 0) (.join (l':=[_,_]) (h1.own_nil 223 9 Yz.cs).swap))
def Zw9 (fl:Int) (l:List Yz) (c:Key):Int:=if c.T<fl then 110 else if 256≤l.length then 2 else 0
def ZsN (fl:Int) (l:List Yz) (c:Key) (m:Msg):List Yz:=if c.T<fl then l else if 256≤l.length then l else l++[⟨c,m⟩]
theorem Zrq {g:Nat} {fl:Int} {l:List Yz} (c:Key) (m:Msg) (hS:Sat e w (Yo g fl l::R)) (hl:l.length≤256)
  (hk:∀w',Sat e w' (Yo g fl (ZsN fl l c m)::R)→K (.int .i64 (Zw9 fl l c)) w'):Cl prog 231 #[.pointer (some ⟨g,0,none⟩),.agg c.cs.toArray,.agg m.cs.toArray] w K:=by
 obtain ⟨v,h0⟩:=hS.ex
 have h1:=h0.split
 refine ZgC ?_
 unfold ZgT
 refine Yp (cs:=c.cs) h1 rfl λb4 w1 h2=>?_
 refine Yp (cs:=m.cs) h2 rfl λb5 w2 h3=>?_
 refine ZaY h3 λw3 h4=>?_
 refine Za ?_
 refine Zb h4 1 rfl rfl ?_
 refine Zh ?_
 refine Za ?_
 refine Zb h4 2 rfl rfl ?_
 refine Za7 (λc1=>?_) (λc1=>?_)
 ·refine Zi ?_
  have:=hk w3
  simp only[Zw9,ZsN,if_pos c1] at this
  exact this (.mk_ex v (.join (l':=[_,_]) h4.drop.drop))
 ·refine Zf ?_
  refine Zh ?_
  refine Za ?_
  refine Zb h4 2 rfl rfl ?_
  refine Zt h4 3 rfl (λ_=>Zp) ?_
  refine Zu5 (λc2=>?_) (λc2=>?_)
  ·refine Zi ?_
   have:=hk w3
   have c3:256≤l.length:=by omega
   simp only[Zw9,ZsN,if_neg c1,if_pos c3] at this
   exact this (.mk_ex v (.join (l':=[_,_]) h4.drop.drop))
  ·refine Zf ?_
   refine ZaY h4 λw4 h5=>?_
   refine Zh ?_
   refine Za ?_
   refine Zb h5 2 rfl rfl ?_
   refine Zo h5 1 (vs:=c.cs) rfl (by rfl) rfl ?_
   refine Zo h5 0 (vs:=m.cs) rfl (by rfl) rfl ?_
   rw[ZT3]
   refine Zaf (Yz.cs ⟨c,m⟩) (by kernel_rfl) ?_
   refine ⟨Zb h5 2 rfl rfl ⟨rfl,rfl⟩,?_⟩
   refine ZwC (vs:=Yz.cs ⟨c,m⟩) rfl rfl h5 λb30 w5 h6=>?_
   refine ⟨Zb h6 3 rfl rfl ⟨rfl,rfl⟩,?_⟩
   have hb:(l.length+[(⟨c,m⟩:Yz)].length)*72≤140737488355328:=by
    simp only[List.length_cons,List.length_nil]
    omega
   have h6':=h6.pick 4 rfl
   refine Zeo ZUS ZUM (f:=Yz.cs) (λ_=>rfl) (λ_=>Zg _) h6' (m:=[⟨c,m⟩]) (Zfu (f:=Yz.cs) (x:=⟨c,m⟩) (Nat.le_refl _)) hb λv' w6 h7=>?_
   refine Zh ?_
   refine Za ?_
   refine Zpm h7 4 rfl (h7.own_cells 0 rfl) (by simp) rfl λw7 h8=>?_
   have:=hk w7
   have c3:¬256≤l.length:=by omega
   simp only[Zw9,ZsN,if_neg c1,if_neg c3] at this
   exact this (.mk_ex v' (.join (l':=[_,_]) (h8.selR [_,_,_,_,_] [_,_] [4,0] (by decide) rfl)))
theorem ZjM {v:Value} {l:List Yz} {S:HP} (hS:Sat e w (S::R)) (hr:∀g,S g→rdS 9 Yz.cs v l g) (hl:l.length≤1000000)
  (hk:∀v' w',Sat e w' (Zz 81 6 Msg.cs v' (l.map Yz.m)::S::R)→K v' w'):Cl prog 131 #[v] w K:=by
 refine Zhx ?_
 unfold Zjn
 rw[ZT3]
 refine Zt hS 0 rfl hr ?_
 refine lp2 (λt3 t8 w=>∃j:Nat,j≤l.length∧t8=.int .i64 j∧Sat e w (Zz 81 6 Msg.cs t3 ((l.take j).map Yz.m)::S::R)) (λ_ t8 _=>l.length - nOf t8)
  ⟨0,Nat.zero_le _,rfl,by simpa using hS.own_nil 81 6 Msg.cs⟩ ?_
 rintro t3 _ w g ⟨j,hj,rfl,h1⟩ hg
 refine Za7 (λc=>?_) (λc=>?_)
 ·refine Zi ?_
  obtain ⟨x,hx⟩:=Zk (l:=l) (j:=j) (by omega)
  refine Zw h1 1 rfl hr (λ_=>rfl) hx λa ha=>?_
  refine Ym h1 1 rfl ha rfl ?_
  refine Yp (cs:=Yi [0,0,0,0,0,0,0,0,0]) h1 rfl λb5 w2 h2=>?_
  refine Zq h2 0 rfl (vs:=x.cs) rfl rfl (by simp[Yi]) (Zg _) (cs':=x.cs) (by kernel_rfl) λw3 h3=>?_
  refine Za ?_
  refine Zo h3 0 (vs:=x.m.cs) rfl (by rfl) rfl ?_
  refine Zj7 ZTO (f:=Msg.cs) (λ_=>rfl) (λ_=>Zg _) (h3.pick 1 rfl) (x:=x.m) rfl (by simp;omega) λv' w4 h4=>?_
  refine Yr (by omega) ?_
  refine hg _ _ _ ⟨j+1,by omega,rfl,?_⟩ (by simp[nOf];omega)
  have h5:=h4.selR [_,_,_] [_,_] [0,2] (by decide) rfl
  rw[Zx hx,List.map_append]
  exact h5
 ·refine Zf ?_
  obtain rfl:j=l.length:=by omega
  refine hk _ _ ?_
  simpa using h1
theorem Zrw {g:Nat} {fl:Int} {l:List Yz} (hS:Sat e w (Yo g fl l::R)) (hl:l.length≤1000000)
  (hk:∀v' w',Sat e w' (Zz 81 6 Msg.cs v' (l.map Yz.m)::Yo g fl l::R)→K v' w'):Cl prog 228 #[.pointer (some ⟨g,0,none⟩)] w K:=by
 obtain ⟨v,h0⟩:=hS.ex
 have h1:=h0.split
 refine ZgK ?_
 unfold Zg3
 refine Zh ?_
 refine Za ?_
 refine Zb h1 0 rfl rfl ?_
 refine ZjM h1.swap (λ_=>Zp) hl λv' w' h2=>?_
 refine hk _ _ (Sat.swap (.mk_ex v (.join (l':=[_,_]) (h2.selR [_,_,_] [_,_,_] [2,1,0] (by decide) rfl))))
theorem Zmp {g:Nat} {fl:Int} {l:List Yz} {C:HP} {fv:Value} (p:Yz→Bool) (hS:Sat e w (Yo g fl l::C::R)) (hl:l.length≤1000000)
  (hp:∀(w:World) (R:List HP) (K:KV) (x:Yz),Sat e w (C::R)→(∀w',Sat e w' (C::R)→K (.bool (p x)) w')→clV prog fv #[.agg x.cs.toArray] w K)
  (hk:∀v' w',Sat e w' (Zz 223 9 Yz.cs v' (l.filter p)::Yo g fl (l.filter (λx=>!p x))::C::R)→K v' w') :
  Cl prog 126 #[.pointer (some ⟨g,0,none⟩),fv] w K:=by
 obtain ⟨v,h0⟩:=hS.ex
 have h1:=h0.split
 refine Zgx ?_
 unfold ZgV
 rw[ZT3]
 refine Zh ?_
 refine Za ?_
 refine Zb h1 0 rfl rfl ?_
 refine Zt h1 1 rfl (λ_=>Zp) ?_
 refine lp3 (λt5 t6 t14 w=>∃j:Nat,j≤l.length∧t14=.int .i64 j∧Sat e w (Zz 223 9 Yz.cs t5 ((l.take j).filter p)::Zz 223 9 Yz.cs t6 ((l.take j).filter λx=>!p x)::
   blk g 188 [.int .i64 fl,v]::Zz 223 9 Yz.cs v l::C::R)) (λ_ _ t14 _=>l.length - nOf t14)
  ⟨0,Nat.zero_le _,rfl,by simpa using (h1.own_nil 223 9 Yz.cs).own_nil 223 9 Yz.cs⟩ ?_
 rintro t5 t6 _ w gg ⟨j,hj,rfl,h1⟩ hg
 refine Za7 (λc=>?_) (λc=>?_)
 ·refine Zi ?_
  obtain ⟨x,hx⟩:=Zk (l:=l) (j:=j) (by omega)
  have hf1:((l.take (j+1)).filter p)=(l.take j).filter p++if p x then [x] else []:=by
   rw[Zx hx,List.filter_append]
   cases hpx:p x <;> simp[hpx]
  have hf2:((l.take (j+1)).filter λx=>!p x)=(l.take j).filter (λx=>!p x)++if p x then [] else [x]:=by
   rw[Zx hx,List.filter_append]
   cases hpx:p x <;> simp[hpx]
  have hn1:=List.length_filter_le p (l.take j)
  have hn2:=List.length_filter_le (λx=>!p x) (l.take j)
  have hn3:(l.take j).length≤1000000:=by simp;omega
  refine J2.cut (λt5 t6 w=>Sat e w (Zz 223 9 Yz.cs t5 ((l.take (j+1)).filter p)::Zz 223 9 Yz.cs t6 ((l.take (j+1)).filter λx=>!p x)::
   blk g 188 [.int .i64 fl,v]::Zz 223 9 Yz.cs v l::C::R)) (λk hkk=>?_) (λt5 t6 w h2=>?_)
  ·refine Zw h1 3 rfl (λ_=>Zp) (λ_=>rfl) hx λa ha=>?_
   refine Ym h1 3 rfl ha rfl ?_
   refine Yp (cs:=Yi [0,0,0,0,0,0,0,0,0]) h1 rfl λb8 w2 h2=>?_
   refine Zq h2 0 rfl (vs:=x.cs) rfl rfl (by simp[Yi]) (Zg _) (cs':=x.cs) (by kernel_rfl) λw3 h3=>?_
   refine Zo h3 0 (vs:=x.cs) rfl (by rfl) rfl ?_
   refine hp _ _ _ x (h3.pick 5 rfl) λw4 h4=>?_
   have h5:=h4.selR [_,_,_,_,_,_] [_,_,_,_,_,_] [1,2,3,4,5,0] (by decide) rfl
   cases hpx:p x with
   | true=>
    refine Zi ?_
    refine Zo h5 0 (vs:=x.cs) rfl (by rfl) rfl ?_
    refine Zj7 ZUS (f:=Yz.cs) (λ_=>rfl) (λ_=>Zg _) (h5.pick 1 rfl) (x:=x) rfl (by omega) λv' w5 h6=>?_
    refine hkk _ _ _ ?_
    rw[hf1,hf2]
    simp only[hpx,if_true,List.append_nil]
    exact h6.selR [_,_,_,_,_,_] [_,_,_,_,_] [0,2,3,4,5] (by decide) rfl
   | false=>
    refine Zf ?_
    refine Zo h5 0 (vs:=x.cs) rfl (by rfl) rfl ?_
    refine Zj7 ZUS (f:=Yz.cs) (λ_=>rfl) (λ_=>Zg _) (h5.pick 2 rfl) (x:=x) rfl (by omega) λv' w5 h6=>?_
    refine hkk _ _ _ ?_
    rw[hf1,hf2]
    simp only[hpx,Bool.false_eq_true,if_false,List.append_nil]
    exact h6.selR [_,_,_,_,_,_] [_,_,_,_,_] [2,0,3,4,5] (by decide) rfl
  ·refine Yr (by omega) ?_
   exact hg _ _ _ _ ⟨j+1,by omega,rfl,h2⟩ (by simp[nOf];omega)
 ·refine Zf ?_
  obtain rfl:j=l.length:=by omega
  rw[List.take_length] at h1
  refine Zh ?_
  refine Za ?_
  refine Zpm h1 2 rfl (h1.own_cells 1 rfl) (by simp) rfl λw2 h2=>?_
  refine hk _ _ (Sat.swap (.mk_ex t6 (.join (l':=[_,_]) (h2.selR [_,_,_,_,_] [_,_,_,_] [2,1,0,4] (by decide) rfl))))
end Go.Proofs.YtnhaekgogppbiaaGreat
end
section
namespace Go.E
section
variable {α:Type} (lt:α→α→Bool)
def mg:List α→List α→List α
 | [],r=>r
 | x::l,[]=>x::l
 | x::l,y::r=>if lt y x=true then y::mg (x::l) r else x::mg l (y::r)
termination_by l r=>l.length+r.length
def ZeY:List α→List α
 | []=>[]
 | x::l=>mg lt [x] (ZeY l)
structure Zbr:Prop where
 asymm:∀a b,lt a b=true→lt b a=false
 trans:∀a b c,lt b a=false→lt c b=false→lt c a=false
variable {lt}
def Asc (lt:α→α→Bool) (l:List α):Prop:=l.Pairwise λa b=>lt b a=false
theorem ZcI (r:List α):mg lt [] r=r:=by rw[mg]
theorem ZbO (l:List α):mg lt l []=l:=by cases l <;> rw[mg]
theorem Zhp {x y:α} {l r:List α} (h:lt y x=true):mg lt (x::l) (y::r)=y::mg lt (x::l) r:=by rw[mg,if_pos h]
theorem ZiN {x y:α} {l r:List α} (h:lt y x=false):mg lt (x::l) (y::r)=x::mg lt l (y::r):=by rw[mg,if_neg (by rw[h];decide)]
theorem ZiA (L2 R2:List α):∀(n:Nat) (L1 R1:List α),L1.length+R1.length=n→(∀x∈L2,∀y∈R1,lt y x=true)→(∀x∈L1,∀y∈R2,lt y x=false)→
  mg lt (L1++L2) (R1++R2)=mg lt L1 R1++mg lt L2 R2
 | _,[],[],_,_,_=>by rw[ZcI];rfl
 | n,[],y::R1,hn,h1,h2=>by
  cases L2 with
  | nil=>simp only[List.append_nil,ZcI]
  | cons x L2=>
   have ih:=ZiA (x::L2) R2 R1.length [] R1 (by simp) (λa ha b hb=>h1 a ha b (List.mem_cons_of_mem _ hb)) (λ_ h=>by cases h)
   rw[List.nil_append] at ih ⊢
   rw[List.cons_append,Zhp (h1 x (List.mem_cons_self) y (List.mem_cons_self)),ih,ZcI,ZcI]
   rfl
 | n,x::L1,[],hn,h1,h2=>by
  cases R2 with
  | nil=>simp only[List.append_nil,ZbO]
  | cons y R2=>
   have ih:=ZiA L2 (y::R2) L1.length L1 [] (by simp) (λ_ _ _ h=>by cases h) (λa ha=>h2 a (List.mem_cons_of_mem _ ha))
   rw[List.nil_append] at ih ⊢
   rw[List.cons_append,ZiN (h2 x (List.mem_cons_self) y (List.mem_cons_self)),ih,ZbO,ZbO]
   rfl
 | n,x::L1,y::R1,hn,h1,h2=>by
  simp only[List.length_cons] at hn
  cases h:lt y x with
  | true=>
   have ih:=ZiA L2 R2 (n - 1) (x::L1) R1 (by simp;omega) (λa ha b hb=>h1 a ha b (List.mem_cons_of_mem _ hb)) h2
   rw[List.cons_append] at ih ⊢
   rw[List.cons_append,Zhp h,ih,Zhp h]
   rfl
  | false=>
   have ih:=ZiA L2 R2 (n - 1) L1 (y::R1) (by simp;omega) h1 (λa ha=>h2 a (List.mem_cons_of_mem _ ha))
   rw[List.cons_append] at ih ⊢
   rw[List.cons_append,ZiN h,ih,ZiN h]
   rfl
theorem ZiE {L1 L2 R1 R2:List α} (h1:∀x∈L2,∀y∈R1,lt y x=true) (h2:∀x∈L1,∀y∈R2,lt y x=false):mg lt (L1++L2) (R1++R2)=mg lt L1 R1++mg lt L2 R2:=ZiA L2 R2 _ L1 R1 rfl h1 h2
theorem Zbr.lt_le (o:Zbr lt) {x y z:α} (h:lt x y=true) (k:lt z y=false):lt x z=true:=by
 cases hz:lt x z with
 | true=>rfl
 | false=>
  have:=o.trans y z x k hz
  rw[h] at this;cases this
theorem Zbr.le_lt (o:Zbr lt) {x y z:α} (h:lt y x=false) (k:lt y z=true):lt x z=true:=by
 cases hz:lt x z with
 | true=>rfl
 | false=>
  have:=o.trans z x y hz h
  rw[k] at this;cases this
theorem Zi4 (o:Zbr lt):∀(n:Nat) (A B C:List α),A.length+B.length+C.length=n→mg lt (mg lt A B) C=mg lt A (mg lt B C)
 | _,[],B,C,_=>by rw[ZcI,ZcI]
 | _,a::A,[],C,_=>by rw[ZcI,ZbO]
 | _,a::A,b::B,[],_=>by rw[ZbO,ZbO]
 | n,a::A,b::B,c::C,hn=>by
  simp only[List.length_cons] at hn
  cases hba:lt b a with
  | true=>
   cases hcb:lt c b with
   | true=>
    have hca:lt c a=true:=o.lt_le hcb (o.asymm _ _ hba)
    have ih:=Zi4 o (n - 1) (a::A) (b::B) C (by simp;omega)
    rw[Zhp hba] at ih ⊢
    rw[Zhp hcb,Zhp hcb,Zhp hca,ih]
   | false=>
    have ih:=Zi4 o (n - 1) (a::A) B (c::C) (by simp;omega)
    rw[Zhp hba,ZiN hcb,ZiN hcb,Zhp hba,ih]
  | false=>
   cases hca:lt c a with
   | true=>
    have hcb:lt c b=true:=o.lt_le hca hba
    have ih:=Zi4 o (n - 1) (a::A) (b::B) C (by simp;omega)
    rw[ZiN hba] at ih ⊢
    rw[Zhp hcb,Zhp hca,Zhp hca,ih]
   | false=>
    have ih:=Zi4 o (n - 1) A (b::B) (c::C) (by simp;omega)
    rw[ZiN hba,ZiN hca,ih]
    cases hcb:lt c b with
    | true=>rw[Zhp hcb,ZiN hca]
    | false=>rw[ZiN hcb,ZiN hba]
theorem Zep (o:Zbr lt):∀A B:List α,ZeY lt (A++B)=mg lt (ZeY lt A) (ZeY lt B)
 | [],B=>by rw[List.nil_append,ZeY,ZcI]
 | x::A,B=>by
  rw[List.cons_append,ZeY,Zep o A B,ZeY,Zi4 o _ _ _ _ rfl]
theorem Zsy (x:α):ZeY lt [x]=[x]:=by rw[ZeY,ZeY,ZbO]
theorem ZmD:∀(n:Nat) (l r:List α),l.length+r.length=n→(mg lt l r).Perm (l++r)
 | _,[],r,_=>by rw[ZcI];exact .refl _
 | _,x::l,[],_=>by rw[ZbO,List.append_nil]
 | n,x::l,y::r,hn=>by
  simp only[List.length_cons] at hn
  cases h:lt y x with
  | true=>
   rw[Zhp h]
   exact ((ZmD (n - 1) (x::l) r (by simp;omega)).cons y).trans List.perm_middle.symm
  | false=>
   rw[ZiN h]
   exact (ZmD (n - 1) l (y::r) (by simp;omega)).cons x
theorem ZxD {l r:List α} {x:α}:x∈mg lt l r↔x∈l∨x∈r:=by rw[(ZmD _ l r rfl).mem_iff,List.mem_append]
theorem Zjz (l r:List α):(mg lt l r).length=l.length+r.length:=by rw[(ZmD _ l r rfl).length_eq,List.length_append]
theorem ZoW:∀l:List α,(ZeY lt l).Perm l
 | []=>.refl _
 | x::l=>(ZmD _ [x] (ZeY lt l) rfl).trans ((ZoW l).cons x)
theorem Yw (l:List α):(ZeY lt l).length=l.length:=(ZoW l).length_eq
theorem ZtK (o:Zbr lt):∀(n:Nat) (l r:List α),l.length+r.length=n→Asc lt l→Asc lt r→Asc lt (mg lt l r)
 | _,[],r,_,_,hr=>by rw[ZcI];exact hr
 | _,x::l,[],_,hl,_=>by rw[ZbO];exact hl
 | n,x::l,y::r,hn,hl,hr=>by
  simp only[List.length_cons] at hn
  obtain ⟨hl1,hl2⟩:=List.pairwise_cons.1 hl
  obtain ⟨hr1,hr2⟩:=List.pairwise_cons.1 hr
  cases h:lt y x with
  | true=>
   rw[Zhp h]
   refine List.pairwise_cons.2 ⟨λz hz=>?_,ZtK o (n - 1) (x::l) r (by simp;omega) hl hr2⟩
   rcases ZxD.1 hz with hz | hz
   ·rcases List.mem_cons.1 hz with rfl | hz
    ·exact o.asymm _ _ h
    ·exact o.trans _ _ _ (o.asymm _ _ h) (hl1 z hz)
   ·exact hr1 z hz
  | false=>
   rw[ZiN h]
   refine List.pairwise_cons.2 ⟨λz hz=>?_,ZtK o (n - 1) l (y::r) (by simp;omega) hl2 hr⟩
   rcases ZxD.1 hz with hz | hz
   ·exact hl1 z hz
   ·rcases List.mem_cons.1 hz with rfl | hz
    ·exact h
    ·exact o.trans _ _ _ h (hr1 z hz)
theorem Zf5 (o:Zbr lt):∀l:List α,Asc lt (ZeY lt l)
 | []=>List.Pairwise.nil
 | _::l=>ZtK o _ _ _ rfl (List.pairwise_singleton _ _) (Zf5 o l)
theorem Zo3 (o:Zbr lt) {l:List α} (h:Asc lt l) {i:Nat} {x y:α} (hy:l[i]?=some y) (hx:lt y x=true):∀z∈l.take (i+1),lt z x=true:=by
 intro z hz
 obtain ⟨j,hj⟩:=List.mem_iff_getElem?.1 hz
 rw[List.getElem?_take] at hj
 split at hj
 ·rename_i hji
  by_cases hij:j=i
  ·subst hij;rw[hy] at hj;cases hj;exact hx
  ·have hlt:j<i:=by omega
   obtain ⟨hjl,hje⟩:=List.getElem?_eq_some_iff.1 hj
   obtain ⟨hil,hie⟩:=List.getElem?_eq_some_iff.1 hy
   have:=List.pairwise_iff_getElem.1 h j i hjl hil hlt
   rw[hje,hie] at this
   exact o.le_lt this hx
 ·cases hj
theorem Zqm (o:Zbr lt) {l:List α} (h:Asc lt l) {i:Nat} {x y:α} (hy:l[i]?=some y) (hx:lt y x=false):∀z∈l.drop i,lt z x=false:=by
 intro z hz
 obtain ⟨j,hj⟩:=List.mem_iff_getElem?.1 hz
 rw[List.getElem?_drop] at hj
 by_cases hij:j=0
 ·subst hij;rw[Nat.add_zero,hy] at hj;cases hj;exact hx
 ·obtain ⟨hjl,hje⟩:=List.getElem?_eq_some_iff.1 hj
  obtain ⟨hil,hie⟩:=List.getElem?_eq_some_iff.1 hy
  have:=List.pairwise_iff_getElem.1 h i (i+j) hil hjl (by omega)
  rw[hje,hie] at this
  exact o.trans _ _ _ hx this
theorem Zov (o:Zbr lt) {l:List α} (h:Asc lt l) {i:Nat} {x y:α} (hy:l[i]?=some y) (hx:lt x y=false):∀z∈l.take (i+1),lt x z=false:=by
 intro z hz
 obtain ⟨j,hj⟩:=List.mem_iff_getElem?.1 hz
 rw[List.getElem?_take] at hj
 split at hj
 ·rename_i hji
  by_cases hij:j=i
  ·subst hij;rw[hy] at hj;cases hj;exact hx
  ·have hlt:j<i:=by omega
   obtain ⟨hjl,hje⟩:=List.getElem?_eq_some_iff.1 hj
   obtain ⟨hil,hie⟩:=List.getElem?_eq_some_iff.1 hy
   have:=List.pairwise_iff_getElem.1 h j i hjl hil hlt
   rw[hje,hie] at this
   exact o.trans _ _ _ this hx
 ·cases hj
theorem Zl6 (o:Zbr lt) {l:List α} (h:Asc lt l) {i:Nat} {x y:α} (hy:l[i]?=some y) (hx:lt x y=true):∀z∈l.drop i,lt x z=true:=by
 intro z hz
 obtain ⟨j,hj⟩:=List.mem_iff_getElem?.1 hz
 rw[List.getElem?_drop] at hj
 by_cases hij:j=0
 ·subst hij;rw[Nat.add_zero,hy] at hj;cases hj;exact hx
 ·obtain ⟨hjl,hje⟩:=List.getElem?_eq_some_iff.1 hj
  obtain ⟨hil,hie⟩:=List.getElem?_eq_some_iff.1 hy
  have:=List.pairwise_iff_getElem.1 h i (i+j) hil hjl (by omega)
  rw[hje,hie] at this
  exact o.lt_le hx this
theorem Asc.left {l r:List α} (h:Asc lt (l++r)):Asc lt l:=(List.pairwise_append.1 h).1
theorem Asc.right {l r:List α} (h:Asc lt (l++r)):Asc lt r:=(List.pairwise_append.1 h).2.1
theorem ZDt {x:α} {R1 R2:List α} (h1:∀y∈R1,lt y x=true) (h2:∀y∈R2,lt y x=false):mg lt [x] (R1++R2)=R1++x::R2:=by
 have:=ZiE (lt:=lt) (L1:=[]) (L2:=[x]) (R1:=R1) (R2:=R2) (λa ha y hy=>by rw[List.mem_singleton.1 ha];exact h1 y hy) (λ_ h=>by cases h)
 rw[List.nil_append,ZcI] at this
 rw[this]
 congr 1
 have:=ZiE (lt:=lt) (L1:=[x]) (L2:=[]) (R1:=[]) (R2:=R2) (λ_ h=>by cases h) (λa ha y hy=>by rw[List.mem_singleton.1 ha];exact h2 y hy)
 rw[List.append_nil,List.nil_append,ZcI,ZbO] at this
 exact this
theorem ZnU {y:α} {L1 L2:List α} (h1:∀x∈L1,lt y x=false) (h2:∀x∈L2,lt y x=true):mg lt (L1++L2) [y]=L1++y::L2:=by
 have:=ZiE (lt:=lt) (L1:=L1) (L2:=L2) (R1:=[]) (R2:=[y]) (λ_ _ _ h=>by cases h) (λx hx z hz=>by rw[List.mem_singleton.1 hz];exact h1 x hx)
 rw[List.nil_append,ZbO] at this
 rw[this]
 congr 1
 have:=ZiE (lt:=lt) (L1:=[]) (L2:=L2) (R1:=[y]) (R2:=[]) (λx hx z hz=>by rw[List.mem_singleton.1 hz];exact h2 x hx) (λ_ h=>by cases h)
 rw[List.append_nil,List.nil_append,ZcI,ZbO] at this
 exact this
end
end Go.E
end
section
namespace Go.Proofs.YtnhaekgogppbiaaGreat
open Go Go.E
set_option maxRecDepth 100000
variable {e w:World} {R:List HP} {K:KV} {v fv:Value} {cf:Yz→Yz→Int}
abbrev DK (v:Value) (l:List Yz):HP:=Zz 223 9 Yz.cs v l
def Zvo (e:World) (fv:Value) (cf:Yz→Yz→Int):Prop:=
 ∀(w:World) (R:List HP) (K:KV) (x y:Yz),Sat e w R→(∀w',Sat e w' R→K (.int .i64 (cf x y)) w')→clV prog fv #[.agg x.cs.toArray,.agg y.cs.toArray] w K
def ltC (cf:Yz→Yz→Int) (x y:Yz):Bool:=decide (cf x y<0)
theorem Zbb (x:Yz):(Yz.cs x).length=9:=rfl
theorem ZhM {P A M B S:List Yz} {a b n:Nat} (ha:a=P.length) (hb:b=P.length+A.length+M.length) (hn:n=A.length) (hAB:A.length=B.length) (hlen:(P++A++M++B++S).length≤1000000)
  (hS:Sat e w (DK v (P++A++M++B++S)::R)) (hk:∀w',Sat e w' (DK v (P++B++M++A++S)::R)→K (.tuple #[]) w') :
  Cl prog 149 #[v,.int .i64 (a:Int),.int .i64 (b:Int),.int .i64 (n:Int),fv] w K:=by
 refine Zbw ?_
 unfold ZaM
 simp only[List.length_append] at hlen
 refine Zdk (λm t10 w=>∃i:Nat,i≤n∧t10=.int .i64 i∧m=n - i∧Sat e w (DK v (P++(B.take i++A.drop i)++M++(A.take i++B.drop i)++S)::R)) n
  ⟨0,Nat.zero_le _,rfl,rfl,by simpa using hS⟩ ?_
 rintro m _ w g ⟨i,hi,rfl,rfl,h1⟩ hg
 refine Zpd (λc=>Zi ?_) (λc=>Zf ?_)
 ·obtain ⟨x,hx⟩:=Zk (l:=A) (j:=i) (by omega)
  obtain ⟨y,hy⟩:=Zk (l:=B) (j:=i) (by omega)
  have hsh:P++(B.take i++A.drop i)++M++(A.take i++B.drop i)++S=(P++B.take i)++x::((A.drop (i+1)++M++A.take i)++y::(B.drop (i+1)++S)):=by
   rw[Zaq hx,Zaq hy];simp
  rw[hsh] at h1
  have l1:a+i=(P++B.take i).length:=by rw[List.length_append,List.length_take];omega
  have l2:b+i=(P++B.take i).length+1+(A.drop (i+1)++M++A.take i).length:=by simp only[List.length_append,List.length_take,List.length_drop];omega
  refine ZaY h1 λw2 h2=>?_
  refine Zb9 (by omega) (Zb9 (by omega) (Zb9 (by omega) ?_))
  refine Zw h2 0 rfl (λ_=>Zp) Zbb (ZiK l2) λp hp=>?_
  refine Ym h2 0 rfl hp rfl ?_
  refine Zb9 (by omega) ?_
  refine Zw h2 0 rfl (λ_=>Zp) Zbb (Zj2 l1) λp hp=>?_
  refine Ym h2 0 rfl hp rfl ?_
  refine ZdJ h2 0 rfl Zbb (by rw[List.length_append,List.length_cons];omega) (x:=y) rfl (Zg _) λw3 h3=>?_
  refine ZdJ h3 0 rfl Zbb (by rw[List.length_set,l2];simp only[List.length_append,List.length_cons];omega) (x:=x) rfl (Zg _) λw4 h4=>?_
  replace h4:Sat e w4 (DK v ((((P++B.take i)++x::((A.drop (i+1)++M++A.take i)++y::(B.drop (i+1)++S))).set (a+i) y).set (b+i) x)::R):=h4
  rw[Zsz l1 l2] at h4
  refine Yr (by omega) ?_
  refine hg _ _ _ (by omega) ⟨i+1,by omega,rfl,rfl,?_⟩
  rw[Zx hx,Zx hy]
  simpa using h4
 ·obtain rfl:i=n:=by omega
  subst hn
  rw[List.take_of_length_le (by omega),List.drop_of_length_le (by omega),List.take_of_length_le (l:=A) (by omega),List.drop_of_length_le (l:=B) (by omega)] at h1
  exact hk _ (by simpa using h1)
theorem Zv2 {P A B S:List Yz} {a m b:Nat} (ha:a=P.length) (hm:m=P.length+A.length) (hb:b=P.length+A.length+B.length) (hA:0<A.length) (hB:0<B.length) (hlen:(P++A++B++S).length≤1000000)
  (hS:Sat e w (DK v (P++A++B++S)::R)) (hk:∀w',Sat e w' (DK v (P++B++A++S)::R)→K (.tuple #[]) w') :
  Cl prog 148 #[v,.int .i64 (a:Int),.int .i64 (m:Int),.int .i64 (b:Int),fv] w K:=by
 refine ZbJ ?_
 unfold Za2
 simp only[List.length_append] at hlen
 refine Zdh (by omega) (by omega) (Zdh (by omega) (by omega) ?_)
 refine ZjF (λq t10 t11 w=>∃(P' X Y S':List Yz),t10=.int .i64 X.length∧t11=.int .i64 Y.length∧q=X.length+Y.length∧P'.length+X.length=m∧0<X.length∧0<Y.length∧
   P'++Y++X++S'=P++B++A++S∧(P'++X++Y++S').length=(P++A++B++S).length∧Sat e w (DK v (P'++X++Y++S')::R)) (A.length+B.length)
  ⟨P,A,B,S,by rw[show m - a=A.length by omega],by rw[show b - m=B.length by omega],rfl,by omega,hA,hB,rfl,rfl,hS⟩ ?_
 rintro q _ _ w g ⟨P',X,Y,S',rfl,rfl,rfl,hpm,hX,hY,heq,hle,h1⟩ hg
 simp only[List.length_append] at hle
 refine ZrP (λc=>Zi ?_) (λc=>Zf ?_)
 ·refine Ztu (λc2=>Zi ?_) (λc2=>Zf ?_)
  ·-- X is longer
   refine Zdh (by omega) (by omega) ?_
   have hX':X=X.take Y.length++X.drop Y.length:=(List.take_append_drop _ _).symm
   have hl1:(X.take Y.length).length=Y.length:=by rw[List.length_take];omega
   have hl2:(X.drop Y.length).length=X.length - Y.length:=List.length_drop
   refine ZhM (P:=P') (A:=X.take Y.length) (M:=X.drop Y.length) (B:=Y) (S:=S') (by omega) (by omega) (by omega) hl1 (by simp only[List.length_append];omega) (by rw[hX'] at h1;simpa using h1) λw2 h2=>?_
   refine Zdh (by omega) (by omega) ?_
   refine hg _ _ _ _ (by simp only[hl1,hl2];omega) ⟨P'++Y,X.drop Y.length,X.take Y.length,S',by rw[hl2],by rw[hl1],rfl,by rw[List.length_append,hl2];omega,by omega,by omega,?_,by simp only[List.length_append];omega,by simpa using h2⟩
   rw[←heq]
   conv=>rhs;rw[hX']
   simp
  ·refine Zdh (by omega) (by omega) (Zb9 (by omega) (Zdh (by omega) (by omega) ?_))
   have hXY:X.length<Y.length:=by omega
   have hY':Y=Y.take (Y.length - X.length)++Y.drop (Y.length - X.length):=(List.take_append_drop _ _).symm
   have hl1:(Y.take (Y.length - X.length)).length=Y.length - X.length:=by rw[List.length_take];omega
   have hl2:(Y.drop (Y.length - X.length)).length=X.length:=by rw[List.length_drop];omega
   refine ZhM (P:=P') (A:=X) (M:=Y.take (Y.length - X.length)) (B:=Y.drop (Y.length - X.length)) (S:=S') (by omega) (by omega) rfl hl2.symm (by simp only[List.length_append];omega) (by rw[hY'] at h1;simpa using h1) λw2 h2=>?_
   refine Zdh (by omega) (by omega) ?_
   refine hg _ _ _ _ (by simp only[hl1,hl2];omega) ⟨P',Y.drop (Y.length - X.length),Y.take (Y.length - X.length),X++S',by rw[hl2],by rw[hl1],rfl,by omega,by omega,by omega,?_,by simp only[List.length_append];omega,by simpa using h2⟩
   rw[←heq]
   conv=>rhs;rw[hY']
   simp
 ·have hXY:X.length=Y.length:=by omega
  refine Zdh (by omega) (by omega) ?_
  refine ZhM (P:=P') (A:=X) (M:=[]) (B:=Y) (S:=S') (by omega) (by simp;omega) rfl hXY (by simp only[List.length_append,List.length_nil];omega) (by simpa using h1) λw2 h2=>?_
  refine hk _ ?_
  rw[←heq]
  simpa using h2
theorem Zmq (hc:Zvo e fv cf) (o:Zbr (ltC cf)) {P X S:List Yz} {a b:Nat} (ha:a=P.length) (hb:b=P.length+X.length) (hlen:(P++X++S).length≤1000000)
  (hS:Sat e w (DK v (P++X++S)::R)) (hk:∀w',Sat e w' (DK v (P++ZeY (ltC cf) X++S)::R)→K (.tuple #[]) w') :
  Cl prog 145 #[v,.int .i64 (a:Int),.int .i64 (b:Int),fv] w K:=by
 refine Za5 ?_
 unfold Zap
 simp only[List.length_append] at hlen
 refine Yr (by omega) ?_
 by_cases hX0:X.length=0
 ·have hX:X=[]:=List.length_eq_zero_iff.1 hX0
  subst hX
  refine Zdk (λq t8 w=>t8=.int .i64 ((a+1:Nat):Int)∧Sat e w (DK v (P++[]++S)::R)) 0 ⟨rfl,hS⟩ ?_
  rintro q _ w g ⟨rfl,h1⟩ hg
  refine Zpd (λc=>?_) (λc=>Zf (hk _ h1))
  simp at hb
  omega
 refine Zdk (λq t8 w=>∃r:Nat,1≤r∧r≤X.length∧t8=.int .i64 ((a+r:Nat):Int)∧q=X.length - r∧Sat e w (DK v (P++ZeY (ltC cf) (X.take r)++X.drop r++S)::R)) (X.length - 1)
  ⟨1,Nat.le_refl _,by omega,rfl,rfl,?_⟩ ?_
 ·obtain ⟨x,hx⟩:=Zk (l:=X) (j:=0) (by omega)
  rw[Zx hx,List.take_zero,List.nil_append,Zsy]
  have:X=x::X.drop 1:=by rw[←List.drop_zero (l:=X),Zaq hx];simp
  rw[this] at hS
  simpa using hS
 rintro q _ w g ⟨r,hr1,hr2,rfl,rfl,h1⟩ hg
 refine Zpd (λc=>Zi ?_) (λc=>Zf ?_)
 ·obtain ⟨x,hx⟩:=Zk (l:=X) (j:=r) (by omega)
  have hsl:(ZeY (ltC cf) (X.take r)).length=r:=by rw[Yw,List.length_take];omega
  refine Zdk (λq t9 w=>∃(U V:List Yz),U++V=ZeY (ltC cf) (X.take r)∧t9=.int .i64 ((a+U.length:Nat):Int)∧q=U.length∧(∀z∈V,ltC cf x z=true)∧
    Sat e w (DK v (P++(U++x::V)++X.drop (r+1)++S)::R)) r
   ⟨ZeY (ltC cf) (X.take r),[],by simp,by rw[hsl],hsl.symm,(λ_ h=>by cases h),by rw[Zaq hx] at h1;simpa using h1⟩ ?_
  rintro q _ w g2 ⟨U,V,hUV,rfl,rfl,hV,h2⟩ hg2
  have hUVl:U.length+V.length=r:=by rw[←hsl,←hUV,List.length_append]
  have hasc:Asc (ltC cf) (U++V):=by rw[hUV];exact Zf5 o _
  have hdone:∀w',Sat e w' (DK v (P++(U++x::V)++X.drop (r+1)++S)::R)→(∀z∈U,ltC cf x z=false)→bi .add .i64 (.int .i64 ((a+r:Nat):Int)) (Value.int IntKind.i64 1) w' λt16 w=>g [t16] w:=by
   intro w' h3 hU
   refine Yr (by omega) ?_
   refine hg _ _ _ (by omega) ⟨r+1,by omega,by omega,rfl,rfl,?_⟩
   rw[Zx hx,Zep o,Zsy,←hUV,ZnU hU hV]
   simpa using h3
  refine ZaY h2 λw3 h3=>?_
  refine Ztu (λc2=>?_) (λc2=>?_)
  ·have hU0:0<U.length:=by omega
   obtain ⟨u,hu⟩:=Zk (l:=U) (j:=U.length - 1) (by omega)
   have hU':U=U.take (U.length - 1)++[u]:=by
    have h5:=Zx hu
    rw[show U.length - 1+1=U.length by omega,List.take_length] at h5
    exact h5
   generalize hU1:U.take (U.length - 1)=U1 at hU'
   have hU1l:U1.length+1=U.length:=by rw[hU'];simp
   have hsh:P++(U++x::V)++X.drop (r+1)++S=(P++U1)++u::([]++x::(V++X.drop (r+1)++S)):=by rw[hU'];simp
   rw[hsh] at h3
   have l1:a+U.length - 1=(P++U1).length:=by rw[List.length_append];omega
   have l2:a+U.length=(P++U1).length+1+([]:List Yz).length:=by rw[List.length_append,List.length_nil];omega
   refine Ze (Ze (Ze (Ze ?_)))
   refine Zw h3 0 rfl (λ_=>Zp) Zbb (ZiK l2) λp hp=>?_
   refine Ze (Ym h3 0 rfl hp rfl ?_)
   refine Ze (Ze (Ze (ZjR (by omega) (by omega) ?_)))
   refine Ze (Zw h3 0 rfl (λ_=>Zp) Zbb (Zj2 l1) λp hp=>?_)
   refine Ze (Ym h3 0 rfl hp rfl ?_)
   refine Ze (hc _ _ _ _ _ h3 λw4 h4=>?_)
   refine Ze (Za7 (λc3=>Yv (Zi ?_)) (λc3=>Yv (Zf ?_)))
   ·refine ZaY h4 λw5 h5=>?_
    refine ZjR (by omega) (by omega) (ZjR (by omega) (by omega) ?_)
    refine ZuH (l:=(P++U1)++u::([]++x::(V++X.drop (r+1)++S))) Zbb (λ_=>Zg _) (ZiK l2) (Zj2 l1) h5 λw6 h6=>?_
    rw[Zp0 l1 l2] at h6
    refine ZjR (by omega) (by omega) ?_
    refine hg2 _ _ _ (by omega) ⟨U1,u::V,by rw[←hUV,hU'];simp,by rw[show a+U.length - 1=a+U1.length by omega],rfl,λz hz=>?_,by simpa using h6⟩
    rcases List.mem_cons.1 hz with rfl | hz
    ·exact decide_eq_true c3
    ·exact hV z hz
   ·refine hdone _ (by rw[hsh];exact h4) ?_
    have:=Zov o hasc.left hu (decide_eq_false c3)
    rw[show U.length - 1+1=U.length by omega,List.take_length] at this
    exact this
  ·have hU0:U=[]:=List.length_eq_zero_iff.1 (by omega)
   refine Zu (Zu (Zu (Zu (Zu (Zu (Zu (Zu (Zu (Zu (Zu (Zu (Yd (Zf (hdone _ h3 ?_))))))))))))))
   rw[hU0]
   exact λ_ h=>by cases h
 ·obtain rfl:r=X.length:=by omega
  rw[List.take_length,List.drop_length,List.append_nil] at h1
  exact hk _ h1
theorem Zpj {P L S:List Yz} {i n:Nat} {x:Yz} (h:L[i]?=some x) (hn:n=P.length+i):(P++L++S)[n]?=some x:=by
 have hi:=(List.getElem?_eq_some_iff.1 h).1
 subst hn
 rw[List.append_assoc,List.getElem?_append_right (by omega),Nat.add_sub_cancel_left,List.getElem?_append_left hi,h]
theorem Zvt {a b x y:Int} (hk:K (.bool (decide (a<b∧x<y))) w):bi .lss .i64 (.int .i64 a) (.int .i64 b) w λt1 w=>gd t1 true (λk=>k (.int .i64 x) w) w λt2 w=>gd t1 true (λk=>k (.int .i64 y) w) w λt3 w=>
  gd t1 true (λk=>bi .lss .i64 t2 t3 w k) w λt4 w=>pk t1 t4 (.bool false) w K:=by
 refine Za7 (λc=>Ze (Ze (Ze (ZwL (Yv ?_))))) (λc=>Zu (Zu (Zu (Yd ?_))))
 ·rw[show decide (a<b∧x<y)=decide (x<y) from by simp[c]] at hk
  exact hk
 ·rw[show decide (a<b∧x<y)=false from by simp[c]] at hk
  exact hk
theorem Zm9 (hc:Zvo e fv cf) (o:Zbr (ltC cf)):∀(N:Nat) {w:World} {R:List HP} {K:KV} {P L Q S:List Yz} {a m b:Nat},L.length+Q.length≤N→a=P.length→m=P.length+L.length→b=P.length+L.length+Q.length→
  0<L.length→0<Q.length→(P++L++Q++S).length≤1000000→Asc (ltC cf) L→Asc (ltC cf) Q→
  Sat e w (DK v (P++L++Q++S)::R)→(∀w',Sat e w' (DK v (P++mg (ltC cf) L Q++S)::R)→K (.tuple #[]) w')→
  Cl prog 146 #[v,.int .i64 (a:Int),.int .i64 (m:Int),.int .i64 (b:Int),fv] w K:=by
 intro N
 induction N with
 | zero=>intro w R K P L Q S a m b h1 _ _ _ h2;omega
 | succ N ih=>
  intro w R K P L Q S a m b hN ha hm hb hL hQ hlen aL aQ hS hk
  refine ZbD ?_
  unfold ZaS
  simp only[List.length_append] at hlen
  refine Zdh (by omega) (by omega) (ZoR (λc1=>Zi ?_) (λc1=>Zf ?_))
  ·-- one from the left
   obtain ⟨x,rfl⟩:∃x,L=[x]:=List.length_eq_one_iff.1 (by omega)
   simp only[List.length_cons,List.length_nil] at*
   refine ZjF (λz t10 t11 w=>∃p q:Nat,t10=.int .i64 ((m+p:Nat):Int)∧t11=.int .i64 ((m+q:Nat):Int)∧p≤q∧q≤Q.length∧z=q - p∧
     (p=0∨∃y,Q[p - 1]?=some y∧ltC cf y x=true)∧(q=Q.length∨∃y,Q[q]?=some y∧ltC cf y x=false)∧Sat e w (DK v (P++[x]++Q++S)::R)) Q.length
    ⟨0,Q.length,by simp,by rw[show b=m+Q.length by omega],Nat.zero_le _,Nat.le_refl _,rfl,.inl rfl,.inl rfl,hS⟩ ?_
   rintro z _ _ w g ⟨p,q,rfl,rfl,hpq,hqQ,rfl,hp,hq,h1⟩ hg
   refine Zpd (λc2=>Zi ?_) (λc2=>Zf ?_)
   ·refine Zb9 (by omega) (Zqe (xo:=λ_=>_) (yo:=λ_=>_) (by omega) ?_)
    rw[show (m+p+(m+q)) / 2=m+(p+q) / 2 by omega]
    have hh:(p+q) / 2<Q.length:=by omega
    obtain ⟨y,hy⟩:=Zk hh
    refine ZaY h1 λw2 h2=>?_
    refine Zw h2 0 rfl (λ_=>Zp) Zbb (Zpj (P:=P++[x]) hy (by simp;omega)) λr hr=>?_
    refine Ym h2 0 rfl hr rfl ?_
    refine Zw (j:=a) h2 0 rfl (λ_=>Zp) Zbb (x:=x) (by rw[ha];simp) λr hr=>?_
    refine Ym h2 0 rfl hr rfl ?_
    refine hc _ _ _ _ _ h2 λw3 h3=>?_
    refine Za7 (λc3=>Zi ?_) (λc3=>Zf ?_)
    ·refine Yr (by omega) ?_
     refine hg _ _ _ _ (by omega) ⟨(p+q) / 2+1,q,rfl,rfl,by omega,hqQ,rfl,.inr ⟨y,by rw[Nat.add_sub_cancel];exact hy,decide_eq_true c3⟩,hq,h3⟩
    ·refine hg _ _ _ _ (by omega) ⟨p,(p+q) / 2,rfl,rfl,by omega,by omega,rfl,hp,.inr ⟨y,hy,decide_eq_false c3⟩,h3⟩
   ·obtain rfl:p=q:=by omega
    have hlow:∀y∈Q.take p,ltC cf y x=true:=by
     rcases hp with rfl | ⟨y,hy,hyx⟩
     ·simp
     ·have hp0:p - 1+1=p:=by
       by_cases h0:p=0
       ·exfalso
        subst h0
        rcases hq with h | ⟨y',hy',hyx'⟩
        ·omega
        ·rw[show 0 - 1=0 from rfl,hy'] at hy
         cases hy
         rw[hyx] at hyx'
         cases hyx'
       ·omega
      have:=Zo3 o aQ hy hyx
      rw[hp0] at this
      exact this
    have hhigh:∀y∈Q.drop p,ltC cf y x=false:=by
     rcases hq with rfl | ⟨y,hy,hyx⟩
     ·simp
     ·exact Zqm o aQ hy hyx
    have hmg:mg (ltC cf) [x] Q=Q.take p++x::Q.drop p:=by
     conv=>lhs;rw[←List.take_append_drop p Q]
     exact ZDt hlow hhigh
    rw[hmg] at hk
    have hQp:(Q.take p).length=p:=by rw[List.length_take];omega
    obtain ⟨Q1,hQ1⟩:∃Q1,Q1=Q.take p:=⟨_,rfl⟩
    obtain ⟨Q2,hQ2⟩:∃Q2,Q2=Q.drop p:=⟨_,rfl⟩
    have hQs:Q=Q1++Q2:=by rw[hQ1,hQ2,List.take_append_drop]
    rw[←hQ1,←hQ2] at hk
    rw[←hQ1] at hQp
    rw[hQs] at h1
    refine Zdk (λz t13 w=>∃i:Nat,i≤p∧t13=.int .i64 ((a+i:Nat):Int)∧z=p - i∧Sat e w (DK v (P++Q1.take i++x::Q1.drop i++Q2++S)::R)) p
     ⟨0,Nat.zero_le _,rfl,rfl,by simpa using h1⟩ ?_
    rintro z _ w g2 ⟨i,hi,rfl,rfl,h2⟩ hg2
    refine ZjR (by omega) (by omega) (Zpd (λc3=>Zi ?_) (λc3=>Zf ?_))
    ·obtain ⟨y,hy⟩:=Zk (l:=Q1) (j:=i) (by omega)
     have hsh:P++Q1.take i++x::Q1.drop i++Q2++S=(P++Q1.take i)++x::([]++y::(Q1.drop (i+1)++Q2++S)):=by rw[Zaq hy];simp
     rw[hsh] at h2
     have l1:a+i=(P++Q1.take i).length:=by rw[List.length_append,List.length_take];omega
     have l2:a+i+1=(P++Q1.take i).length+1+([]:List Yz).length:=by rw[←l1];rfl
     refine ZaY h2 λw3 h3=>?_
     refine Yr (by omega) (Yr (by omega) ?_)
     refine ZuH (l:=(P++Q1.take i)++x::([]++y::(Q1.drop (i+1)++Q2++S))) Zbb (λ_=>Zg _) (Zj2 l1) (ZiK l2) h3 λw4 h4=>?_
     rw[Zsz l1 l2] at h4
     refine Yr (by omega) ?_
     refine hg2 _ _ _ (by omega) ⟨i+1,by omega,rfl,rfl,?_⟩
     rw[Zx hy]
     simpa using h4
    ·obtain rfl:i=p:=by omega
     rw[List.take_of_length_le (by omega),List.drop_of_length_le (by omega)] at h2
     exact hk _ (by simpa using h2)
  refine Zdh (by omega) (by omega) (ZoR (λc2=>Zi ?_) (λc2=>Zf ?_))
  ·-- one from the right
   obtain ⟨y,rfl⟩:∃y,Q=[y]:=List.length_eq_one_iff.1 (by omega)
   simp only[List.length_cons,List.length_nil] at*
   refine ZjF (λz t14 t15 w=>∃p q:Nat,t14=.int .i64 ((a+p:Nat):Int)∧t15=.int .i64 ((a+q:Nat):Int)∧p≤q∧q≤L.length∧z=q - p∧
     (p=0∨∃x,L[p - 1]?=some x∧ltC cf y x=false)∧(q=L.length∨∃x,L[q]?=some x∧ltC cf y x=true)∧Sat e w (DK v (P++L++[y]++S)::R)) L.length
    ⟨0,L.length,by simp,by rw[show m=a+L.length by omega],Nat.zero_le _,Nat.le_refl _,rfl,.inl rfl,.inl rfl,hS⟩ ?_
   rintro z _ _ w g ⟨p,q,rfl,rfl,hpq,hqL,rfl,hp,hq,h1⟩ hg
   refine Zpd (λc2=>Zi ?_) (λc2=>Zf ?_)
   ·refine Zb9 (by omega) (Zqe (xo:=λ_=>_) (yo:=λ_=>_) (by omega) ?_)
    rw[show (a+p+(a+q)) / 2=a+(p+q) / 2 by omega]
    have hh:(p+q) / 2<L.length:=by omega
    obtain ⟨x,hx⟩:=Zk hh
    refine ZaY h1 λw2 h2=>?_
    refine Zw (j:=m) h2 0 rfl (λ_=>Zp) Zbb (x:=y) (Zpj (P:=P++L) (L:=[y]) (i:=0) rfl (by simp;omega)) λr hr=>?_
    refine Ym h2 0 rfl hr rfl ?_
    refine Zw h2 0 rfl (λ_=>Zp) Zbb (x:=x) (by rw[List.append_assoc];exact Zpj hx (by omega)) λr hr=>?_
    refine Ym h2 0 rfl hr rfl ?_
    refine hc _ _ _ _ _ h2 λw3 h3=>?_
    refine Za7 (λc3=>ZaJ (Zf ?_)) (λc3=>Zch (Zi ?_))
    ·refine hg _ _ _ _ (by omega) ⟨p,(p+q) / 2,rfl,rfl,by omega,by omega,rfl,hp,.inr ⟨x,hx,decide_eq_true c3⟩,h3⟩
    ·refine Yr (by omega) ?_
     refine hg _ _ _ _ (by omega) ⟨(p+q) / 2+1,q,rfl,rfl,by omega,hqL,rfl,.inr ⟨x,by rw[Nat.add_sub_cancel];exact hx,decide_eq_false c3⟩,hq,h3⟩
   ·obtain rfl:p=q:=by omega
    have hlow:∀x∈L.take p,ltC cf y x=false:=by
     rcases hp with rfl | ⟨x,hx,hyx⟩
     ·simp
     ·have hp0:p - 1+1=p:=by
       by_cases h0:p=0
       ·exfalso
        subst h0
        rcases hq with h | ⟨x',hx',hyx'⟩
        ·omega
        ·rw[show 0 - 1=0 from rfl,hx'] at hx
         cases hx
         rw[hyx] at hyx'
         cases hyx'
       ·omega
      have:=Zov o aL hx hyx
      rw[hp0] at this
      exact this
    have hhigh:∀x∈L.drop p,ltC cf y x=true:=by
     rcases hq with rfl | ⟨x,hx,hyx⟩
     ·simp
     ·exact Zl6 o aL hx hyx
    have hmg:mg (ltC cf) L [y]=L.take p++y::L.drop p:=by
     conv=>lhs;rw[←List.take_append_drop p L]
     exact ZnU hlow hhigh
    rw[hmg] at hk
    have hL2l:(L.drop p).length=L.length - p:=List.length_drop
    have hL1l:(L.take p).length=p:=by rw[List.length_take];omega
    obtain ⟨L1,hL1⟩:∃L1,L1=L.take p:=⟨_,rfl⟩
    obtain ⟨L2,hL2⟩:∃L2,L2=L.drop p:=⟨_,rfl⟩
    have hLs:L=L1++L2:=by rw[hL1,hL2,List.take_append_drop]
    rw[←hL1,←hL2] at hk
    rw[←hL1] at hL1l
    rw[←hL2] at hL2l
    rw[hLs] at h1
    refine Zdk (λz t17 w=>z≤L2.length∧t17=.int .i64 ((a+p+z:Nat):Int)∧Sat e w (DK v (P++L1++L2.take z++y::L2.drop z++S)::R)) L2.length
     ⟨Nat.le_refl _,by rw[show m=a+p+L2.length by omega],by simpa using h1⟩ ?_
    rintro z _ w g2 ⟨hz,rfl,h2⟩ hg2
    refine Ztu (λc3=>Zi ?_) (λc3=>Zf ?_)
    ·obtain ⟨u,hu⟩:=Zk (l:=L2) (j:=z - 1) (by omega)
     have hz1:z - 1+1=z:=by omega
     have htk:=Zx hu
     rw[hz1] at htk
     have hsh:P++L1++L2.take z++y::L2.drop z++S=(P++L1++L2.take (z - 1))++u::([]++y::(L2.drop z++S)):=by rw[htk];simp
     rw[hsh] at h2
     have l1:a+p+z - 1=(P++L1++L2.take (z - 1)).length:=by simp only[List.length_append,List.length_take];omega
     have l2:a+p+z=(P++L1++L2.take (z - 1)).length+1+([]:List Yz).length:=by rw[←l1,List.length_nil];omega
     refine ZaY h2 λw3 h3=>?_
     refine ZjR (by omega) (by omega) (ZjR (by omega) (by omega) ?_)
     refine ZuH (l:=(P++L1++L2.take (z - 1))++u::([]++y::(L2.drop z++S))) Zbb (λ_=>Zg _) (ZiK l2) (Zj2 l1) h3 λw4 h4=>?_
     rw[Zp0 l1 l2] at h4
     refine ZjR (by omega) (by omega) ?_
     refine hg2 (z - 1) _ _ (by omega) ⟨by omega,by rw[show a+p+z - 1=a+p+(z - 1) by omega],?_⟩
     have hdc:=Zaq hu
     rw[hz1] at hdc
     rw[hdc]
     simpa using h4
    ·obtain rfl:z=0:=by omega
     exact hk _ (by simpa using h2)
  refine Zb9 (by omega) (Zqe (xo:=λ_=>_) (yo:=λ_=>_) (by omega) ?_)
  obtain ⟨mid,hmid⟩:∃mid,mid=(a+b) / 2:=⟨_,rfl⟩
  rw[←hmid]
  refine Zb9 (by omega) ?_
  refine ZFJ ?_
  refine J2.cut (λt20 t21 w=>∃s0 r0:Nat,t20=.int .i64 (s0:Int)∧t21=.int .i64 (r0:Int)∧((s0=a∧r0=m∧m≤mid)∨(s0=mid+m - b∧r0=mid∧mid<m))∧Sat e w (DK v (P++L++Q++S)::R)) (λk5 hcut=>?_) ?_
  ·refine Zt1 (λc3=>?_) (λc3=>?_)
   ·refine Zdh (by omega) (by omega) ?_
    exact hcut _ _ _ ⟨_,_,rfl,rfl,.inr ⟨rfl,rfl,by omega⟩,hS⟩
   ·exact hcut _ _ _ ⟨_,_,rfl,rfl,.inl ⟨rfl,rfl,by omega⟩,hS⟩
  rintro _ _ w ⟨s0,r0,rfl,rfl,hsr,h1⟩
  refine ZjR (by omega) (by omega) ?_
  have hsr0:s0≤r0:=by omega
  refine ZjF (λz t20 t21 w=>∃s r:Nat,t20=.int .i64 (s:Int)∧t21=.int .i64 (r:Int)∧s0≤s∧s≤r∧r≤r0∧z=r - s∧
    (s=s0∨(s0<s∧∃x y,L[s - 1 - a]?=some x∧Q[mid - s]?=some y∧ltC cf y x=false))∧(r=r0∨(r<r0∧∃x y,L[r - a]?=some x∧Q[mid - 1 - r]?=some y∧ltC cf y x=true))∧Sat e w (DK v (P++L++Q++S)::R)) (r0 - s0)
   ⟨s0,r0,rfl,rfl,Nat.le_refl _,hsr0,Nat.le_refl _,rfl,.inl rfl,.inl rfl,h1⟩ ?_
  rintro z _ _ w g ⟨s,r,rfl,rfl,hs0,hsr1,hr0,rfl,hs,hr,h2⟩ hg
  refine Zpd (λc4=>Zi ?_) (λc4=>Zf ?_)
  ·refine Zb9 (by omega) (Zqe (xo:=λ_=>_) (yo:=λ_=>_) (by omega) ?_)
   obtain ⟨c,hcc⟩:∃c,c=(s+r) / 2:=⟨_,rfl⟩
   rw[←hcc]
   have hc1:s≤c:=by omega
   have hc2:c<r:=by omega
   obtain ⟨x,hx⟩:=Zk (l:=L) (j:=c - a) (by omega)
   obtain ⟨y,hy⟩:=Zk (l:=Q) (j:=mid - 1 - c) (by omega)
   refine ZaY h2 λw3 h3=>?_
   refine Zdh (by omega) (by omega) ?_
   refine Zw h3 0 rfl (λ_=>Zp) Zbb (x:=y) (Zpj (P:=P++L) hy (by rw[List.length_append];omega)) λp hp=>?_
   refine Ym h3 0 rfl hp rfl ?_
   refine Zw h3 0 rfl (λ_=>Zp) Zbb (x:=x) (by rw[List.append_assoc];exact Zpj hx (by omega)) λp hp=>?_
   refine Ym h3 0 rfl hp rfl ?_
   refine hc _ _ _ _ _ h3 λw4 h4=>?_
   refine Za7 (λc5=>ZaJ (Zf ?_)) (λc5=>Zch (Zi ?_))
   ·exact hg _ _ _ _ (by omega) ⟨s,c,rfl,rfl,hs0,by omega,by omega,rfl,hs,.inr ⟨by omega,x,y,hx,hy,decide_eq_true c5⟩,h4⟩
   ·refine Yr (by omega) ?_
    exact hg _ _ _ _ (by omega) ⟨c+1,r,rfl,rfl,by omega,by omega,hr0,rfl,.inr ⟨by omega,x,y,by rw[Nat.add_sub_cancel];exact hx,by rw[show mid - (c+1)=mid - 1 - c by omega];exact hy,decide_eq_false c5⟩,hr,h4⟩
  obtain rfl:s=r:=by omega
  have hsa:a≤s:=by omega
  have hsm:s≤m:=by omega
  have hsd:s≤mid:=by omega
  have heb:mid+m - s≤b:=by omega
  have hL1l:(L.take (s - a)).length=s - a:=by rw[List.length_take];omega
  have hL2l:(L.drop (s - a)).length=m - s:=by rw[List.length_drop];omega
  have hQ1l:(Q.take (mid - s)).length=mid - s:=by rw[List.length_take];omega
  have hQ2l:(Q.drop (mid - s)).length=b - (mid+m - s):=by rw[List.length_drop];omega
  have p1:∀x∈L.drop (s - a),∀y∈Q.take (mid - s),ltC cf y x=true:=by
   intro x hx y hy
   rcases hr with hr | ⟨hr,x0,y0,hx0,hy0,hlt⟩
   ·rcases hsr with ⟨_,hrm,_⟩ | ⟨_,hrm,_⟩
    ·rw[List.drop_of_length_le (by omega)] at hx;cases hx
    ·rw[show mid - s=0 by omega,List.take_zero] at hy;cases hy
   ·have h3:=Zl6 o aL hx0 hlt x hx
    have h4:=Zo3 o aQ hy0 h3
    rw[show mid - 1 - s+1=mid - s by omega] at h4
    exact h4 y hy
  have p2:∀x∈L.take (s - a),∀y∈Q.drop (mid - s),ltC cf y x=false:=by
   intro x hx y hy
   rcases hs with hs | ⟨hs,x0,y0,hx0,hy0,hlt⟩
   ·rcases hsr with ⟨hsx,_,_⟩ | ⟨hsx,_,_⟩
    ·rw[show s - a=0 by omega,List.take_zero] at hx;cases hx
    ·rw[List.drop_of_length_le (by omega)] at hy;cases hy
   ·have h3:=Zqm o aQ hy0 hlt y hy
    have h4:=Zov o aL hx0 h3
    rw[show s - 1 - a+1=s - a by omega] at h4
    exact h4 x hx
  have hmg:mg (ltC cf) L Q=mg (ltC cf) (L.take (s - a)) (Q.take (mid - s))++mg (ltC cf) (L.drop (s - a)) (Q.drop (mid - s)):=by
   conv=>lhs;rw[←List.take_append_drop (s - a) L,←List.take_append_drop (mid - s) Q]
   exact ZiE p1 p2
  have aL':Asc (ltC cf) (L.take (s - a)++L.drop (s - a)):=by rw[List.take_append_drop];exact aL
  have aQ':Asc (ltC cf) (Q.take (mid - s)++Q.drop (mid - s)):=by rw[List.take_append_drop];exact aQ
  have hLe:L=L.take (s - a)++L.drop (s - a):=(List.take_append_drop _ _).symm
  have hQe:Q=Q.take (mid - s)++Q.drop (mid - s):=(List.take_append_drop _ _).symm
  rw[hmg] at hk
  have h3:Sat e w (DK v (P++(L.take (s - a)++L.drop (s - a))++(Q.take (mid - s)++Q.drop (mid - s))++S)::R):=by rw[←hLe,←hQe];exact h2
  clear hs hr p1 p2 hmg h2 hLe hQe
  generalize L.take (s - a)=L1 at*
  generalize L.drop (s - a)=L2 at*
  generalize Q.take (mid - s)=Q1 at*
  generalize Q.drop (mid - s)=Q2 at*
  refine Zdh (by omega) (by omega) ?_
  refine Zvt ?_
  refine J0.cut (λw=>Sat e w (DK v (P++L1++Q1++L2++Q2++S)::R)) (λk7 hcut=>?_) ?_
  ·refine Zt1 (λc5=>?_) (λc5=>hcut _ ?_)
   ·refine Zv2 (P:=P++L1) (A:=L2) (B:=Q1) (S:=Q2++S) (by rw[List.length_append];omega) (by rw[List.length_append];omega) (by rw[List.length_append];omega) (by omega) (by omega) (by simp only[List.length_append];omega) (by simpa using h3) λw5 h5=>?_
    exact hcut _ (by simpa using h5)
   ·have:L2=[]∨Q1=[]:=by
     by_cases h:s<m
     ·exact .inr (List.length_eq_zero_iff.1 (by omega))
     ·exact .inl (List.length_eq_zero_iff.1 (by omega))
    rcases this with h | h <;> subst h <;> simpa using h3
  intro w5 h5
  refine Zvt ?_
  refine J0.cut (λw=>Sat e w (DK v (P++mg (ltC cf) L1 Q1++L2++Q2++S)::R)) (λk8 hcut=>?_) ?_
  ·refine Zt1 (λc5=>?_) (λc5=>hcut _ ?_)
   ·refine ih (P:=P) (L:=L1) (Q:=Q1) (S:=L2++Q2++S) (by omega) ha (by omega) (by omega) (by omega) (by omega) (by simp only[List.length_append];omega) aL'.left aQ'.left (by simpa using h5) λw6 h6=>?_
    exact hcut _ (by simpa using h6)
   ·have:L1=[]∨Q1=[]:=by
     by_cases h:a<s
     ·exact .inr (List.length_eq_zero_iff.1 (by omega))
     ·exact .inl (List.length_eq_zero_iff.1 (by omega))
    rcases this with h | h
    ·subst h;rw[ZcI];simpa using h5
    ·subst h;rw[ZbO];simpa using h5
  intro w6 h6
  refine Zvt ?_
  refine Zt1 (λc5=>?_) (λc5=>hk _ ?_)
  ·refine ih (P:=P++mg (ltC cf) L1 Q1) (L:=L2) (Q:=Q2) (S:=S) (by omega) (by rw[List.length_append,Zjz];omega) (by rw[List.length_append,Zjz];omega) (by rw[List.length_append,Zjz];omega) (by omega) (by omega) (by simp only[List.length_append,Zjz];omega) aL'.right aQ'.right (by simpa using h6) λw7 h7=>?_
   exact hk _ (by simpa using h7)
  ·have:L2=[]∨Q2=[]:=by
    by_cases h:mid<mid+m - s
    ·exact .inr (List.length_eq_zero_iff.1 (by omega))
    ·exact .inl (List.length_eq_zero_iff.1 (by omega))
   rcases this with h | h
   ·subst h;rw[ZcI];simpa using h6
   ·subst h;rw[ZbO];simpa using h6
def srt (cf:Yz→Yz→Int) (B:List (List Yz)):List Yz:=(B.map (ZeY (ltC cf))).flatten
theorem Zcc (B:List (List Yz)):(srt cf B).length=B.flatten.length:=by
 induction B with
 | nil=>rfl
 | cons b B ih=>simp only[srt,List.map_cons,List.flatten_cons,List.length_append,Yw] at ih ⊢;rw[ih]
theorem Zna (A B:List (List Yz)):srt cf (A++B)=srt cf A++srt cf B:=by simp[srt]
theorem Zi0 (b:List Yz) (B:List (List Yz)):srt cf (b::B)=ZeY (ltC cf) b++srt cf B:=by simp[srt]
theorem Zsu {B:List (List Yz)} {k:Nat} (h:∀b∈B,b.length=k):B.flatten.length=B.length*k:=by
 induction B with
 | nil=>simp
 | cons b B ih=>rw[List.flatten_cons,List.length_append,h b List.mem_cons_self,ih λx hx=>h x (List.mem_cons_of_mem _ hx),List.length_cons,Nat.add_mul];omega
theorem ZwX (hc:Zvo e fv cf) (o:Zbr (ltC cf)) {l:List Yz} (hlen:l.length≤1000000) (hS:Sat e w (DK v l::R)) (hk:∀w',Sat e w' (DK v (ZeY (ltC cf) l)::R)→K (.tuple #[]) w') :
  Cl prog 139 #[v,.int .i64 (l.length:Int),fv] w K:=by
 refine ZbL ?_
 unfold Za0
 refine ZjF (λz t7 t8 w=>∃(B:List (List Yz)) (r:List Yz),l=B.flatten++r∧(∀b∈B,b.length=20)∧t7=.int .i64 (B.flatten.length:Int)∧t8=.int .i64 ((B.flatten.length+20:Nat):Int)∧z=r.length∧Sat e w (DK v (srt cf B++r)::R)) l.length
  ⟨[],l,rfl,(λ_ h=>by cases h),rfl,rfl,rfl,hS⟩ ?_
 rintro z _ _ w g ⟨B,r,hl,hB,rfl,rfl,rfl,h1⟩ hg
 have hll:l.length=B.flatten.length+r.length:=by rw[hl,List.length_append]
 refine ZFH (λc1=>Zi ?_) (λc1=>Zf ?_)
 ·have hr20:20≤r.length:=by omega
  have htl:(r.take 20).length=20:=by rw[List.length_take];omega
  refine Zmq hc o (P:=srt cf B) (X:=r.take 20) (S:=r.drop 20) (Zcc B).symm (by rw[Zcc,htl]) (by simp only[List.length_append,List.length_take,List.length_drop,Zcc];omega) (by simpa using h1) λw2 h2=>?_
  refine Zb9 (b:=20) (by omega) ?_
  refine hg _ _ _ _ (by rw[List.length_drop];omega) ⟨B++[r.take 20],r.drop 20,by rw[hl];simp,λb hb=>?_,?_,?_,rfl,?_⟩
  ·rcases List.mem_append.1 hb with h | h
   ·exact hB b h
   ·rw[List.mem_singleton.1 h];exact htl
  ·rw[List.flatten_append,List.length_append];simp[htl]
  ·rw[List.flatten_append,List.length_append];simp[htl]
  ·rw[Zna,Zi0]
   simpa [srt] using h2
 ·have hr20:r.length<20:=by omega
  refine Zmq hc o (P:=srt cf B) (X:=r) (S:=[]) (Zcc B).symm (by rw[Zcc,hll]) (by simp only[List.length_append,Zcc,List.length_nil];omega) (by simpa using h1) λw2 h2=>?_
  rw[List.append_nil] at h2
  refine Zdk (λz t6 w=>∃(bs:Nat) (B:List (List Yz)) (r:List Yz),l=B.flatten++r∧0<bs∧bs≤2000000∧(∀b∈B,b.length=bs)∧r.length<bs∧t6=.int .i64 (bs:Int)∧z=l.length - bs∧Sat e w (DK v (srt cf B++ZeY (ltC cf) r)::R)) (l.length - 20)
   ⟨20,B,r,hl,by decide,by decide,hB,hr20,rfl,rfl,h2⟩ ?_
  clear hl hB hr20 hll h1 h2 hg c1
  rintro z _ w g2 ⟨bs,B,r,hl,hbs,hbs2,hB,hr,rfl,rfl,h1⟩ hg2
  have hll:l.length=B.flatten.length+r.length:=by rw[hl,List.length_append]
  refine Zpd (λc2=>Zi ?_) (λc2=>Zf ?_)
  ·refine Zp5 (a:=2) (by omega) ?_
   refine ZjF (λz t7 t8 w=>∃(D B:List (List Yz)),l=D.flatten++B.flatten++r∧(∀b∈D,b.length=2*bs)∧(∀b∈B,b.length=bs)∧t7=.int .i64 (D.flatten.length:Int)∧t8=.int .i64 ((D.flatten.length+2*bs:Nat):Int)∧z=B.length∧
     Sat e w (DK v (srt cf D++srt cf B++ZeY (ltC cf) r)::R)) B.length
    ⟨[],B,by simpa using hl,(λ_ h=>by cases h),hB,rfl,by simp,rfl,h1⟩ ?_
   clear hl hB hll h1
   rintro z _ _ w g3 ⟨D,B,hl,hD,hB,rfl,rfl,rfl,h1⟩ hg3
   have hll:l.length=D.flatten.length+B.flatten.length+r.length:=by rw[hl,List.length_append,List.length_append]
   have hBl:=Zsu hB
   refine ZFH (λc3=>Zi ?_) (λc3=>Zf ?_)
   ·-- two blocks more
    obtain ⟨X,Y,B',rfl⟩:∃X Y B',B=X::Y::B':=by
     match B with
     | []=>simp only[List.length_nil] at hBl;omega
     | [X]=>simp only[List.length_cons,List.length_nil] at hBl;omega
     | X::Y::B'=>exact ⟨X,Y,B',rfl⟩
    have hXl:X.length=bs:=hB X (by simp)
    have hYl:Y.length=bs:=hB Y (by simp)
    rw[List.flatten_cons,List.flatten_cons,List.length_append,List.length_append] at hll
    refine Zb9 (by omega) ?_
    refine Zm9 hc o _ (P:=srt cf D) (L:=ZeY (ltC cf) X) (Q:=ZeY (ltC cf) Y) (S:=srt cf B'++ZeY (ltC cf) r) (Nat.le_refl _) (Zcc D).symm (by rw[Zcc,Yw];omega) (by rw[Zcc,Yw,Yw];omega)
     (by rw[Yw];omega) (by rw[Yw];omega) (by simp only[List.length_append,Zcc,Yw];omega) (Zf5 o _) (Zf5 o _) (by rw[Zi0,Zi0] at h1;simpa using h1) λw4 h4=>?_
    refine Zp5 (a:=2) (by omega) (Zb9 (by omega) ?_)
    refine hg3 _ _ _ _ (by simp only[List.length_cons];omega) ⟨D++[X++Y],B',by rw[hl];simp,λb hb=>?_,λb hb=>hB b (by simp[hb]),?_,?_,rfl,?_⟩
    ·rcases List.mem_append.1 hb with h | h
     ·exact hD b h
     ·rw[List.mem_singleton.1 h,List.length_append];omega
    ·rw[List.flatten_append,List.length_append];simp[hXl,hYl];omega
    ·rw[List.flatten_append,List.length_append];simp[hXl,hYl];omega
    ·rw[Zna,Zi0,Zep o]
     simpa [srt] using h4
   ·-- at most one block more
    refine Zb9 (by omega) (ZwL ?_)
    refine J0.cut (λw=>∃r',l=D.flatten++r'∧r'.length<2*bs∧Sat e w (DK v (srt cf D++ZeY (ltC cf) r')::R)) (λk4 hcut=>?_) ?_
    ·refine Zt1 (λc4=>?_) (λc4=>hcut _ ?_)
     ·obtain ⟨X,rfl⟩:∃X,B=[X]:=by
       match B with
       | []=>simp only[List.length_nil] at hBl;omega
       | [X]=>exact ⟨X,rfl⟩
       | X::Y::B'=>simp only[List.length_cons,Nat.add_mul] at hBl;omega
      have hXl:X.length=bs:=hB X (by simp)
      simp only[List.flatten_cons,List.flatten_nil,List.append_nil] at hll hl
      refine Zm9 hc o _ (P:=srt cf D) (L:=ZeY (ltC cf) X) (Q:=ZeY (ltC cf) r) (S:=[]) (Nat.le_refl _) (Zcc D).symm (by rw[Zcc,Yw];omega) (by rw[Zcc,Yw,Yw];omega)
       (by rw[Yw];omega) (by rw[Yw];omega) (by simp only[List.length_append,Zcc,Yw,List.length_nil];omega) (Zf5 o _) (Zf5 o _) (by rw[Zi0] at h1;simpa [srt] using h1) λw4 h4=>?_
      refine hcut _ ⟨X++r,by rw[hl];simp,by rw[List.length_append];omega,?_⟩
      rw[Zep o]
      simpa using h4
     ·match B,hB,hl,hll,hBl,h1 with
      | [],hB,hl,hll,hBl,h1=>exact ⟨r,by simpa using hl,by omega,by simpa [srt] using h1⟩
      | [X],hB,hl,hll,hBl,h1=>
       have hXl:X.length=bs:=hB X (by simp)
       simp only[List.flatten_cons,List.flatten_nil,List.append_nil] at hll
       have hr0:r=[]:=List.length_eq_zero_iff.1 (by omega)
       subst hr0
       exact ⟨X,by simpa using hl,by omega,by simpa [srt,ZeY] using h1⟩
      | X::Y::B',hB,hl,hll,hBl,h1=>simp only[List.length_cons,Nat.add_mul] at hBl;omega
    ·rintro w5 ⟨r',hl',hr',h5⟩
     refine Zp5 (b:=2) (by omega) ?_
     exact hg2 _ _ _ (by omega) ⟨bs*2,D,r',hl',by omega,by omega,λb hb=>by rw[hD b hb];omega,by omega,rfl,rfl,h5⟩
  ·have hBl:=Zsu hB
   refine hk _ ?_
   match B,hB,hl,hll,hBl,h1 with
   | [],hB,hl,hll,hBl,h1=>rw[show l=r by simpa using hl];simpa [srt] using h1
   | [X],hB,hl,hll,hBl,h1=>
    have hXl:X.length=bs:=hB X (by simp)
    simp only[List.flatten_cons,List.flatten_nil,List.append_nil] at hll
    have hr0:r=[]:=List.length_eq_zero_iff.1 (by omega)
    subst hr0
    rw[show l=X by simpa using hl]
    simpa [srt,ZeY] using h1
   | X::Y::B',hB,hl,hll,hBl,h1=>simp only[List.length_cons,Nat.add_mul] at hBl;omega
theorem Zpw {S:HP} (hc:Zvo e fv cf) (o:Zbr (ltC cf)) {l:List Yz} (hlen:l.length≤1000000) (hS:Sat e w (DK v l::S::R)) (hk:∀w',Sat e w' (DK v (ZeY (ltC cf) l)::S::R)→K (.tuple #[]) w') :
  Cl prog 128 #[v,fv] w K:=by
 refine ZaO ?_
 unfold Zad
 refine Zt hS 0 rfl (λ_=>Zp) ?_
 exact ZwX hc o hlen hS hk
theorem ZyG {b:Nat} {k:Key} {x:Yz} (hS:Sat e w (blk b 79 k.cs::R)) (hk:∀w',Sat e w' (blk b 79 k.cs::R)→K (.bool (decide (0≤ZeU x.cause k))) w') :
  clV prog (.func (.func 251) #[] #[.pointer (some ⟨b,0,none⟩)]) #[.agg x.cs.toArray] w K:=by
 refine ⟨_,_,_,rfl,?_⟩
 refine Ze4 (t0:=.agg x.cs.toArray) (t1:=.pointer (some ⟨b,0,none⟩)) ?_
 unfold ZeJ
 refine Yp (cs:=x.cs) hS rfl λb2 w1 h1=>?_
 refine Za ?_
 refine Zo h1 0 (vs:=x.cause.cs) rfl (by rfl) rfl ?_
 refine Zo h1 1 (vs:=k.cs) rfl (by rfl) rfl ?_
 refine Zcr h1 λw2 h2=>?_
 refine ZGo ?_
 exact hk _ h2.drop
def Zqc (k:Key) (x:Yz):Bool:=decide (0≤ZeU x.cause k)
theorem Zq2 {g:Nat} {fl:Int} {l:List Yz} (k:Key) (hS:Sat e w (Yo g fl l::R)) (hl:l.length≤1000000)
  (hk:∀v w',Sat e w' (Zz 81 6 Msg.cs v ((l.filter (Zqc k)).map Yz.m)::Yo g fl (l.filter λx=>!Zqc k x)::R)→K v w'):Cl prog 245 #[.pointer (some ⟨g,0,none⟩),.agg k.cs.toArray] w K:=by
 refine Zgp ?_
 unfold ZgZ
 refine Yp (cs:=k.cs) hS rfl λb3 w1 h1=>?_
 refine Zmp (Zqc k) h1.swap hl (λw R K x h hk=>ZyG h hk) λv' w2 h2=>?_
 refine ZjM h2 (λ_=>Zp) (Nat.le_trans (List.length_filter_le _ _) hl) λv3 w3 h3=>?_
 exact hk _ _ (h3.selR [_,_,_,_] [_,_] [0,2] (by decide) rfl)
def cfK (x y:Yz):Int:=ZeU x.cause y.cause
theorem ZtJ {x y:Yz}:ltC cfK x y=true↔Zv x.cause y.cause:=by
 unfold ltC cfK
 rw[decide_eq_true_eq]
 exact Zav
theorem ZrW {x y:Yz}:ltC cfK x y=false↔¬Zv x.cause y.cause:=by
 rw[←ZtJ]
 cases ltC cfK x y <;> simp
theorem ZrK:Zbr (ltC cfK) where
 asymm a b h:=ZrW.2 (ZtJ.1 h).asymm
 trans a b c h k:=by
  rw[ZrW] at h k ⊢
  intro hca
  rcases Zv.tri a.cause b.cause with h1 | h1 | h1
  ·exact k (hca.trans h1)
  ·rw[h1] at hca;exact k hca
  ·exact h h1
def Zo4 (t:Int) (x:Yz):Bool:=decide (x.cause.T<t)
def Zs6 (l:List Yz) (t:Int):List Yz:=ZeY (ltC cfK) (l.filter (Zo4 t))
def ZwV (l:List Yz) (t:Int):List Yz:=l.filter λx=>!Zo4 t x
theorem Zy5 {b:Nat} {t:Int} {x:Yz} (hS:Sat e w (blk b 3 [.int .i64 t]::R)) (hk:∀w',Sat e w' (blk b 3 [.int .i64 t]::R)→K (.bool (Zo4 t x)) w') :
  clV prog (.func (.func 127) #[] #[.pointer (some ⟨b,0,none⟩)]) #[.agg x.cs.toArray] w K:=by
 refine ⟨_,_,_,rfl,?_⟩
 refine ZeS (t0:=.agg x.cs.toArray) (t1:=.pointer (some ⟨b,0,none⟩)) ?_
 unfold ZeA
 refine Yp (cs:=x.cs) hS rfl λb2 w1 h1=>?_
 refine Za (Za ?_)
 refine Zb h1 0 rfl (v:=.int .i64 x.cause.T) rfl ?_
 refine Zb h1 1 rfl (v:=.int .i64 t) rfl ?_
 refine ZwL ?_
 exact hk _ h1.drop
theorem Zyi:Zvo e (.func (.func 129) #[] #[]) cfK:=by
 intro w R K x y hS hk
 refine ⟨_,_,_,rfl,?_⟩
 refine ZeR (t0:=.agg x.cs.toArray) (t1:=.agg y.cs.toArray) ?_
 unfold ZeD
 refine Yp (cs:=x.cs) hS rfl λb2 w1 h1=>?_
 refine Yp (cs:=y.cs) h1 rfl λb3 w2 h2=>?_
 refine Za (Zo h2 1 (vs:=x.cause.cs) rfl (by rfl) rfl ?_)
 refine Za (Zo h2 0 (vs:=y.cause.cs) rfl (by rfl) rfl ?_)
 exact Zcr h2 λw3 h3=>hk _ h3.drop.drop
theorem ZqO {g:Nat} {fl:Int} {l:List Yz} (t:Int) (hS:Sat e w (Yo g fl l::R)) (hl:l.length≤1000000)
  (hk:∀v w',Sat e w' (Zz 81 6 Msg.cs v ((Zs6 l t).map Yz.m)::Yo g (max fl t) (ZwV l t)::R)→K v w'):Cl prog 105 #[.pointer (some ⟨g,0,none⟩),.int .i64 t] w K:=by
 refine ZgO ?_
 unfold Zhk
 refine Yp (cs:=[.int .i64 t]) hS rfl λb3 w1 h1=>?_
 refine Zmp (Zo4 t) h1.swap hl (λw R K x h hk=>Zy5 h hk) λv' w2 h2=>?_
 have hfl:=List.length_filter_le (Zo4 t) l
 refine Zpw Zyi ZrK (by omega) h2 λw3 h3=>?_
 refine ZaY h3 λw4 h4=>?_
 obtain ⟨v,h5⟩:=(h4.selR [_,_,_] [_,_,_] [1,0,2] (by decide) rfl).ex
 have h6:=h5.split
 refine Zh (Za (Zb h6 0 rfl (v:=.int .i64 fl) rfl ?_))
 refine Zb h6 3 rfl (v:=.int .i64 t) rfl ?_
 refine ZwQ ?_
 refine Zh (Za ?_)
 refine Zq h6 0 rfl (vs:=[.int .i64 (max fl t)]) rfl rfl (Nat.le_of_ble_eq_true rfl) (by simp[flat]) (cs':=[.int .i64 (max fl t),v]) rfl λw5 h7=>?_
 have h8:Sat e w5 (DK v' (Zs6 l t)::Yo g (max fl t) (ZwV l t)::blk b3 3 [.int .i64 t]::R):=
  Sat.swap (.mk_ex v (.join (l':=[_,_]) (h7.selR [_,_,_,_] [_,_,_,_] [0,1,2,3] (by decide) rfl)))
 refine ZjM h8 (λ_=>Zp) (by unfold Zs6;rw[Yw];omega) λv3 w6 h9=>?_
 exact hk _ _ (h9.selR [_,_,_,_] [_,_] [0,2] (by decide) rfl)
structure Ins (G:List Yz) (x:Yz) (i:Nat) (d:Bool) (c:List Yz):Prop where
 no:d=false→c=G.take i∧∀z∈G.take i,ltC cfK x z=false
 yes:d=true→∃p y,p<i∧G[p]?=some y∧ltC cfK x y=true∧(∀z∈G.take p,ltC cfK x z=false)∧c=G.take p++x::(G.take i).drop p
theorem Ins.len {G:List Yz} {x:Yz} {i:Nat} {d:Bool} {c:List Yz} (h:Ins G x i d c) (_hi:i≤G.length):c.length≤i+1:=by
 cases d with
 | false=>rw[(h.no rfl).1,List.length_take];omega
 | true=>
  obtain ⟨p,y,hp,_,_,_,rfl⟩:=h.yes rfl
  simp only[List.length_append,List.length_cons,List.length_take,List.length_drop]
  omega
theorem Ins.done {G:List Yz} {x:Yz} {c:List Yz} (h:Ins G x G.length true c) (ha:Asc (ltC cfK) G):c=mg (ltC cfK) G [x]:=by
 obtain ⟨p,y,hp,hy,hxy,hlo,rfl⟩:=h.yes rfl
 rw[List.take_length]
 have hhi:=Zl6 ZrK ha hy hxy
 have:=ZnU hlo hhi
 rw[List.take_append_drop] at this
 exact this.symm
theorem Ins.push {G:List Yz} {x:Yz} {c:List Yz} (h:Ins G x G.length false c):c++[x]=mg (ltC cfK) G [x]:=by
 obtain ⟨rfl,hlo⟩:=h.no rfl
 rw[List.take_length] at hlo ⊢
 have:=ZnU (lt:=ltC cfK) (y:=x) (L1:=G) (L2:=[]) hlo (λ_ h=>by cases h)
 rw[List.append_nil] at this
 exact this.symm
variable {L Q:List HP} {S S2:HP}
abbrev DE (v:Value) (xs:List EnX):HP:=Zz 203 10 EnX.cs v xs
theorem Zoz {v:Value} {l:List EnX} (i:Nat) (hi:L[i]?=some S) (hl:l.length≤1000000) (hff:∀x∈l,flat x.ov=true) (hS:Sat e w L) (hr:∀g,S g→rdS 10 EnX.cs v l g)
  (hk:∀v' w',Sat e w' (DE v' l::L)→K v' w'):Cl prog 125 #[v] w K:=by
 refine Zbo ?_
 unfold ZaI
 have h0:=hS.pick i hi
 obtain ⟨A,c,rfl,_⟩:=h0.shape 0 rfl hr
 cases A with
 | none=>
  refine Yn (w':=w) (v:=.bool true) (by kernel_rfl) ?_
  obtain rfl:=ZlK h0 hr
  exact Zi (hk _ _ (unpick hi (h0.own_nil 203 10 EnX.cs)))
 | some a=>
  refine Yn (w':=w) (v:=.bool false) (by kernel_rfl) ?_
  refine Zf ?_
  refine Zw3 h0 EnX.cs λv1 w2 h2=>?_
  refine Zcs ZUV ZUC (f:=EnX.cs) (λ_=>rfl) (λx hx=>EnX.flat (hff x hx)) h2 hr (by simp;omega) λv2 w3 h3=>?_
  rw[List.nil_append] at h3
  exact hk _ _ (unpick hi h3)
theorem ZtE {v:Value} {xs:List EnX} (hl:xs.length≤1000000) (hff:∀x∈xs,flat x.ov=true) (hS:Sat e w (DE v xs::Q)) (hk:∀w',Sat e w' (DE v xs.reverse::Q)→K (.tuple #[]) w') :
  Cl prog 250 #[v] w K:=by
 refine Zbe ?_
 unfold Zax
 refine Zt hS 0 rfl (λ_=>Zp) ?_
 refine ZoJ (by omega) (by omega) ?_
 refine ZjF (λq t2 t3 w=>∃(i:Nat) (l:List EnX),2*i≤xs.length∧t2=.int .i64 i∧t3=.int .i64 ((xs.length:Int) - 1 - i)∧q=xs.length - i∧l.length=xs.length∧(∀p,p<xs.length→l[p]?=if p<i∨xs.length≤p+i then xs[xs.length - 1 - p]? else xs[p]?)∧Sat e w (DE v l::Q)) xs.length
  ⟨0,xs,by omega,rfl,by rw[Int.natCast_zero,Int.sub_zero],rfl,rfl,λp hp=>by rw[if_neg (by omega)],hS⟩ ?_
 rintro q _ _ w g ⟨i,l,hi2,rfl,rfl,rfl,hl2,hget,h2⟩ hg
 refine Za7 (λc=>Zi ?_) (λc=>Zf ?_)
 ·obtain ⟨j,hj⟩:∃j:Nat,(xs.length:Int) - 1 - i=j:=⟨xs.length - 1 - i,by omega⟩
  rw[hj] at c ⊢
  have hij:i<j:=by omega
  have hjl:j=xs.length - 1 - i:=by omega
  have gi:=hget i (by omega)
  have gj:=hget j (by omega)
  rw[if_neg (by omega)] at gi gj
  obtain ⟨x,hx⟩:=Zk (l:=xs) (j:=i) (by omega)
  obtain ⟨y,hy⟩:=Zk (l:=xs) (j:=j) (by omega)
  rw[hx] at gi
  rw[hy] at gj
  have fx:=hff x (List.mem_of_getElem? hx)
  have fy:=hff y (List.mem_of_getElem? hy)
  refine ZaY h2 λw3 h3=>?_
  refine Zw h3 0 rfl (λ_=>Zp) (λ_=>rfl) gj λa ha=>Ym h3 0 rfl ha rfl ?_
  refine Zw h3 0 rfl (λ_=>Zp) (λ_=>rfl) gi λa ha=>Ym h3 0 rfl ha rfl ?_
  refine ZdJ h3 0 rfl (λ_=>rfl) (by omega) (x:=y) rfl (EnX.flat fy) λw4 h4=>?_
  refine ZdJ h4 0 rfl (λ_=>rfl) (by rw[List.length_set];omega) (x:=x) rfl (EnX.flat fx) λw5 h5=>?_
  refine ZcD (by omega) (by omega) (ZoJ (by omega) (by omega) ?_)
  refine hg _ _ _ _ (by omega) ⟨i+1,(l.set i y).set j x,by omega,by rw[Int.natCast_add];rfl,by rw[←hj,Int.natCast_add];congr 1;omega,rfl,by rw[List.length_set,List.length_set];exact hl2,λp hp=>?_,h5⟩
  rw[List.getElem?_set,List.getElem?_set]
  by_cases h1:j=p
  ·subst h1
   rw[if_pos rfl,if_pos (by rw[List.length_set];omega),if_pos (by omega),show xs.length - 1 - j=i from by omega,hx]
  ·rw[if_neg h1]
   by_cases h6:i=p
   ·subst h6
    rw[if_pos rfl,if_pos (by omega),if_pos (by omega),←hjl,hy]
   ·rw[if_neg h6,hget p hp]
    by_cases h7:p<i∨xs.length≤p+i
    ·rw[if_pos h7,if_pos (by omega)]
    ·rw[if_neg h7,if_neg (by omega)]
 ·have he:l=xs.reverse:=by
   apply List.ext_getElem?
   intro p
   by_cases hp:p<xs.length
   ·rw[hget p hp,List.getElem?_reverse hp]
    by_cases h7:p<i∨xs.length≤p+i
    ·rw[if_pos h7]
    ·rw[if_neg h7]
     congr 1
     omega
   ·rw[List.getElem?_eq_none (by omega),List.getElem?_eq_none (by rw[List.length_reverse];omega)]
  rw[he] at h2
  exact hk _ h2
def Zmb (k:Key) (l:List En):List En:=l.filter λx=>decide (Zv x.m.key k)
def Zqh (k:Key) (l:List En):List En:=l.filter λx=>!decide (Zv x.m.key k)
def Zx0 (t:Int) (l:List En):List En:=l.filter λx=>decide (x.m.key.T<t)
def ZzN (t:Int) (l:List En):List En:=l.filter λx=>!decide (x.m.key.T<t)
theorem ZkM.sub {l l':List En} (h:ZkM l) (s:l'.Sublist l):ZkM l':=⟨h.up.sublist s,Nat.le_trans s.length_le h.len,λx hx=>h.outs x (s.subset hx)⟩
theorem Zx7 {P:En→Bool} {xs:List EnX} {l:List En} {m:Nat} (he:xs.map EnX.e=l) (h1:∀x∈xs.take m,P x.e=true) (h2:∀x∈xs.drop m,P x.e=false) :
  (xs.take m).map EnX.e=l.filter P∧(xs.drop m).map EnX.e=l.filter λx=>!P x:=by
 subst he
 constructor
 ·conv=>rhs;rw[←List.take_append_drop m xs]
  rw[List.map_append,List.filter_append,List.filter_eq_self.2 λx hx=>by obtain ⟨y,hy,rfl⟩:=List.mem_map.1 hx;exact h1 y hy,List.filter_eq_nil_iff.2 λx hx=>by obtain ⟨y,hy,rfl⟩:=List.mem_map.1 hx;rw[h2 y hy];decide,List.append_nil]
 ·conv=>rhs;rw[←List.take_append_drop m xs]
  rw[List.map_append,List.filter_append,List.filter_eq_nil_iff.2 λx hx=>by obtain ⟨y,hy,rfl⟩:=List.mem_map.1 hx;rw[h1 y hy];decide,List.filter_eq_self.2 λx hx=>by obtain ⟨y,hy,rfl⟩:=List.mem_map.1 hx;rw[h2 y hy];rfl,List.nil_append]
theorem ZEw {xs:List EnX} {l:List En} (he:xs.map EnX.e=l) (hp:ZkM l) {i j:Nat} {x y:EnX} (hij:i≤j) (hx:xs[i]?=some x) (hy:xs[j]?=some y):x=y∨Zv x.m.key y.m.key:=by
 rcases Nat.eq_or_lt_of_le hij with rfl | hlt
 ·rw[hx] at hy;exact .inl (Option.some.inj hy)
 ·right
  subst he
  have h1:=List.pairwise_map.1 hp.up
  obtain ⟨hi',rfl⟩:=List.getElem?_eq_some_iff.1 hx
  obtain ⟨hj',rfl⟩:=List.getElem?_eq_some_iff.1 hy
  exact List.pairwise_iff_getElem.1 h1 i j hi' hj' hlt
theorem Zq7 {p:Nat} {fl:Int} {l:List En} {k:Key} (hS:Sat e w (Yf p fl l::Q)) (hk:∀v w',Sat e w' (Zwo v (Zqh k l).reverse::Yf p fl (Zmb k l)::Q)→K v w') :
  Cl prog 244 #[.pointer (some ⟨p,0,none⟩),.agg k.cs.toArray] w K:=by
 refine ZgM ?_
 unfold Zg6
 obtain ⟨lv,xs,hp,h0⟩:=Zfr hS
 have hxl:xs.length≤64:=by have:=hp.2.len;rw[←hp.1,List.length_map] at this;exact this
 have hfl:∀x∈xs,flat x.ov=true:=λx hx=>ZlV 2 h0 rfl hx
 refine Yp (cs:=k.cs) h0 rfl λb w1 h1=>?_
 refine Zo h1 0 (vs:=k.cs) rfl (by rfl) rfl ?_
 refine Zyc (P:=λx=>decide (Zv x.m.key k)) hxl ⟨rfl,rfl⟩ (λi j x y hij hx hy hP=>?_) (λx w L K h hk=>Zsa x k h hk) (h1.selR [_,_,_,_] [_,_,_,_] [1,2,3,0] (by decide) rfl) λm w2 hm hlo hhi h2=>?_
 ·rw[decide_eq_true_iff] at*
  rcases ZEw hp.1 hp.2 hij hx hy with rfl | hlt
  ·exact hP
  ·exact hlt.trans hP
 obtain ⟨c1,c2⟩:=Zx7 (P:=λx=>decide (Zv x.m.key k)) hp.1 hlo hhi
 refine Zh (Za (Zb h2 0 rfl (v:=lv) rfl ?_))
 refine Zox h2 1 rfl (λ_=>Zp) (λ_=>rfl) hm λv1 hv1=>?_
 refine Zoz 1 rfl (by rw[List.length_drop];omega) (λx hx=>hfl x (List.mem_of_mem_drop hx)) h2 hv1 λv2 w3 h3=>?_
 refine ZtE (by rw[List.length_drop];omega) (λx hx=>hfl x (List.mem_of_mem_drop hx)) h3 λw4 h4=>?_
 refine Zh (Za (Zb h4 1 rfl (v:=lv) rfl ?_))
 refine ZuF h4 2 rfl (λ_=>rfl) hm λv3 h5=>?_
 replace h5:Sat e w4 (DE v2 (xs.drop m).reverse::blk p 185 [.int .i64 fl,lv]::DE v3 (xs.take m)::Yh (xs.map ZcP)::blk b 79 k.cs::Q):=h5
 have q3:=h5.own_cells 2 rfl
 refine Zh (Za (Zq h5 1 rfl (vs:=[v3]) q3.1 rfl (Nat.le_of_ble_eq_true rfl) (λc hc=>by rw[List.mem_singleton.1 hc];exact q3.2) (cs':=[.int .i64 fl,v3]) (by rfl) λw5 h6=>?_))
 replace h6:Sat e w5 (DE v2 (xs.drop m).reverse::blk p 185 [.int .i64 fl,v3]::DE v3 (xs.take m)::Yh (xs.map ZcP)::blk b 79 k.cs::Q):=h6
 rw[show xs.map ZcP=(xs.take m).map ZcP++(xs.drop m).map ZcP from by rw[←List.map_append,List.take_append_drop]] at h6
 have h7:=Zne (h6.pick 3 rfl)
 have h8:=Zt0 (b:=(xs.drop m).reverse.map ZcP) (by rw[List.map_reverse];exact (List.reverse_perm _).symm) h7.swap
 replace h8:Sat e w5 (Yh ((xs.drop m).reverse.map ZcP)::Yh ((xs.take m).map ZcP)::DE v2 (xs.drop m).reverse::blk p 185 [.int .i64 fl,v3]::DE v3 (xs.take m)::blk b 79 k.cs::Q):=h8
 have h9:=Zh1 (fl:=fl) (lv:=v3) (xs:=xs.take m) (l:=Zmb k l) ⟨c1,hp.2.sub List.filter_sublist⟩ (h8.selR [_,_,_,_,_,_] [_,_,_,_,_] [3,4,1,2,0] (by decide) rfl)
 have h10:=ZxK (v:=v2) (xs:=(xs.drop m).reverse) (h9.selR [_,_,_] [_,_,_] [1,2,0] (by decide) rfl)
 rw[show (xs.drop m).reverse.map EnX.e=(Zqh k l).reverse from by rw[List.map_reverse,c2];rfl] at h10
 exact hk _ _ h10
theorem Zoq {p:Nat} {fl:Int} {l:List En} {t:Int} (hS:Sat e w (Yf p fl l::Q)) (hk:∀v w',Sat e w' (Zwo v (Zx0 t l)::Yf p (max fl t) (ZzN t l)::Q)→K v w') :
  Cl prog 104 #[.pointer (some ⟨p,0,none⟩),.int .i64 t] w K:=by
 refine Ze3 ?_
 unfold Zey
 obtain ⟨lv,xs,hp,h1⟩:=Zfr hS
 have hxl:xs.length≤64:=by have:=hp.2.len;rw[←hp.1,List.length_map] at this;exact this
 have hfl:∀x∈xs,flat x.ov=true:=λx hx=>ZlV 2 h1 rfl hx
 refine Zaf (Yi [t,0,0]) (by kernel_rfl) ?_
 refine Zyc (k:=⟨t,0,0⟩) (P:=λx=>decide (x.m.key.T<t)) hxl ⟨rfl,rfl⟩ (λi j x y hij hx hy hP=>?_) (λx w L K h hk=>ZwO x ⟨t,0,0⟩ h hk) h1 λm w2 hm hlo hhi h2=>?_
 ·rw[decide_eq_true_iff] at*
  rcases ZEw hp.1 hp.2 hij hx hy with rfl | hlt
  ·exact hP
  ·unfold Zv at hlt;omega
 obtain ⟨c1,c2⟩:=Zx7 (P:=λx=>decide (x.m.key.T<t)) hp.1 hlo hhi
 refine Zh (Za (Zb h2 0 rfl (v:=lv) rfl ?_))
 refine ZD8 h2 1 rfl (λ_=>Zp) (λ_=>rfl) hm λv1 hv1=>?_
 refine Zoz 1 rfl (by rw[List.length_take];omega) (λx hx=>hfl x (List.mem_of_mem_take hx)) h2 hv1 λv2 w3 h3=>?_
 refine Zh (Za (Zb h3 1 rfl (v:=lv) rfl ?_))
 refine Zox h3 2 rfl (λ_=>Zp) (λ_=>rfl) hm λv3 hv3=>?_
 refine Zoz 2 rfl (by rw[List.length_drop];omega) (λx hx=>hfl x (List.mem_of_mem_drop hx)) h3 hv3 λv4 w4 h4=>?_
 have q4:=h4.own_cells 0 rfl
 refine Zh (Za (Zq h4 2 rfl (vs:=[v4]) q4.1 rfl (Nat.le_of_ble_eq_true rfl) (λc hc=>by rw[List.mem_singleton.1 hc];exact q4.2) (cs':=[.int .i64 fl,v4]) (by rfl) λw5 h5=>?_))
 refine Zh (Za (Zb h5 2 rfl (v:=.int .i64 fl) rfl (ZwQ ?_)))
 refine Zh (Za (Zq h5 2 rfl (vs:=Yi [max fl t]) rfl rfl (Nat.le_of_ble_eq_true rfl) (Zg _) (cs':=[.int .i64 (max fl t),v4]) (by rfl) λw6 h6=>?_))
 replace h6:Sat e w6 (DE v4 (xs.drop m)::DE v2 (xs.take m)::blk p 185 [.int .i64 (max fl t),v4]::DE lv xs::Yh (xs.map ZcP)::Q):=h6
 rw[show xs.map ZcP=(xs.take m).map ZcP++(xs.drop m).map ZcP from by rw[←List.map_append,List.take_append_drop]] at h6
 have h7:=Zne (h6.pick 4 rfl)
 replace h7:Sat e w6 (Yh ((xs.take m).map ZcP)::Yh ((xs.drop m).map ZcP)::DE v4 (xs.drop m)::DE v2 (xs.take m)::blk p 185 [.int .i64 (max fl t),v4]::DE lv xs::Q):=h7
 have h9:=Zh1 (fl:=max fl t) (lv:=v4) (xs:=xs.drop m) (l:=ZzN t l) ⟨c2,hp.2.sub List.filter_sublist⟩ (h7.selR [_,_,_,_,_,_] [_,_,_,_,_] [4,2,1,3,0] (by decide) rfl)
 have h10:=ZxK (v:=v2) (xs:=xs.take m) (h9.selR [_,_,_] [_,_,_] [1,2,0] (by decide) rfl)
 rw[c1] at h10
 exact hk _ _ h10
theorem ZE3 {op:BinOp} {t:TypeId} {xo yo:Operand} {x y v:Value} (h1:(eqGuard op t xo yo x y).run prog w=.ok () w) (h2:(binOp op t x y).run prog w=.ok v w) (hk:K v w):bO prog op t xo yo x y w K:=
 Yn (w':=w) (v:=v) (by simp only[Sem.run_bind,h1,Result.andThen_ok,h2]) hk
noncomputable def ZxI (t a:TypeId):Bool:=match prog.underlying a,prog.info? t,prog.info? a with
 | some (.interface want),some i,some j=>!(Go.lacking want i.methods).isEmpty&&(match j.zero with | some .nilIface=>true | _=>false)
 | _,_,_=>false
noncomputable def ZGN (t a:TypeId):Bool:=match prog.underlying a,prog.info? t with
 | some (.interface want),some i=>(Go.lacking want i.methods).isEmpty
 | _,_=>false
theorem Zjb {t a xt:TypeId} {v:Value} (h:ZxI t a=true) (hk:K (.tuple #[.nilIface,.bool false]) w):tyA prog (.iface t v) xt a true w K:=by
 unfold ZxI at h
 split at h
 ·rename_i want i j hu hi hj
  rw[Bool.and_eq_true] at h
  have hz:j.zero=some .nilIface:=by
   have:=h.2
   split at this
   ·assumption
   ·cases this
  refine Yn (w':=w) (v:=.tuple #[.nilIface,.bool false]) ?_ hk
  exact run_typeAssert_lacks hu hi hj hz λe=>by rw[e] at h;simp at h
 ·cases h
theorem ZyP {t a xt:TypeId} {v:Value} (h:ZGN t a=true) (hk:K (.tuple #[.iface t v,.bool true]) w):tyA prog (.iface t v) xt a true w K:=by
 unfold ZGN at h
 split at h
 ·rename_i want i hu hi
  refine Yn (w':=w) (v:=.tuple #[.iface t v,.bool true]) ?_ hk
  exact run_typeAssert_has hu hi (List.isEmpty_iff.1 h)
 ·cases h
theorem Zw0 (v:Value) (w:World):(Extern.ReflectliteType.typeOf #[.iface 30 v]).run prog w=.ok (.iface 333 (.agg #[typeHandle prog 30])) w:=by kernel_rfl
theorem Zxn {n:Value} (hk:K (.iface 333 (.agg #[typeHandle prog 30])) w):Cl prog 247 #[.iface 30 n] w K:=by
 have h8:=@run_callFunc_extern prog 247 _ Extern.ReflectliteType.typeOf Tryz.func247 (by kernel_rfl) (by kernel_rfl) (by kernel_rfl) (by kernel_rfl)
 have h9:ex prog (oV (pure (.iface 333 (.agg #[typeHandle prog 30])))) w K:=@Yn prog w K (pure (.iface 333 (.agg #[typeHandle prog 30]))) (.iface 333 (.agg #[typeHandle prog 30])) w (Sem.run_pure ..) hk
 have e9:(callFunc 247 #[.iface 30 n]).run prog w=(oV (pure (.iface 333 (.agg #[typeHandle prog 30])))).run prog w:=by
  rw[h8]
  unfold oV
  simp only[Sem.run_bind,Zw0,Result.andThen_ok,Sem.run_pure]
 exact @Zi5 prog w K _ _ e9 h9
theorem Zz5 {P:Program} {x r:Value} {name:String} {args:Array Value} {w:World} {K:KV} (h:(invoke (.fn (.method name) #[]) (#[x]++args)).run P w=.ok (.value r) w) (hk:K r w):clI P x name args w K:=by
 unfold clI ex
 rw[h]
 exact hk
theorem ZAF (w:World):(invoke (.fn (.method "Comparable") #[]) (#[.iface 333 (.agg #[typeHandle prog 30])]++#[])).run prog w=.ok (.value (.bool true)) w:=by kernel_rfl
theorem ZEJ (hk:K (.bool true) w):clI prog (.iface 333 (.agg #[typeHandle prog 30])) "Comparable" #[] w K:=
 @Zz5 prog (.iface 333 (.agg #[typeHandle prog 30])) (.bool true) "Comparable" #[] w K (ZAF w) hk
abbrev erV (t:Nat):Value:=.iface 320 (.pointer (some ⟨t,0,none⟩))
abbrev noV (n:Int):Value:=.iface 30 (.int .i64 n)
def BT (t:Nat) (k:Key) (er:Int):HP:=blk t 322 (k.cs++[noV er])
theorem Zu8 {n:Int} {xo yo:Operand} (hk:K (.bool false) w):bO prog .eql 300 xo yo (noV n) .nilIface w K:=Yn (w':=w) (v:=.bool false) (by kernel_rfl) hk
theorem Zzx {t:Nat} {xo yo:Operand} (hk:K (.bool false) w):bO prog .eql 300 xo yo (erV t) .nilIface w K:=Yn (w':=w) (v:=.bool false) (by kernel_rfl) hk
theorem Zus {t:Nat} {xo yo:Operand} (hk:K (.bool true) w):bO prog .neq 300 xo yo (erV t) .nilIface w K:=Yn (w':=w) (v:=.bool true) (by kernel_rfl) hk
theorem Zvk {a:Nat} (hk:K (.bool false) w):bO prog .neq 300 (.tmp a) (.const .nilIface) .nilIface .nilIface w K:=Yn (w':=w) (v:=.bool false) (by kernel_rfl) hk
theorem Zy7 {a:Nat} (hk:K (.bool true) w):bO prog .eql 300 (.tmp a) (.const .nilIface) .nilIface .nilIface w K:=Yn (w':=w) (v:=.bool true) (by kernel_rfl) hk
theorem ZFP {n:Int} {xo yo:Operand} (hk:K (.bool false) w):bO prog .eql 300 xo yo .nilIface (noV n) w K:=Yn (w':=w) (v:=.bool false) (by kernel_rfl) hk
theorem ZGg {t:Nat} {n:Int} {xo yo:Operand} (hk:K (.bool false) w):bO prog .eql 300 xo yo (erV t) (noV n) w K:=Yn (w':=w) (v:=.bool false) (by kernel_rfl) hk
theorem ZF9 {a b:Int} {xo yo:Operand} (hk:K (.bool (a==b)) w):bO prog .eql 300 xo yo (noV a) (noV b) w K:=
 ZE3 (by kernel_rfl) (Lib.run_eql_iface_int w a b Tryz.underlying300 (by kernel_rfl) Tryz.underlying30) hk
theorem ZIx {t:Nat} {k:Key} {er n:Int} (i:Nat) (hi:L[i]?=some (BT t k er)) (hS:Sat e w L) (hk:K (.bool (er==n)) w):Cl prog 248 #[erV t,noV n,.bool true] w K:=by
 refine Zl8 ?_
 unfold Zo6
 refine Zdk (λq x w'=>((q=1∧x=erV t)∨(q=0∧x=noV er))∧w'=w) 1 ⟨.inl ⟨rfl,rfl⟩,rfl⟩ ?_
 rintro q x w' g ⟨hx,rfl⟩ hg
 refine Ze (Ze (Ze ?_))
 rcases hx with ⟨rfl,rfl⟩ | ⟨rfl,rfl⟩
 ·refine ZGg (Yv (Zf ?_))
  refine Zjb (by kernel_rfl) (Zam (Zal ?_))
  refine Zu (Zu (Zu (Yd (Zf ?_))))
  refine ZyP (by kernel_rfl) (Zal (Zam (Zi ?_)))
  refine Zrj (f:=260) (rcv:=.pointer (some ⟨t,0,none⟩)) (by kernel_rfl) ?_
  refine ZdD (t0:=.pointer (some ⟨t,0,none⟩)) ?_
  unfold Zc7
  refine Zh (Za (Zb hS i hi (v:=noV er) rfl ?_))
  refine Zu8 (Zf ?_)
  exact hg _ _ _ (by omega) ⟨.inr ⟨rfl,rfl⟩,rfl⟩
 ·refine ZF9 (Yv ?_)
  cases hb:(er==n) with
  | true=>rw[hb] at hk;exact Zi hk
  | false=>
   rw[hb] at hk
   refine Zf (Zjb (by kernel_rfl) (Zam (Zal ?_)))
   refine Zu (Zu (Zu (Yd (Zf ?_))))
   refine Zjb (by kernel_rfl) (Zal (Zam (Zf ?_)))
   exact Zjb (by kernel_rfl) (Zal (Zam (Zf hk)))
theorem ZIp {t:Nat} {k:Key} {er n:Int} (i:Nat) (hi:L[i]?=some (BT t k er)) (hS:Sat e w L) (hk:K (.bool (er==n)) w):Cl prog 237 #[erV t,noV n] w K:=by
 refine Zfm ?_
 unfold Zlp
 refine Zzx (Zj (Zj (Zu8 (Yd (Zf ?_)))))
 exact Zxn (ZEJ (ZIx i hi hS hk))
theorem ZEu {n:Int} (hk:K (.bool false) w):Cl prog 237 #[.nilIface,noV n] w K:=by
 refine Zfm ?_
 unfold Zlp
 exact Zy7 (Zd (Zd (Yv (Zi (ZFP hk)))))
def ZtO (er:Int):Prop:=er=110∨er=3∨er=4∨er=2
theorem ZzY {t:Nat} {k:Key} {er:Int} (hS:Sat e w (BT t k er::Q)) (he:ZtO er) (hk:∀w',Sat e w' Q→K (.int .i64 er) w'):Cl prog 227 #[erV t] w K:=by
 refine ZeI ?_
 unfold Zkf
 refine Zfk (Yi [110,3,4,2]) hS (by kernel_rfl) λb w2 h2=>?_
 have hr:∀g,blk b 30 (Yi [110,3,4,2]) g→rdS 1 (Ye .i64) (.slice (some ⟨b,0,none⟩) 4 4) [110,3,4,2] g:=Zbx (f:=Ye .i64) [110,3,4,2] rfl (Nat.le_refl _)
 refine Zt h2 0 rfl hr ?_
 refine Zdk (λq x w'=>∃j:Nat,x=.int .i64 j∧j≤4∧q=4 - j∧(∀n∈[(110:Int),3,4,2].take j,n≠er)∧w'=w2) 4 ⟨0,rfl,by omega,rfl,by simp,rfl⟩ ?_
 rintro q x w' g ⟨j,rfl,hj,rfl,hno,rfl⟩ hg
 refine Za7 (λc=>Zi ?_) (λc=>Zf ?_)
 ·replace c:(j:Int)<4:=c
  obtain ⟨n,hn⟩:=Zk (l:=[(110:Int),3,4,2]) (j:=j) (by simp;omega)
  refine Zw h2 0 rfl hr (λ_=>rfl) hn λa ha=>Yt h2 0 rfl ha (v:=.int .i64 n) rfl ?_
  refine ZIp 1 rfl h2 ?_
  by_cases hen:er=n
  ·rw[beq_iff_eq.2 hen]
   refine Zi ?_
   rw[←hen]
   exact hk _ h2.drop.drop
  ·rw[beq_eq_false_iff_ne.2 hen]
   refine Zf (Yr (by omega) ?_)
   refine hg _ _ _ (by omega) ⟨j+1,rfl,by omega,rfl,λy hy=>?_,rfl⟩
   rw[Zx hn] at hy
   rcases List.mem_append.1 hy with h | h
   ·exact hno y h
   ·rw[List.mem_singleton.1 h];exact λh=>hen h.symm
 ·exfalso
  replace c:¬(j:Int)<4:=c
  have ej:j=4:=by omega
  subst ej
  rcases he with rfl | rfl | rfl | rfl
  ·exact hno 110 (by decide) rfl
  ·exact hno 3 (by decide) rfl
  ·exact hno 4 (by decide) rfl
  ·exact hno 2 (by decide) rfl
theorem Zvr (hS:Sat e w Q) (hk:∀w',Sat e w' Q→K (.int .i64 0) w'):Cl prog 227 #[.nilIface] w K:=by
 refine ZeI ?_
 unfold Zkf
 refine Zfk (Yi [110,3,4,2]) hS (by kernel_rfl) λb w2 h2=>?_
 have hr:∀g,blk b 30 (Yi [110,3,4,2]) g→rdS 1 (Ye .i64) (.slice (some ⟨b,0,none⟩) 4 4) [110,3,4,2] g:=Zbx (f:=Ye .i64) [110,3,4,2] rfl (Nat.le_refl _)
 refine Zt h2 0 rfl hr ?_
 refine Zdk (λq x w'=>∃j:Nat,x=.int .i64 j∧j≤4∧q=4 - j∧w'=w2) 4 ⟨0,rfl,by omega,rfl,rfl⟩ ?_
 rintro q x w' g ⟨j,rfl,hj,rfl,rfl⟩ hg
 refine Za7 (λc=>Zi ?_) (λc=>Zf (hk _ h2.drop))
 replace c:(j:Int)<4:=c
 obtain ⟨n,hn⟩:=Zk (l:=[(110:Int),3,4,2]) (j:=j) (by simp;omega)
 refine Zw h2 0 rfl hr (λ_=>rfl) hn λa ha=>Yt h2 0 rfl ha (v:=.int .i64 n) rfl ?_
 refine ZEu (Zf (Yr (by omega) ?_))
 exact hg _ _ _ (by omega) ⟨j+1,rfl,by omega,rfl,rfl⟩
theorem Zqi {k:Key} {er:Int} (hS:Sat e w Q) (hk:∀t w',Sat e w' (BT t k er::Q)→K (erV t) w'):Cl prog 233 #[.agg k.cs.toArray,.int .i64 er] w K:=by
 refine Zmd ?_
 unfold Zpt
 refine Yp (cs:=k.cs) hS rfl λb w1 h1=>?_
 refine Zo h1 0 (vs:=k.cs) rfl (by rfl) rfl ?_
 refine Zaf (k.cs++[noV er]) (by kernel_rfl) ?_
 refine Yp (cs:=k.cs++[noV er]) h1 rfl λt w2 h2=>?_
 exact hk t _ (h2.selR [_,_] [_] [0] (by decide) rfl)
end Go.Proofs.YtnhaekgogppbiaaGreat
end
section
namespace Go.Proofs.YtnhaekgogppbiaaGreat
open Go Go.E
set_option maxRecDepth 100000
variable {e w:World} {L Q:List HP} {K:KV} {S S2:HP}
structure ZMF where
 st:Int
 sent:Int
 lv:Value
 log:List Zak
def ZMF.cs (f:ZMF):List Value:=[.int .i64 f.st,.int .i64 f.sent,f.lv]
def ZMF.a (f:ZMF):FA:=⟨f.st,f.sent,f.log⟩
end Go.Proofs.YtnhaekgogppbiaaGreat
namespace Go.Proofs.YtnhaekgogppbiaaGreat
open Go Go.E
set_option maxRecDepth 100000
variable {e w:World} {L Q:List HP} {K:KV} {S S2:HP}
theorem ZLE {α β:Type} {f:α→β} {l:List α} {i:Nat} {x:α}:(l.set i x).map f=(l.map f).set i (f x):=List.map_set
end Go.Proofs.YtnhaekgogppbiaaGreat
namespace Go.Proofs.YtnhaekgogppbiaaGreat
open Go Go.E
set_option maxRecDepth 100000
variable {e w:World} {L Q:List HP} {K:KV} {S S2:HP}
theorem ZLk (wd:Wd) (n:Nat) (R:RS):Zul wd (n+1) R=match ZFO wd R with
  | none=>(0,R)
  | some x=>((Zul wd n x.2).1+1,(Zul wd n x.2).2):=rfl
def ZK0 (R:RS) (f:Int):List Zak:=if 0≤f then ((R.feds[f.toNat]?).map FA.log).getD [] else []
end Go.Proofs.YtnhaekgogppbiaaGreat
namespace Go.Proofs.YtnhaekgogppbiaaGreat
open Go Go.E
set_option maxRecDepth 100000
variable {e w:World} {L Q:List HP} {K:KV} {S S2:HP}
def w0:Wd:=⟨[-1],[⟨0,1,0,[],[0],[],[⟨0,4,2⟩]⟩,⟨0,1,3,[],[],[0],[]⟩],9⟩
theorem MLt.time {a b:Msg} (h:MLt a b):a.key.T≤b.key.T:=by
 rcases h with h | h
 ·unfold Zv at h;omega
 ·rw[h.1];omega
end Go.Proofs.YtnhaekgogppbiaaGreat
namespace Go.Proofs.YtnhaekgogppbiaaGreat
open Go Go.E
set_option maxRecDepth 100000
variable {e w:World} {L Q:List HP} {K:KV} {S S2:HP}
end Go.Proofs.YtnhaekgogppbiaaGreat
namespace Go.Proofs.YtnhaekgogppbiaaGreat
open Go Go.E
set_option maxRecDepth 100000
variable {e w:World} {L Q:List HP} {K:KV} {S S2:HP}
theorem ZLN {wd:Wd} {R R':RS} {d:Zak} (h:ZFO wd R=some (d,R')) (g:Nat) (h0:0≤d.m.To):ZK0 R' g=ZK0 R g++if d.m.To=g then [d] else []:=by
 obtain ⟨m,rest,f,a,hwait,hT,hf,ha,heq⟩:=ZKV h
 have hd:d=(ZF5 wd f a m rest R).1:=congrArg Prod.fst heq
 have hR:R'=(ZF5 wd f a m rest R).2:=congrArg Prod.snd heq
 have hdm:d.m=m:=by rw[hd];rfl
 have hfe:R'.feds=R.feds.set m.To.toNat ⟨(ZbY f.Rules a.st m.Class).1,a.sent+(ZbY f.Rules a.st m.Class).2.length,a.log++[d]⟩:=by rw[hR,hd];rfl
 unfold ZK0
 rw[if_pos (by omega),if_pos (by omega),Int.toNat_natCast,hfe,hdm]
 rw[hdm] at h0
 by_cases hg:m.To=g
 ·have e1:m.To.toNat=g:=by omega
  rw[if_pos hg,e1,List.getElem?_set_self (by rw[←e1];exact (List.getElem?_eq_some_iff.1 ha).1)]
  rw[e1] at ha
  rw[ha]
  rfl
 ·rw[if_neg hg,List.append_nil,List.getElem?_set_ne (by omega)]
end Go.Proofs.YtnhaekgogppbiaaGreat
end
section
namespace Go.Proofs.YtnhaekgogppbiaaGreat
open Go Go.E
set_option maxRecDepth 100000
structure Zan where
 (n begun over:Int) (T Rp:Nat→Int) (on0 on1 least value:Int)
def Zan.ns (c:Zan):List Int:=[c.n,c.begun,c.over,c.T 0,c.Rp 0,c.T 1,c.Rp 1,c.T 2,c.Rp 2,c.T 3,c.Rp 3,c.T 4,c.Rp 4,c.T 5,c.Rp 5,c.T 6,c.Rp 6,c.T 7,c.Rp 7,c.on0,c.on1,c.least,c.value]
def Zan.zero (n:Int):Zan:=⟨n,0,0,λ_=>0,λ_=>0,0,0,0,0⟩
def ZBt (f:Nat→Int) (i:Nat) (x:Int):Nat→Int:=λk=>if k=i then x else f k
def ZbI (g:Nat) (c:Zan):HP:=blk g 142 (Yi c.ns)
theorem Zlc (c:Zan):∀j,j<8→((Yi c.ns).drop (3+j*2)).take 2=Yi [c.T j,c.Rp j]
 | 0,_=>rfl | 1,_=>rfl | 2,_=>rfl | 3,_=>rfl | 4,_=>rfl | 5,_=>rfl | 6,_=>rfl | 7,_=>rfl
 | n+8,h=>by omega
theorem ZFL (c:Zan):∀j,j<8→(Yi c.ns)[3+j*2+0]?=some (.int .i64 (c.T j))
 | 0,_=>rfl | 1,_=>rfl | 2,_=>rfl | 3,_=>rfl | 4,_=>rfl | 5,_=>rfl | 6,_=>rfl | 7,_=>rfl
 | n+8,h=>by omega
theorem Zxs (c:Zan) (x:Int):∀j,j<8→wrL (Yi c.ns) (3+j*2+0) [.int .i64 x]=Yi (Zan.ns { c with T:=ZBt c.T j x })
 | 0,_=>rfl | 1,_=>rfl | 2,_=>rfl | 3,_=>rfl | 4,_=>rfl | 5,_=>rfl | 6,_=>rfl | 7,_=>rfl
 | n+8,h=>by omega
theorem Zv0 (c:Zan) (x:Int):∀j,j<8→wrL (Yi c.ns) (3+j*2+1) [.int .i64 x]=Yi (Zan.ns { c with Rp:=ZBt c.Rp j x })
 | 0,_=>rfl | 1,_=>rfl | 2,_=>rfl | 3,_=>rfl | 4,_=>rfl | 5,_=>rfl | 6,_=>rfl | 7,_=>rfl
 | n+8,h=>by omega
theorem ZdC (c:Zan):(Yi c.ns).length=23:=rfl
variable {e w:World} {R:List HP} {K:KV}
theorem ZuG {n:Int} (h1:1≤n) (h2:n≤8) (hS:Sat e w R) (hk:∀g w',Sat e w' (ZbI g (Zan.zero n)::R)→K (.tuple #[.pointer (some ⟨g,0,none⟩),.int .i64 0]) w'):Cl prog 20 #[.int .i64 n] w K:=by
 refine ZoD ?_
 unfold Zvg
 refine Ze7 (by omega) (Zj (Ze (Zle (by omega) (Yd (Zf ?_)))))
 rw[ZUZ]
 refine Zaf (Yi (Zan.zero n).ns) (by kernel_rfl) ?_
 refine Yp (cs:=Yi (Zan.zero n).ns) hS rfl λg w2 h2=>?_
 exact hk _ _ h2
theorem ZjA {g:Nat} {c:Zan} {i:Int} (hS:Sat e w (ZbI g c::R)) (hk:K (.bool (decide (0≤i∧i<c.n))) w):Cl prog 65 #[.pointer (some ⟨g,0,none⟩),.int .i64 i] w K:=by
 refine Zk7 ?_
 unfold Zns
 refine Zu5 (λc1=>?_) (λc1=>?_)
 ·refine Ze (Ze (Ze (Zh (Ze (Za (Ze ?_))))))
  refine Zb hS 0 rfl (v:=.int .i64 c.n) rfl ?_
  refine Ze (ZwL ?_)
  refine Yv ?_
  rw[show decide (0≤i∧i<c.n)=decide (i<c.n) from by simp[c1]] at hk
  exact hk
 ·refine Zu (Zu (Zd (Zd (Zd (Zd (Yd ?_))))))
  rw[show decide (0≤i∧i<c.n)=false from by simp;omega] at hk
  exact hk
theorem Zel {g:Nat} {c:Zan} (hS:Sat e w (ZbI g c::R)) (hk:∀w',Sat e w' (ZbI g c::R)→K (.bool (decide (c.over<c.begun))) w'):Cl prog 64 #[.pointer (some ⟨g,0,none⟩)] w K:=by
 refine Zh7 ?_
 unfold Zjj
 refine ZaY hS λw1 h1=>?_
 refine Zh (Za ?_)
 refine Zb h1 0 rfl (v:=.int .i64 c.begun) rfl ?_
 refine Zh (Za ?_)
 refine Zb h1 0 rfl (v:=.int .i64 c.over) rfl ?_
 exact ZFJ (hk _ h1)
theorem Zrc {g:Nat} {c:Zan} (hS:Sat e w (ZbI g c::R)) (hk:K (.int .i64 c.value) w):Cl prog 72 #[.pointer (some ⟨g,0,none⟩)] w K:=by
 refine Zhn ?_
 unfold ZiR
 refine Zh (Za ?_)
 exact Zb hS 0 rfl (v:=.int .i64 c.value) rfl hk
theorem ZfD {g:Nat} {c:Zan} (hS:Sat e w (ZbI g c::R)) (hk:K (.int .i64 c.over) w):Cl prog 68 #[.pointer (some ⟨g,0,none⟩)] w K:=by
 refine ZgA ?_
 unfold ZgY
 refine Zh (Za ?_)
 exact Zb hS 0 rfl (v:=.int .i64 c.over) rfl hk
theorem Zo0 {g:Nat} {c:Zan} {i:Nat} (hi:i<8) (hin:(i:Int)<c.n) (hS:Sat e w (ZbI g c::R)) (hk:K (.int .i64 (c.T i % 2)) w):Cl prog 98 #[.pointer (some ⟨g,0,none⟩),.int .i64 i] w K:=by
 refine ZgH ?_
 unfold Zg2
 refine ZjA hS ?_
 rw[decide_eq_true (show 0≤(i:Int)∧(i:Int)<c.n from ⟨by omega,hin⟩)]
 refine ZaJ (Zf (Zh (Za ?_)))
 refine Zcb hi ?_
 refine Za ?_
 refine Zb hS 0 rfl (ZFL c i hi) ?_
 exact ZxU hk
theorem Zqy {g:Nat} {c:Zan} (hb:0≤c.begun∧c.begun≤1000000) (hS:Sat e w (ZbI g c::R))
  (hk:∀w',Sat e w' (ZbI g (if c.over<c.begun then c else { c with begun:=c.begun+1,least:=Inf })::R)→K (.int .i64 (if c.over<c.begun then 130 else 0)) w'):Cl prog 30 #[.pointer (some ⟨g,0,none⟩)] w K:=by
 refine Zh4 ?_
 unfold Ziu
 refine Zel hS λw1 h1=>?_
 by_cases hu:c.over<c.begun
 ·rw[if_pos hu,if_pos hu] at hk
  rw[decide_eq_true hu]
  exact Zi (hk _ h1)
 ·rw[if_neg hu,if_neg hu] at hk
  rw[decide_eq_false hu]
  refine Zf (Zh (Za ?_))
  refine Zb h1 0 rfl (v:=.int .i64 c.begun) rfl ?_
  refine ZcD (by omega) (by omega) ?_
  refine Zh (Za ?_)
  refine Zq h1 0 rfl (vs:=[.int .i64 (c.begun+1)]) rfl rfl (by rw[ZdC];decide) (by simp[flat]) (cs':=Yi (Zan.ns { c with begun:=c.begun+1 })) (by rfl) λw2 h2=>?_
  refine Zh (Za ?_)
  refine Zq h2 0 rfl (vs:=[.int .i64 Inf]) rfl rfl (by rw[ZdC];decide) (by simp[flat]) (cs':=Yi (Zan.ns { c with begun:=c.begun+1,least:=Inf })) (by rfl) λw3 h3=>?_
  exact hk _ h3
theorem Zou {t r q:Int} (hS:Sat e w R) (hk:∀w',Sat e w' R→K (.bool (decide (t=q))) w'):Cl prog 66 #[.agg (Yi [t,r]).toArray,.int .i64 q] w K:=by
 refine ZgN ?_
 unfold Zg5
 refine Yp (cs:=Yi [t,r]) hS rfl λb w1 h1=>?_
 refine Za ?_
 refine Zb h1 0 rfl (v:=.int .i64 t) rfl ?_
 exact ZBD (hk _ h1.drop)
theorem Znk {t r q:Int} (hS:Sat e w R) (hk:∀w',Sat e w' R→K (.bool (decide (r=q))) w'):Cl prog 101 #[.agg (Yi [t,r]).toArray,.int .i64 q] w K:=by
 refine Ze6 ?_
 unfold ZeB
 refine Yp (cs:=Yi [t,r]) hS rfl λb w1 h1=>?_
 refine Za ?_
 refine Zb h1 0 rfl (v:=.int .i64 r) rfl ?_
 exact ZBD (hk _ h1.drop)
def Zan.all (c:Zan) (p:Int→Int→Bool):Bool:=(List.range c.n.toNat).all λj=>p (c.T j) (c.Rp j)
theorem ZpV {g:Nat} {c:Zan} {fv:Value} (p:Int→Int→Bool) (hn:0≤c.n∧c.n≤8) (hS:Sat e w (ZbI g c::R))
  (hp:∀(w:World) (R:List HP) (K:KV) (t r:Int),Sat e w R→(∀w',Sat e w' R→K (.bool (p t r)) w')→clV prog fv #[.agg (Yi [t,r]).toArray,.int .i64 c.begun] w K)
  (hk:∀w',Sat e w' (ZbI g c::R)→K (.bool (c.all p)) w'):Cl prog 100 #[.pointer (some ⟨g,0,none⟩),fv] w K:=by
 obtain ⟨n,hn'⟩:∃n:Nat,c.n=n:=⟨c.n.toNat,by omega⟩
 refine Zkg ?_
 unfold ZlT
 refine ZaY hS λw1 h1=>?_
 refine Zh (Za (Zh (Za ?_)))
 refine Zb h1 0 rfl (v:=.int .i64 c.n) rfl ?_
 rw[hn']
 refine ZGk (n:=8) (e:=138) (by kernel_rfl) (i:=Tryz.t138) (by kernel_rfl) (by omega) ?_
 refine ⟨_,_,_,rfl,?_⟩
 refine Zdk (λm t16 w=>∃j:Nat,j≤n∧t16=.int .i64 j∧m=n - j∧(∀k,k<j→p (c.T k) (c.Rp k)=true)∧Sat e w (ZbI g c::R)) n
  ⟨0,Nat.zero_le _,rfl,rfl,λk hk=>by omega,h1⟩ ?_
 rintro m _ w g1 ⟨j,hj,rfl,rfl,hall,h2⟩ hg
 refine Za7 (λc2=>Zi ?_) (λc2=>Zf ?_)
 ·refine Zu3 (by omega) ?_
  refine Zo h2 0 rfl (Zlc c j (by omega)) rfl ?_
  rw[ZU8]
  refine Yp (cs:=Yi [0,0]) h2 rfl λb w3 h3=>?_
  refine Zq h3 0 rfl (vs:=Yi [c.T j,c.Rp j]) rfl rfl (by decide) (Zg _) (cs':=Yi [c.T j,c.Rp j]) (by rfl) λw4 h4=>?_
  refine ZaY h4 λw5 h5=>?_
  refine Zo h5 0 (vs:=Yi [c.T j,c.Rp j]) rfl (by rfl) rfl ?_
  refine Zh (Za ?_)
  refine Zb h5 1 rfl (v:=.int .i64 c.begun) rfl ?_
  refine hp _ _ _ _ _ h5.drop λw6 h6=>?_
  cases hpj:p (c.T j) (c.Rp j) with
  | true=>
   refine ZaJ (Zf ?_)
   refine Yr (by omega) ?_
   refine hg _ _ _ (by omega) ⟨j+1,by omega,rfl,rfl,λk hk=>?_,h6⟩
   by_cases hkj:k=j
   ·subst hkj;exact hpj
   ·exact hall k (by omega)
  | false=>
   refine Zch (Zi ?_)
   have hf:c.all p=false:=by
    unfold Zan.all
    rw[List.all_eq_false]
    exact ⟨j,List.mem_range.2 (by omega),by simp[hpj]⟩
   rw[hf] at hk
   exact hk _ h6
 ·have ht:c.all p=true:=by
   unfold Zan.all
   rw[List.all_eq_true]
   intro k hk
   have:=List.mem_range.1 hk
   exact hall k (by omega)
  rw[ht] at hk
  exact hk _ h2
def Zan.turnE (c:Zan) (i:Nat):Int:=if ¬c.over<c.begun∨c.T i=c.begun then 130 else 0
def Zan.turn (c:Zan) (i:Nat):Zan:=if ¬c.over<c.begun∨c.T i=c.begun then c else { c with T:=ZBt c.T i c.begun }
theorem Ztb {g:Nat} {c:Zan} {i:Nat} (hi:i<8) (hin:(i:Int)<c.n) (hS:Sat e w (ZbI g c::R)) (hk:∀w',Sat e w' (ZbI g (c.turn i)::R)→K (.int .i64 (c.turnE i)) w'):Cl prog 32 #[.pointer (some ⟨g,0,none⟩),.int .i64 i] w K:=by
 refine Zjr ?_
 unfold ZkB
 refine ZjA hS ?_
 rw[decide_eq_true (show 0≤(i:Int)∧(i:Int)<c.n from ⟨by omega,hin⟩)]
 refine ZaJ (Zf ?_)
 refine ZaY hS λw1 h1=>?_
 refine Zel h1 λw2 h2=>?_
 by_cases hu:c.over<c.begun
 ·rw[decide_eq_true hu]
  refine ZaJ (Zj (Zj (Zj (Zh (Zj (Za (Zj ?_)))))))
  refine Zcb hi ?_
  refine Zj (Zo h2 0 rfl (Zlc c i hi) rfl ?_)
  refine Zj (Zj (Zh (Zj (Za (Zj ?_)))))
  refine Zb h2 0 rfl (v:=.int .i64 c.begun) rfl ?_
  refine Zj (Zou h2 λw3 h3=>?_)
  by_cases ht:c.T i=c.begun
  ·rw[decide_eq_true ht]
   have e1:c.turnE i=130:=if_pos (.inr ht)
   have e2:c.turn i=c:=if_pos (.inr ht)
   rw[e1,e2] at hk
   refine Yd (Zi ?_)
   exact hk _ h3
  ·rw[decide_eq_false ht]
   have hn:¬(¬c.over<c.begun∨c.T i=c.begun):=by simp[hu,ht]
   have e1:c.turnE i=0:=if_neg hn
   have e2:c.turn i={ c with T:=ZBt c.T i c.begun }:=if_neg hn
   rw[e1,e2] at hk
   refine Yd (Zf (Zh (Za ?_)))
   have h4:=h3.drew
   refine Zb h4 0 rfl (v:=.int .i64 c.begun) rfl ?_
   refine Zh (Za ?_)
   refine Zcb hi ?_
   refine Za ?_
   refine Zq h4 0 rfl (vs:=[.int .i64 c.begun]) rfl rfl (by rw[ZdC];omega) (by simp[flat]) (Zxs c c.begun i hi) λw5 h5=>?_
   exact hk _ h5
 ·rw[decide_eq_false hu]
  have e1:c.turnE i=130:=if_pos (.inl hu)
  have e2:c.turn i=c:=if_pos (.inl hu)
  rw[e1,e2] at hk
  refine Zch (Zd (Zd (Zd (Zd (Zd (Zd (Zd (Zd (Zd (Zd (Zd (Yv (Zi ?_)))))))))))))
  exact hk _ h2
def Zan.on (c:Zan) (k:Int):Int:=if k=0 then c.on0 else c.on1
def Zan.early (c:Zan) (i:Nat):Prop:=¬c.over<c.begun∨c.all (λt _=>decide (t=c.begun))=false∨c.Rp i=c.begun
def Zan.rep1 (c:Zan) (i:Nat) (x:Int):Zan:={ c with Rp:=ZBt c.Rp i c.begun,least:=min c.least x }
def Zan.rep2 (c:Zan):Zan:=if c.all (λ_ r=>decide (r=c.begun))=true then { c with over:=c.begun,value:=max c.value c.least } else c
theorem ZEU (c:Zan) (a:Int):∃j:Nat,j<2∧a % 2=(j:Int)∧(Yi c.ns)[19+j*1]?=some (.int .i64 (c.on (a % 2))):=by
 rcases Int.emod_two_eq a with h | h
 ·exact ⟨0,by omega,h,by rw[h];rfl⟩
 ·exact ⟨1,by omega,h,by rw[h];rfl⟩
theorem Zo1 {g:Nat} {c:Zan} {i:Nat} {x:Int} (hn8:c.n≤8) (hi:i<8) (hin:(i:Int)<c.n) (hx:ZmY x) (hv:Yu x=true) (hS:Sat e w (ZbI g c::R))
  (h130:c.early i→∀w',Sat e w' (ZbI g c::R)→K (.int .i64 130) w')
  (h150:¬c.early i→0<c.on (c.over % 2)→∀w',Sat e w' (ZbI g c::R)→K (.int .i64 150) w')
  (h0:¬c.early i→¬0<c.on (c.over % 2)→∀w',Sat e w' (ZbI g (c.rep1 i x).rep2::R)→K (.int .i64 0) w'):Cl prog 69 #[.pointer (some ⟨g,0,none⟩),.int .i64 i,.int .i64 x] w K:=by
 refine ZgB ?_
 unfold Zha
 refine ZjA hS ?_
 rw[decide_eq_true (show 0≤(i:Int)∧(i:Int)<c.n from ⟨by omega,hin⟩)]
 refine ZaJ (Zj (Ze ?_))
 refine ZcO hx ?_
 rw[hv]
 refine Ze (ZaJ (Yd (Zf ?_)))
 refine ZaY hS λw1 h1=>?_
 refine Zel h1 λw2 h2=>?_
 by_cases hu:c.over<c.begun
 ·rw[decide_eq_true hu]
  refine ZaJ (Zj (Ze ?_))
  refine ZpV (λt _=>decide (t=c.begun)) ⟨by omega,hn8⟩ h2 (λw R K t r h hk=>⟨_,_,_,rfl,Zou h hk⟩) λw3 h3=>?_
  cases ha:c.all (λt _=>decide (t=c.begun)) with
  | false=>
   refine Zj (Zch (Yd (Zd (Zd (Zd (Zd (Zd (Zd (Zd (Zd (Zd (Zd (Zd (Yv (Zi ?_)))))))))))))))
   exact h130 (.inr (.inl ha)) _ h3
  | true=>
   refine Zj (ZaJ (Yd (Zj (Zj (Zj (Zh (Zj (Za (Zj ?_)))))))))
   refine Zcb hi ?_
   refine Zj (Zo h3 0 rfl (Zlc c i hi) rfl ?_)
   refine Zj (Zj (Zh (Zj (Za (Zj ?_)))))
   refine Zb h3 0 rfl (v:=.int .i64 c.begun) rfl ?_
   refine Zj (Znk h3 λw4 h4=>?_)
   by_cases ht:c.Rp i=c.begun
   ·rw[decide_eq_true ht]
    refine Yd (Zi ?_)
    exact h130 (.inr (.inr ht)) _ h4
   ·rw[decide_eq_false ht]
    have hne:¬c.early i:=by unfold Zan.early;rw[ha];simp[hu,ht]
    refine Yd (Zf (Zh (Za ?_)))
    have h5:=h4.drew
    refine Zb h5 0 rfl (v:=.int .i64 c.over) rfl ?_
    refine Zh (Za ?_)
    refine ZxU ?_
    obtain ⟨j,hj,hj2,hj3⟩:=ZEU c c.over
    rw[hj2]
    refine Zcb hj ?_
    refine Zb h5 0 rfl hj3 ?_
    refine Ztu (λc5=>Zi (h150 hne c5 _ h5)) (λc5=>Zf ?_)
    replace h0:=h0 hne c5
    refine ZaY h5 λw6 h6=>?_
    refine Zh (Za ?_)
    refine Zb h6 0 rfl (v:=.int .i64 c.begun) rfl ?_
    refine Zh (Za ?_)
    refine Zcb hi ?_
    refine Za ?_
    refine Zq h6 0 rfl (vs:=[.int .i64 c.begun]) rfl rfl (by rw[ZdC];omega) (by simp[flat]) (Zv0 c c.begun i hi) λw7 h7=>?_
    refine Zh (Za ?_)
    refine Zb h7 0 rfl (v:=.int .i64 c.least) rfl ?_
    refine Zty ?_
    refine Zh (Za ?_)
    refine Zq h7 0 rfl (vs:=[.int .i64 (min c.least x)]) rfl rfl (by rw[ZdC];decide) (by simp[flat]) (cs':=Yi (c.rep1 i x).ns) (by rfl) λw8 h8=>?_
    refine ZpV (c:=c.rep1 i x) (λ_ r=>decide (r=c.begun)) ⟨by show 0≤c.n;omega,hn8⟩ h8 (λw R K t r h hk=>⟨_,_,_,rfl,Znk h hk⟩) λw9 h9=>?_
    refine J0.cut (λw=>Sat e w (ZbI g (c.rep1 i x).rep2::R)) (λk1 hcut=>?_) (λw h=>h0 _ h)
    cases hb:(c.rep1 i x).all (λ_ r=>decide (r=c.begun)) with
    | false=>
     refine Zf (hcut _ ?_)
     have:(c.rep1 i x).rep2=c.rep1 i x:=if_neg (by show ¬(c.rep1 i x).all (λ_ r=>decide (r=c.begun))=true;rw[hb];decide)
     rw[this]
     exact h9
    | true=>
     have:(c.rep1 i x).rep2={ c.rep1 i x with over:=c.begun,value:=max c.value (min c.least x) }:=if_pos hb
     rw[this] at hcut
     refine Zi (Zh (Za ?_))
     refine Zb h9 0 rfl (v:=.int .i64 c.begun) rfl ?_
     refine Zh (Za ?_)
     refine Zq h9 0 rfl (vs:=[.int .i64 c.begun]) rfl rfl (by rw[ZdC];decide) (by simp[flat]) (cs':=Yi (Zan.ns { c.rep1 i x with over:=c.begun })) (by rfl) λw10 h10=>?_
     refine ZaY h10 λw11 h11=>?_
     refine Zh (Za ?_)
     refine Zb h11 0 rfl (v:=.int .i64 c.value) rfl ?_
     refine Zh (Za ?_)
     refine Zb h11 0 rfl (v:=.int .i64 (min c.least x)) rfl ?_
     refine ZwQ ?_
     refine Zh (Za ?_)
     refine Zq h11 0 rfl (vs:=[.int .i64 (max c.value (min c.least x))]) rfl rfl (by rw[ZdC];decide) (by simp[flat]) (cs':=Yi (Zan.ns { c.rep1 i x with over:=c.begun,value:=max c.value (min c.least x) })) (by rfl) λw12 h12=>?_
     exact hcut _ h12
 ·rw[decide_eq_false hu]
  refine Zch (Zd (Zd (Zd (Yv (Zd (Zd (Zd (Zd (Zd (Zd (Zd (Zd (Zd (Zd (Zd (Yv (Zi ?_)))))))))))))))))
  exact h130 (.inl hu) _ h2
def bl (b:Bool):List Value:=[.bool b]
def Zan.setOn (c:Zan) (k x:Int):Zan:=if k=0 then { c with on0:=x } else { c with on1:=x }
theorem Zqs (c:Zan) (a x:Int):∃j:Nat,j<2∧a % 2=(j:Int)∧(Yi c.ns)[19+j*1]?=some (.int .i64 (c.on (a % 2)))∧wrL (Yi c.ns) (19+j*1) [.int .i64 x]=Yi (c.setOn (a % 2) x).ns:=by
 rcases Int.emod_two_eq a with h | h
 ·exact ⟨0,by omega,h,by rw[h];rfl,by rw[h];rfl⟩
 ·exact ⟨1,by omega,h,by rw[h];rfl,by rw[h];rfl⟩
def Zan.sent (c:Zan) (i:Nat) (t:Int):Zan:=
 if c.over<c.begun∧c.T i=c.begun then { c.setOn (c.T i % 2) (c.on (c.T i % 2)+1) with least:=min c.least t } else c.setOn (c.T i % 2) (c.on (c.T i % 2)+1)
theorem Zan.setOn_begun (c:Zan) (k x:Int):(c.setOn k x).begun=c.begun:=by unfold Zan.setOn;split <;> rfl
theorem Zan.setOn_over (c:Zan) (k x:Int):(c.setOn k x).over=c.over:=by unfold Zan.setOn;split <;> rfl
theorem Zan.setOn_T (c:Zan) (k x:Int):(c.setOn k x).T=c.T:=by unfold Zan.setOn;split <;> rfl
theorem Zan.setOn_least (c:Zan) (k x:Int):(c.setOn k x).least=c.least:=by unfold Zan.setOn;split <;> rfl
theorem Zur (c:Zan):(Yi c.ns)[1]?=some (.int .i64 c.begun)∧(Yi c.ns)[21]?=some (.int .i64 c.least):=⟨rfl,rfl⟩
theorem Zpi (c:Zan) (x:Int):wrL (Yi c.ns) 21 [.int .i64 x]=Yi (Zan.ns { c with least:=x }):=rfl
theorem Zte {g:Nat} {c:Zan} {i:Nat} {t:Int} (hi:i<8) (hin:(i:Int)<c.n) (hx:ZmY t) (hv:Yu t=true) (hb:∀k,-1000000≤c.on k∧c.on k≤1000000) (hS:Sat e w (ZbI g c::R))
  (hk:∀w',Sat e w' (ZbI g (c.sent i t)::R)→K (.tuple #[.int .i64 (c.T i % 2),.int .i64 0]) w'):Cl prog 59 #[.pointer (some ⟨g,0,none⟩),.int .i64 i,.int .i64 t] w K:=by
 refine Zjy ?_
 unfold ZkR
 refine ZjA hS ?_
 rw[decide_eq_true (show 0≤(i:Int)∧(i:Int)<c.n from ⟨by omega,hin⟩)]
 refine ZaJ (Zj (Ze ?_))
 refine ZcO hx ?_
 rw[hv]
 refine Ze (ZaJ (Yd (Zf ?_)))
 refine Zo0 hi hin hS ?_
 refine ZaY hS λw1 h1=>?_
 obtain ⟨j,hj,hj2,hj3,hj4⟩:=Zqs c (c.T i) (c.on (c.T i % 2)+1)
 have hbk:=hb (c.T i % 2)
 refine Zh (Za ?_)
 rw[hj2]
 refine Zcb hj (Zb h1 0 rfl hj3 ?_)
 rw[hj2] at hbk ⊢
 refine ZcD (by omega) (by omega) ?_
 refine Zh (Za (Zcb hj ?_))
 rw[hj2] at hj4
 refine Zq h1 0 rfl (vs:=[.int .i64 (c.on j+1)]) rfl rfl (by rw[ZdC];omega) (by simp[flat]) (cs':=Yi (c.setOn j (c.on j+1)).ns) hj4 λw2 h2=>?_
 refine ZaY h2 λw3 h3=>?_
 refine Zel (c:=c.setOn j (c.on j+1)) h3 λw4 h4=>?_
 rw[Zan.setOn_begun,Zan.setOn_over]
 by_cases hu:c.over<c.begun
 ·rw[decide_eq_true hu]
  refine Ze (Ze (Ze (Zh (Ze (Za (Ze ?_))))))
  refine Zcb hi ?_
  refine Ze (Zo h4 0 rfl (Zlc _ i hi) rfl ?_)
  refine Ze (Ze (Zh (Ze (Za (Ze ?_)))))
  refine Zb h4 0 rfl (Zur _).1 ?_
  refine Ze (Zou h4 λw5 h5=>?_)
  rw[Zan.setOn_T,Zan.setOn_begun]
  by_cases ht:c.T i=c.begun
  ·rw[decide_eq_true ht]
   refine Yv (Zi (Zh (Za ?_)))
   refine Zb h5 0 rfl (Zur _).2 ?_
   refine Zty ?_
   refine Zh (Za ?_)
   refine Zq h5 0 rfl (vs:=[.int .i64 (min (c.setOn j (c.on j+1)).least t)]) rfl rfl (by rw[ZdC];decide) (by simp[flat]) (Zpi _ _) λw6 h6=>?_
   have e1:c.sent i t={ c.setOn j (c.on j+1) with least:=min c.least t }:=by
    unfold Zan.sent
    rw[if_pos ⟨hu,ht⟩,hj2]
   rw[Zan.setOn_least] at h6
   rw[e1,hj2] at hk
   exact hk _ h6
  ·rw[decide_eq_false ht]
   refine Yv (Zf ?_)
   have e1:c.sent i t=c.setOn j (c.on j+1):=by
    unfold Zan.sent
    rw[if_neg (λh=>ht h.2),hj2]
   rw[e1,hj2] at hk
   exact hk _ h5
 ·rw[decide_eq_false hu]
  refine Zu (Zu (Zu (Zu (Zu (Zu (Zu (Zu (Zu (Zu (Zd (Yd (Zf ?_))))))))))))
  have e1:c.sent i t=c.setOn j (c.on j+1):=by
   unfold Zan.sent
   rw[if_neg (λh=>hu h.1),hj2]
  rw[e1,hj2] at hk
  exact hk _ h4
def Zan.gotE (c:Zan) (k:Int):Int:=if ¬(0≤k∧k≤1)∨c.on k=0 then 1 else 0
def Zan.got (c:Zan) (k:Int):Zan:=if ¬(0≤k∧k≤1)∨c.on k=0 then c else c.setOn k (c.on k - 1)
theorem ZtM {g:Nat} {c:Zan} {i:Nat} {k:Int} (hin:(i:Int)<c.n) (hb:∀k,-1000000≤c.on k∧c.on k≤1000000) (hS:Sat e w (ZbI g c::R))
  (hk:∀w',Sat e w' (ZbI g (c.got k)::R)→K (.int .i64 (c.gotE k)) w'):Cl prog 63 #[.pointer (some ⟨g,0,none⟩),.int .i64 i,.int .i64 k] w K:=by
 refine ZjO ?_
 unfold ZmI
 refine ZjA hS ?_
 rw[decide_eq_true (show 0≤(i:Int)∧(i:Int)<c.n from ⟨by omega,hin⟩)]
 refine ZaJ (Zj (Zj (Zx8 ?_)))
 by_cases hk1:0≤k∧k≤1
 ·refine Zj (ZoP (by omega) ?_)
  obtain ⟨j,hj,hj2,hj3,hj4⟩:=Zqs c k (c.on (k % 2) - 1)
  have hkm:k % 2=k:=by omega
  rw[hkm] at hj2 hj3 hj4
  have hbk:=hb k
  refine Yd (Zj (Zj (Ze (Zh (Ze (Za (Ze ?_)))))))
  rw[hj2] at hj3 hj4 hbk ⊢
  refine Zcb hj (Zj (Zb hS 0 rfl hj3 ?_))
  by_cases h0:c.on k=0
  ·rw[hj2] at h0
   refine Ze (Znq (by omega) (Yd (Zi ?_)))
   have e1:c.gotE k=1:=if_pos (.inr (by rw[hj2];exact h0))
   have e2:c.got k=c:=if_pos (.inr (by rw[hj2];exact h0))
   rw[e1,e2] at hk
   exact hk _ hS
  ·have hn:¬(¬(0≤k∧k≤1)∨c.on k=0):=λh=>h.elim (λh=>h hk1) h0
   have e1:c.gotE k=0:=if_neg hn
   have e2:c.got k=c.setOn k (c.on k - 1):=if_neg hn
   rw[e1,e2,hj2] at hk
   rw[hj2] at h0
   refine Ze (Zd8 (by omega) (Yd (Zf (Zh (Za ?_)))))
   have h1:=hS.drew
   refine Zcb hj (Zb h1 0 rfl hj3 ?_)
   refine ZoJ (by omega) (by omega) ?_
   refine Zh (Za (Zcb hj ?_))
   refine Zq h1 0 rfl (vs:=[.int .i64 (c.on j - 1)]) rfl rfl (by rw[ZdC];omega) (by simp[flat]) hj4 λw2 h2=>?_
   exact hk _ h2
 ·refine Zj (Zng (by omega) ?_)
  refine Yd (Zd (Zd (Zd (Zd (Zd (Zd (Zd (Yv (Zi ?_)))))))))
  have e1:c.gotE k=1:=if_pos (.inl hk1)
  have e2:c.got k=c:=if_pos (.inl hk1)
  rw[e1,e2] at hk
  exact hk _ hS
end Go.Proofs.YtnhaekgogppbiaaGreat
end
