/- Texts of the proof, joined. Conditions: none. -/
import Derived.Test.YtnhaekgogppbiaaGreatP7
section
namespace Go.Proofs.YtnhaekgogppbiaaGreat
open Go Go.E
set_option maxRecDepth 100000
variable {wd:Wd} {R:RS} {f g a b:Nat} {m:Msg} {k:KS} {i:Zn}
theorem FK.do' (h:FK wd R k) (w:WF wd R) (kind a b:Nat) (ha:kind≠4→a<wd.Feds.length) (hb:kind=2→b<wd.Feds.length):FK wd R (k.do' wd kind a b).2:=by
 obtain ⟨s,hs⟩:=h.inv
 have hi:∃s,Ze1 wd (k.do' wd kind a b).2 s:=⟨_,hs.do' kind a b ha hb⟩
 match kind,ha,hb,hi with
 | 0,ha,_,hi=>exact h.step w (ha (by decide)) hi
 | 1,ha,_,hi=>exact h.flush w (ha (by decide)) hi
 | 2,ha,hb,hi=>exact h.deliver w (ha (by decide)) (hb rfl) hi
 | 3,ha,_,hi=>exact h.tell w (ha (by decide)) hi
 | 4,_,_,hi=>exact h.begin hi
 | 5,ha,_,hi=>exact h.turn (ha (by decide)) hi
 | _+6,ha,_,hi=>exact h.report w (ha (by omega)) hi
theorem ZUk:∀(l:List Msg) (k:KS) (f:Nat),f<k.boxes.length→(l.foldl ZxY k).box f=k.box f++(l.filter λm=>decide (m.key.From.toNat=f)).map Zae
 | [],k,f,_=>by simp
 | m::l,k,f,hf=>by
  have hl:(ZxY k m).boxes.length=k.boxes.length:=by
   show (k.boxes.set _ _).length=_
   rw[List.length_set]
  rw[List.foldl_cons,ZUk l (ZxY k m) f (by rw[hl];exact hf),List.filter_cons]
  have e:(ZxY k m).box f=if m.key.From.toNat=f∧m.key.From.toNat<k.boxes.length then k.box m.key.From.toNat++[Zae m] else k.box f:=Zmr ..
  rw[e]
  by_cases h:m.key.From.toNat=f
  ·rw[if_pos ⟨h,by omega⟩,if_pos (decide_eq_true h),h,List.map_cons,List.append_assoc]
   rfl
  ·rw[if_neg λh'=>h h'.1,if_neg (by rw[decide_eq_false h];decide)]
theorem ZT9:∀(l:List Msg) (k:KS),(l.foldl ZxY k).nodes=k.nodes∧(l.foldl ZxY k).net=k.net∧(l.foldl ZxY k).cut=k.cut
 | [],_=>⟨rfl,rfl,rfl⟩
 | m::l,k=>ZT9 l (ZxY k m)
theorem ZTS {f g:Nat} (h:f<g) (hg:g≤wd.Feds.length) (hk:¬(Zs wd f).Kind=0):Zcz wd f<Zcz wd g:=by
 have h1:wd.Feds.take (f+1)=wd.Feds.take f++[Zs wd f]:=Zx (ZaN (by omega))
 have h2:wd.Feds.take g=wd.Feds.take (f+1)++(wd.Feds.take g).drop (f+1):=by
  have h3:=List.take_append_drop (f+1) (wd.Feds.take g)
  rw[List.take_take,Nat.min_eq_left (by omega)] at h3
  exact h3.symm
 unfold Zcz
 rw[h2,h1,List.filter_append,List.filter_append,List.length_append,List.length_append,List.filter_cons,if_pos (by rw[decide_eq_false hk];rfl),List.length_cons]
 omega
theorem FK.init (w:WF wd R) (room:Nat):FK wd R (KS.init wd room):=by
 have hn:=(ZfI w.chk).n
 have hinv:=Ze1.init w.chk room
 rw[ZuV] at hinv ⊢
 generalize hst:Zaz wd.Parents wd.Feds wd.Feds=st at hinv ⊢
 obtain ⟨p1,p2,p3⟩:=ZT9 st (KS.init0 wd room)
 have hnode:∀f,f<wd.Feds.length→(st.foldl ZxY (KS.init0 wd room)).node f=ZpY wd wd.Feds.length f (Zs wd f) (Zcz wd f):=λf hf=>by
  rw[←Zgi (room:=room) hf]
  unfold KS.node
  rw[p1]
 have hbox:∀f,f<wd.Feds.length→(st.foldl ZxY (KS.init0 wd room)).box f=(st.filter λm=>decide (m.key.From.toNat=f)).map Zae:=λf hf=>by
  rw[ZUk st _ f (by show f<(List.replicate _ _).length;rw[List.length_replicate];exact hf),ZmC,List.nil_append]
 have hq:∀g f,(st.foldl ZxY (KS.init0 wd room)).q g f=[]:=λg f=>by
  rw[←ZqT (wd:=wd) room g f]
  unfold KS.q
  rw[p2]
 have hkind:∀f,f<wd.Feds.length→((Zs wd f).Kind=0∧Zci wd f=false)∨(¬(Zs wd f).Kind=0∧Zci wd f=true):=λf hf=>by
  unfold Zci
  rw[if_pos (by omega),Int.toNat_natCast,ZaN hf]
  rcases ZlD w.chk _ (List.mem_of_getElem? (ZaN hf)) with h | h
  ·exact .inl ⟨h,decide_eq_false (by omega)⟩
  ·exact .inr ⟨by omega,decide_eq_true h⟩
 refine ⟨⟨0,hinv⟩,?_,?_⟩
 ·have hno:∀f,f<wd.Feds.length→((st.foldl ZxY (KS.init0 wd room)).node f).hold=[]∧(∀b,((st.foldl ZxY (KS.init0 wd room)).node f).src b=[])∧∀g,((st.foldl ZxY (KS.init0 wd room)).node f).clkAt g≤0:=λf hf=>by
   rw[hnode f hf]
   rcases hkind f hf with ⟨h,_⟩ | ⟨h,_⟩
   ·rw[Zgj h]
    refine ⟨rfl,λb=>by cases b <;> rfl,λg=>?_⟩
    show (List.replicate _ (0:Int)).getD g 0≤0
    rw[List.getD_eq_getElem?_getD,List.getElem?_replicate]
    split <;> exact Int.le_refl _
   ·rw[Zgb h]
    refine ⟨rfl,λb=>by cases b <;> rfl,λg=>?_⟩
    show (ZiQ wd).at' g≤0
    rw[atN]
    show (wd.Feds.map λg=>if g.Kind=0 then (0:Int) else -1).getD g (-1)≤0
    rw[List.getD_eq_getElem?_getD,List.getElem?_map]
    cases wd.Feds[g]? with
    | none=>show (-1:Int)≤0;decide
    | some x=>
     show (if x.Kind=0 then (0:Int) else -1)≤0
     split <;> decide
  refine ⟨λf hf=>?_,λf hf=>?_,λg f hg hf hgf=>?_⟩
  ·have:=hinv.ok f (by rw[hinv.nl];exact hf)
   exact this
  ·have hh:=(hno f hf).1
   rw[hnode f hf] at hh ⊢
   rcases hkind f hf with ⟨h,hb⟩ | ⟨h,hb⟩
   ·rw[Zgj h] at hh ⊢
    refine ⟨hb.symm,⟨_,rfl⟩,λm hm=>(by rw[hh] at hm;cases hm),λN e=>?_,λN r u e=>(by cases e)⟩
    cases e
    exact ⟨rfl,rfl,List.length_replicate,rfl⟩
   ·rw[Zgb h] at hh ⊢
    refine ⟨hb.symm,⟨_,rfl⟩,λm hm=>(by rw[hh] at hm;cases hm),λN e=>(by cases e),λN r u e x hx hlt=>?_⟩
    cases e
    have:=w.valid hf hx
    have hlt:x.key.T<0:=hlt
    omega
  ·obtain ⟨h1,_,h3⟩:=hno f hf
   obtain ⟨_,h2,_⟩:=hno g hg
   rw[h1,h2]
   have htr:trK (st.foldl ZxY (KS.init0 wd room)) g f=toF f ((st.filter λm=>decide (m.key.From.toNat=g)).map Zae):=by
    unfold trK
    rw[hq,hbox g hg]
    rfl
   rw[htr]
   have hmem:∀i:It,i∈toF f ((st.filter λm=>decide (m.key.From.toNat=g)).map Zae)↔i.1=0∧(i.2∈st∧i.2.key.From=g)∧i.2.To=f:=λi=>by
    rw[ZTu,List.mem_filter,decide_eq_true_iff]
    refine and_congr Iff.rfl (and_congr ⟨λh=>⟨h.1,?_⟩,λh=>⟨h.1,by rw[h.2];rfl⟩⟩ Iff.rfl)
    have h4:=h.1
    rw[←hst] at h4
    obtain ⟨_,j,_,h5,_⟩:=ZTM h4
    have:=h.2
    omega
   refine ⟨λi hi _=>?_,λi hi=>.inl ((hmem i).1 hi).1,λm hfr hto=>?_,λm hm hfr=>⟨λhlt=>?_,ZUi λi hi=>?_⟩⟩
   ·have:=(hmem i).1 hi
    exact ⟨this.2.1.2,this.2.2⟩
   ·rw[ZTK λi hi=>.inl ((hmem i).1 hi).1]
    unfold ZTs
    rw[hst]
    constructor
    ·rintro (h | ⟨i,hi,_,rfl⟩)
     ·cases h
     ·exact .inl ((hmem i).1 hi).2.1
    ·rintro (h | ⟨x,hx,_⟩)
     ·exact .inr ⟨(0,m),(hmem _).2 ⟨rfl,h,hto⟩,rfl,rfl⟩
     ·cases hx
   ·have:=w.valid hf hm
    have:=h3 g
    omega
   ·have:=((hmem i).1 hi).1
    omega
 ·intro c hc
  rw[p3] at hc
  have hc:(if Zai wd=0 then none else some (CL.zero (Zai wd)))=some c:=hc
  split at hc
  ·cases hc
  ·have hc:=Option.some.inj hc
   subst hc
   have hz:∀(n r:Nat),(List.replicate n (0:Int)).getD r 0=0:=λn r=>by
    rw[List.getD_eq_getElem?_getD,List.getElem?_replicate]
    split <;> rfl
   have hrk:∀f:Nat,Zci wd f=true→f<wd.Feds.length∧¬(Zs wd f).Kind=0∧((st.foldl ZxY (KS.init0 wd room)).node f).rank=Zcz wd f:=λf hb=>by
    have hf:=ZTt hb
    rcases hkind f hf with ⟨_,h⟩ | ⟨h,_⟩
    ·rw[hb] at h;cases h
    ·exact ⟨hf,h,by rw[hnode f hf,Zgb h];rfl⟩
   refine ⟨λf g hf hg e=>?_,.inl rfl,λr _=>.inl (hz _ r),λr _=>by show (List.replicate _ (0:Int)).getD r 0≤0;rw[hz];exact Int.le_refl _,λf M r u hn=>?_,λx hx=>?_,λ_ g f _ j hj=>(by rw[hq] at hj;cases hj),λf hf=>⟨λM r u hn=>?_,λb hb _ i hi hto=>?_⟩,λg f _ j hj=>(by rw[hq] at hj;cases hj),λ_ g f _ j hj=>(by rw[hq] at hj;cases hj),λhp=>absurd hp (by show ¬(0:Int)<0;decide)⟩
   ·obtain ⟨f1,f2,f3⟩:=hrk f hf
    obtain ⟨g1,g2,g3⟩:=hrk g hg
    rw[f3,g3] at e
    rcases Nat.lt_trichotomy f g with h | h | h
    ·have:=ZTS h (by omega) f2
     omega
    ·exact h
    ·have:=ZTS h (by omega) g2
     omega
   ·by_cases hf:f<wd.Feds.length
    ·rw[hnode f hf] at hn
     unfold ZpY at hn
     split at hn
     ·cases hn
     ·cases hn;exact Int.le_refl _
    ·exfalso
     unfold KS.node at hn
     rw[p1,ZmG,List.getD_eq_getElem?_getD,List.getElem?_eq_none (by rw[List.length_map,List.length_range];omega)] at hn
     cases hn
   ·have h0:cnK wd (st.foldl ZxY (KS.init0 wd room)) x=0:=by
     have h1:∀a b,cn1 wd (st.foldl ZxY (KS.init0 wd room)) x a b=0:=λa b=>by
      unfold cn1
      rw[hq]
      split <;> rfl
     have h2:∀n:Nat,((List.range n).map λ_=>0).sum=0:=λn=>by
      induction n with
      | zero=>rfl
      | succ n ih=>rw[List.range_succ,List.map_append,List.sum_append,ih];rfl
     unfold cnK
     simp only[h1,h2]
    rw[h0]
    rcases hx with rfl | rfl <;> exact Int.le_refl _
   ·obtain ⟨f1,f2,_⟩:=hrk f hf
    rw[hnode f f1,Zgb f2] at hn
    cases hn
    exact ⟨by show (0:Int)≤1125899906842624;decide,λy hy=>(by cases hy),λt _ _=>(Zp1 t).1⟩
   ·have hbf:=ZTt hf
    rw[hbox f hbf] at hi
    obtain ⟨y,hy,rfl⟩:=List.mem_map.1 hi
    have hy:=(List.mem_filter.1 hy).1
    rw[←hst] at hy
    exact (Zmc (ZTM hy).1.2).1
theorem ZU0 (hc:(Za4 wd).2=0) (he:(Zul wd 150 (ZF4 wd)).1<150):WF wd (Zul wd 150 (ZF4 wd)).2:=
 .of hc (ZTV (ZfI hc) 150 (ZLt (ZfI hc)) ZUy ZUe he)
theorem FK.prefix (h:FK wd R k) (w:WF wd R) (hf:f<wd.Feds.length):∃l,ZK0 R f=(k.node f).log wd f++l:=(h.fi.nd f hf).logs w hf
instance:DecidableEq Zn:=λa b=>decidable_of_iff (a.ns=b.ns) ⟨λh=>by
 obtain ⟨a0,⟨⟨a1,a2,a3⟩,a4,a5,a6⟩,a7⟩:=a
 obtain ⟨b0,⟨⟨b1,b2,b3⟩,b4,b5,b6⟩,b7⟩:=b
 simp[Zn.ns] at h
 simp[h],λh=>by rw[h]⟩
def Zn.zero:Zn:=⟨0,⟨⟨0,0,0⟩,0,0,0⟩,0⟩
theorem Zn.eq_ns (a b:Zn):(a.ns==b.ns)=decide (a=b):=by
 rw[Bool.eq_iff_iff]
 obtain ⟨a0,⟨⟨a1,a2,a3⟩,a4,a5,a6⟩,a7⟩:=a
 obtain ⟨b0,⟨⟨b1,b2,b3⟩,b4,b5,b6⟩,b7⟩:=b
 simp[Zn.ns,and_assoc]
def Zq9 (N:Nat) (D:Nat→Int):List Value:=Yi ((List.range N).map D)
theorem Zdg (N:Nat) (D:Nat→Int):(Zq9 N D).length=N:=by simp[Zq9,Yi]
theorem Zah {N k:Nat} {D:Nat→Int} (h:k<N):(Zq9 N D)[k]?=some (.int .i64 (D k)):=by simp[Zq9,Yi,h]
theorem Zsf {N k m:Nat} {D:Nat→Int} (h:k+m≤N):((Zq9 N D).drop k).take m=Yi ((List.range m).map λj=>D (k+j)):=by
 apply List.ext_getElem
 ·simp[Zq9,Yi];omega
 ·intro i h1 h2
  simp[Zq9,Yi]
def ZvU (D:Nat→Int) (k:Nat) (xs:List Int):Nat→Int:=λi=>if k≤i∧i<k+xs.length then xs.getD (i - k) 0 else D i
theorem Zlg {N k:Nat} {D:Nat→Int} {xs:List Int} (h:k+xs.length≤N):wrL (Zq9 N D) k (Yi xs)=Zq9 N (ZvU D k xs):=by
 apply List.ext_getElem?
 intro i
 rw[Zkk _ _ _ (by rw[Zdg,Zen];exact h),Zen]
 by_cases hi:i<N
 ·rw[Zah hi,Zah hi]
  unfold ZvU
  by_cases h1:i<k
  ·rw[if_pos h1,if_neg (by omega)]
  ·rw[if_neg h1]
   by_cases h2:i<k+xs.length
   ·rw[if_pos h2,if_pos ⟨by omega,h2⟩]
    have:i - k<xs.length:=by omega
    simp[Yi,this]
   ·rw[if_neg h2,if_neg (by omega)]
 ·rw[if_neg (by omega),if_neg (by omega)]
  rw[List.getElem?_eq_none (by rw[Zdg];omega),List.getElem?_eq_none (by rw[Zdg];omega)]
theorem ZbC {D:Nat→Int} {k:Nat} {xs:List Int} {i:Nat} (h:i<k∨k+xs.length≤i):ZvU D k xs i=D i:=if_neg (by omega)
theorem Zu9 {D:Nat→Int} {k:Nat} {xs:List Int} {j:Nat} (h:j<xs.length):ZvU D k xs (k+j)=xs.getD j 0:=by
 unfold ZvU
 rw[if_pos ⟨by omega,by omega⟩,Nat.add_sub_cancel_left]
theorem Zq3 {D:Nat→Int} {k:Nat} {x:Int}:ZvU D k [x] k=x:=Zu9 (j:=0) (k:=k) (by simp)
structure Zc3 (D:Nat→Int) (o:Nat) (q:List Zn) (f:Nat):Prop where
 hf:f<16
 df:D (o+128)=f
 dm:D (o+129)=q.length
 len:q.length≤16
 item:∀j x,q[j]?=some x→∀i,i<8→D (o+(f+j) % 16*8+i)=x.ns.getD i 0
theorem Zc3.congr {D E:Nat→Int} {o:Nat} {q:List Zn} {f:Nat} (h:Zc3 D o q f) (hd:∀i,i<130→E (o+i)=D (o+i)):Zc3 E o q f:=by
 refine ⟨h.hf,by rw[hd _ (by omega)];exact h.df,by rw[hd _ (by omega)];exact h.dm,h.len,λj x hx i hi=>?_⟩
 have:=Nat.mod_lt (f+j) (show 0<16 by omega)
 rw[Nat.add_assoc,hd _ (by omega),←Nat.add_assoc]
 exact h.item j x hx i hi
theorem Zc3.sub {D:Nat→Int} {o:Nat} {q:List Zn} {f:Nat} (h:Zc3 D o q f) {x:Zn} (hx:q[0]?=some x):((List.range 8).map λj=>D (o+f*8+j))=x.ns:=by
 have h0:=h.item 0 x hx
 rw[Nat.add_zero,Nat.mod_eq_of_lt h.hf] at h0
 show [D (o+f*8+0),D (o+f*8+1),D (o+f*8+2),D (o+f*8+3),D (o+f*8+4),D (o+f*8+5),D (o+f*8+6),D (o+f*8+7)]=_
 rw[h0 0 (by omega),h0 1 (by omega),h0 2 (by omega),h0 3 (by omega),h0 4 (by omega),h0 5 (by omega),h0 6 (by omega),h0 7 (by omega)]
 rfl
theorem Zc3.push {D:Nat→Int} {o:Nat} {q:List Zn} {f:Nat} (h:Zc3 D o q f) (hl:q.length<16) (x:Zn) :
  Zc3 (ZvU (ZvU D (o+(f+q.length) % 16*8) x.ns) (o+129) [((q.length:Int)+1)]) o (q++[x]) f:=by
 have hm:=Nat.mod_lt (f+q.length) (show 0<16 by omega)
 have hx8:x.ns.length=8:=rfl
 refine ⟨h.hf,?_,?_,by simp;omega,λj y hy i hi=>?_⟩
 ·rw[ZbC (by simp),ZbC (by rw[hx8];omega)];exact h.df
 ·rw[Zq3];simp
 ·have hj:=Nat.mod_lt (f+j) (show 0<16 by omega)
  rw[ZbC (by left;omega)]
  by_cases hjl:j<q.length
  ·rw[List.getElem?_append_left hjl] at hy
   have hne:(f+j) % 16≠(f+q.length) % 16:=by have:=h.hf;omega
   rw[ZbC (by rw[hx8];omega)]
   exact h.item j y hy i hi
  ·have hjq:j=q.length:=by
    have:=(List.getElem?_eq_some_iff.1 hy).1
    simp at this
    omega
   subst hjq
   rw[List.getElem?_append_right (Nat.le_refl _),Nat.sub_self] at hy
   simp at hy
   subst hy
   rw[Zu9 (by rw[hx8];exact hi)]
theorem Zc3.pop {D:Nat→Int} {o:Nat} {q:List Zn} {f:Nat} {x:Zn} (h:Zc3 D o (x::q) f) :
  Zc3 (ZvU (ZvU D (o+128) [(((f+1) % 16:Nat):Int)]) (o+129) [(q.length:Int)]) o q ((f+1) % 16):=by
 refine ⟨Nat.mod_lt _ (by omega),?_,Zq3,by have:=h.len;simp at this;omega,λj y hy i hi=>?_⟩
 ·rw[ZbC (by left;omega),Zq3]
 ·have hj:=Nat.mod_lt ((f+1) % 16+j) (show 0<16 by omega)
  rw[ZbC (by left;omega),ZbC (by left;omega)]
  have:=h.item (j+1) y (by simpa using hy) i hi
  rw[show (f+(j+1)) % 16=((f+1) % 16+j) % 16 from by omega] at this
  exact this
def Zkq (a b:Nat):Nat:=2+a*1040+b*130
structure Zpk (D:Nat→Int) (n room:Int) (Q:Nat→Nat→List Zn):Prop where
 dn:D 0=n
 dr:D 1=room
 hn:1≤n∧n≤8
 hr:1≤room∧room≤16
 ring:∀a b,a<8→b<8→∃f,Zc3 D (Zkq a b) (Q a b) f
 room:∀a b,a<8→b<8→((Q a b).length:Int)≤room
def Yx (g:Nat) (n room:Int) (Q:Nat→Nat→List Zn):HP:=hex λD:Nat→Int=>Yh [blk g 119 (Zq9 8322 D),pur (Zpk D n room Q)]
def ZvY (Q:Nat→Nat→List Zn) (a b:Nat) (q:List Zn):Nat→Nat→List Zn:=λc d=>if c=a∧d=b then q else Q c d
theorem Zpk.upd {D E:Nat→Int} {n room:Int} {Q:Nat→Nat→List Zn} (h:Zpk D n room Q) {a b:Nat} (ha:a<8) (hb:b<8) {q:List Zn} {f:Nat} (hq:Zc3 E (Zkq a b) q f) (hl:(q.length:Int)≤room)
  (hE:∀i,(i<Zkq a b∨Zkq a b+130≤i)→E i=D i):Zpk E n room (ZvY Q a b q):=by
 refine ⟨by rw[hE 0 (by unfold Zkq;omega)];exact h.dn,by rw[hE 1 (by unfold Zkq;omega)];exact h.dr,h.hn,h.hr,λc d hc hd=>?_,λc d hc hd=>?_⟩
 ·by_cases hcd:c=a∧d=b
  ·obtain ⟨rfl,rfl⟩:=hcd
   exact ⟨f,by unfold ZvY;rw[if_pos ⟨rfl,rfl⟩];exact hq⟩
  ·obtain ⟨f',hf'⟩:=h.ring c d hc hd
   refine ⟨f',?_⟩
   unfold ZvY
   rw[if_neg hcd]
   refine hf'.congr λi hi=>hE _ ?_
   unfold Zkq
   omega
 ·unfold ZvY
  split
  ·exact hl
  ·exact h.room c d hc hd
variable {e w:World} {R:List HP} {K:KV}
theorem Yx.open {g:Nat} {n room:Int} {Q:Nat→Nat→List Zn} (hS:Sat e w (Yx g n room Q::R)):∃D,Zpk D n room Q∧Sat e w (blk g 119 (Zq9 8322 D)::R):=by
 obtain ⟨D,h0⟩:=hS.ex
 have h1:=h0.split
 have h2:=h1.pick 1 rfl
 obtain ⟨h3,h4⟩:=h2.pure
 exact ⟨D,h3,h4⟩
theorem Yx.close {g:Nat} {n room:Int} {Q:Nat→Nat→List Zn} {D:Nat→Int} (h:Zpk D n room Q) (hS:Sat e w (blk g 119 (Zq9 8322 D)::R)):Sat e w (Yx g n room Q::R):=by
 refine .mk_ex D (.join (l':=[_,_]) ?_)
 exact (Sat.mk_pure h hS).swap
theorem Zvq:(Zl prog 119).toList=List.replicate 8322 (.int .i64 0):=by kernel_rfl
theorem Zv1 {z:Array Value} {a b:Int} (hz:2≤z.size):Instr.fill ((#[(0,1),(1,1),(2,8320)]:Array (Nat × Nat))[·]?) z [(0,.int .i64 a),(1,.int .i64 b)]=some ((z.setIfInBounds 0 (.int .i64 a)).setIfInBounds 1 (.int .i64 b)):=by
 have h1:¬z.size<1:=by omega
 have h2:¬z.size<2:=by omega
 simp[Instr.fill,Value.cells,h1,h2]
theorem ZsT {n room:Int} (h1:1≤n) (h2:n≤8) (h3:1≤room) (h4:room≤16) (hS:Sat e w R)
  (hk:∀g w',Sat e w' (Yx g n room (λ_ _=>[])::R)→K (.tuple #[.pointer (some ⟨g,0,none⟩),.int .i64 0]) w'):Cl prog 17 #[.int .i64 n,.int .i64 room] w K:=by
 refine Zhf ?_
 unfold Zn6
 refine Ze7 (by omega) (Zj (Ze (Zle (by omega) (Yd (Zj (Ze (Ze7 (by omega) (Yd (Zj (Ze (Zle (by omega) (Yd (Zf ?_)))))))))))))
 have hsz:(Zl prog 119).size=8322:=by rw[←Array.length_toList,Zvq,List.length_replicate]
 refine ⟨_,Zv1 (by omega),?_⟩
 refine Yp (cs:=Zq9 8322 (λi=>if i=0 then n else if i=1 then room else 0)) hS ?_ λg w2 hg=>?_
 ·show ((((Zl prog 119).setIfInBounds 0 (.int .i64 n)).setIfInBounds 1 (.int .i64 room))).toList=_
  rw[Array.toList_setIfInBounds,Array.toList_setIfInBounds,Zvq]
  apply List.ext_getElem?
  intro i
  rw[List.getElem?_set,List.getElem?_set,List.getElem?_replicate]
  by_cases hi:i<8322
  ·rw[Zah hi]
   by_cases h0:i=0
   ·subst h0;simp
   ·by_cases h1:i=1
    ·subst h1;simp
    ·have e0:¬0=i:=by omega
     have e1:¬1=i:=by omega
     simp[h0,h1,e0,e1,hi]
  ·rw[List.getElem?_eq_none (by rw[Zdg];omega)]
   have e0:¬0=i:=by omega
   have e1:¬1=i:=by omega
   simp[e0,e1,hi]
 ·refine hk _ _ (Yx.close ⟨rfl,rfl,⟨h1,h2⟩,⟨h3,h4⟩,λa b ha hb=>⟨0,by omega,?_,?_,by simp,λj x hx=>by simp at hx⟩,λa b _ _=>by simp;omega⟩ hg)
  ·show (if _ then _ else if _ then _ else (0:Int))=_
   unfold Zkq
   rw[if_neg (by omega),if_neg (by omega)];rfl
  ·show (if _ then _ else if _ then _ else (0:Int))=_
   unfold Zkq
   rw[if_neg (by omega),if_neg (by omega)];rfl
def okL (n a b:Int):Prop:=0≤a∧0≤b∧a<n∧b<n∧a≠b
instance (n a b:Int):Decidable (okL n a b):=inferInstanceAs (Decidable (_∧_))
theorem ZlH {g:Nat} {n room:Int} {Q:Nat→Nat→List Zn} {a b:Int} (hb:¬okL n a b) (hS:Sat e w (Yx g n room Q::R)) (hk:K (.pointer none) w):Cl prog 96 #[.pointer (some ⟨g,0,none⟩),.int .i64 a,.int .i64 b] w K:=by
 obtain ⟨D,hD,h1⟩:=Yx.open hS
 refine Zd1 ?_
 unfold ZhG
 have hn:(Zq9 8322 D)[0]?=some (.int .i64 n):=by rw[Zah (by omega),hD.dn]
 unfold okL at hb
 refine Za7 (λc1=>?_) (λc1=>?_)
 ·refine Zd (Zd (Yv (Zd (Zd (Zd (Zd (Zd (Zd (Yv (Zd (Zd (Zd (Zd (Zd (Zd (Yv (Zd (Zd (Zd (Yv (Zi ?_)))))))))))))))))))))
  exact hk
 ·refine Zj (Zj (Za7 (λc2=>?_) (λc2=>?_)))
  ·refine Yd (Zd (Zd (Zd (Zd (Zd (Zd (Yv (Zd (Zd (Zd (Zd (Zd (Zd (Yv (Zd (Zd (Zd (Yv (Zi ?_)))))))))))))))))))
   exact hk
  ·refine Yd (Zj (Zj (Ze (Zh (Ze (Za (Ze ?_)))))))
   refine Zb h1 0 rfl hn ?_
   refine Zj (Zu5 (λc3=>?_) (λc3=>?_))
   ·refine Yd (Zd (Zd (Zd (Zd (Zd (Zd (Yv (Zd (Zd (Zd (Yv (Zi ?_))))))))))))
    exact hk
   ·refine Yd (Zj (Zj (Ze (Zh (Ze (Za (Ze ?_)))))))
    refine Zb h1 0 rfl hn ?_
    refine Zj (Zu5 (λc4=>?_) (λc4=>?_))
    ·refine Yd (Zd (Zd (Zd (Yv (Zi ?_)))))
     exact hk
    ·refine Yd (Zj (Zj (Ze (Znq (by omega) (Yd (Zi ?_))))))
     exact hk
theorem Zfl {g:Nat} {n room:Int} {Q:Nat→Nat→List Zn} {a b:Nat} (hb:okL n a b) (hS:Sat e w (Yx g n room Q::R)) (hk:K (.pointer (some ⟨g,Zkq a b,none⟩)) w):Cl prog 96 #[.pointer (some ⟨g,0,none⟩),.int .i64 a,.int .i64 b] w K:=by
 obtain ⟨D,hD,h1⟩:=Yx.open hS
 obtain ⟨b1',b2',b3',b4',b5'⟩:=hb
 have hn8:=hD.hn
 refine Zd1 ?_
 unfold ZhG
 have hn:(Zq9 8322 D)[0]?=some (.int .i64 n):=by rw[Zah (by omega),hD.dn]
 refine Ze7 (by omega) (Zj (Ze (Ze7 (by omega) (Yd (Zj (Zj (Ze (Zh (Ze (Za (Ze ?_)))))))))))
 refine Zb h1 0 rfl hn ?_
 refine Ze (ZnR (by omega) (Yd (Zj (Zj (Ze (Zh (Ze (Za (Ze ?_)))))))))
 refine Zb h1 0 rfl hn ?_
 refine Ze (ZnR (by omega) (Yd (Zj (Zj (Ze (Zd8 (by omega) (Yd (Zf (Zh (Za ?_))))))))))
 refine Zcb (by omega) ?_
 refine Zcb (by omega) ?_
 rw[show 0+2+a*1040+b*130=Zkq a b from by unfold Zkq;omega]
 exact hk
def Zut (n a b:Int) (x:Zn):Prop:=¬okL n a b∨x.Kind<0∨2<x.Kind∨x.Colour / 2≠0
theorem ZqC {g:Nat} {n room:Int} {Q:Nat→Nat→List Zn} {a b:Nat} {x:Zn} (hb:¬Zut n a b x) (hS:Sat e w (Yx g n room Q::R))
  (hfull:((Q a b).length:Int)=room→∀w',Sat e w' (Yx g n room Q::R)→K (.int .i64 2) w')
  (hk:((Q a b).length:Int)<room→∀w',Sat e w' (Yx g n room (ZvY Q a b (Q a b++[x]))::R)→K (.int .i64 0) w') :
  Cl prog 60 #[.pointer (some ⟨g,0,none⟩),.int .i64 a,.int .i64 b,.agg x.cs.toArray] w K:=by
 have ho:okL n a b:=by by_cases h:okL n a b;exact h;exact absurd (Or.inl h) hb
 have c1:¬x.Kind<0:=λh=>hb (.inr (.inl h))
 have c2:¬2<x.Kind:=λh=>hb (.inr (.inr (.inl h)))
 have c3:x.Colour / 2=0:=by by_cases h:x.Colour / 2=0;exact h;exact absurd (Or.inr (.inr (.inr h))) hb
 refine ZhI ?_
 unfold Ziw
 refine Yp (cs:=x.cs) hS rfl λc w1 h1=>?_
 refine Zfl ho h1.swap ?_
 refine ZmP _ ?_
 refine Ze (Za (Ze ?_))
 refine Zb h1 0 rfl (v:=.int .i64 x.Kind) rfl ?_
 refine Ze (Ze7 (by omega) (Yd (Ze (Za (Ze ?_)))))
 refine Zb h1 0 rfl (v:=.int .i64 x.Kind) rfl ?_
 refine Ze (Zle (by omega) (Yd (Ze (Za (Ze ?_)))))
 refine Zb h1 0 rfl (v:=.int .i64 x.Colour) rfl ?_
 refine Zj (Zx8 ?_)
 refine Zj (ZoP c3 ?_)
 refine Yd (Zf (Zh (Za ?_)))
 obtain ⟨D,hD,h2⟩:=Yx.open h1.swap
 have hn8:=hD.hn
 have hr16:=hD.hr
 have hab:a<8∧b<8:=by obtain ⟨o1,o2,o3,o4,o5⟩:=ho;omega
 obtain ⟨f,hf⟩:=hD.ring a b hab.1 hab.2
 have hlr:=hD.room a b hab.1 hab.2
 have hoff:Zkq a b+130≤8322:=by unfold Zkq;omega
 have hf16:=hf.hf
 have h3:=h2.drew
 have hlen:=hf.len
 refine Zb h3 0 rfl (Zah (by omega)) ?_
 refine Zh (Za ?_)
 refine Zb h3 0 rfl (Zah (by omega)) ?_
 rw[show (0+1:Nat)=1 from rfl,hD.dr,hf.dm]
 refine ZoR (λc4=>Zi (hfull c4 _ (Yx.close hD (h3.selR [_,_] [_] [0] (by decide) rfl)))) (λc4=>Zf ?_)
 refine ZaY h3 λw4 h4=>?_
 refine Zh (Za ?_)
 refine Zb h4 0 rfl (Zah (by omega)) ?_
 refine Zh (Za ?_)
 refine Zb h4 0 rfl (Zah (by omega)) ?_
 rw[hf.df,hf.dm]
 refine ZcD (by omega) (by omega) ?_
 refine Zwn (by decide) ?_
 rw[Int.tmod_eq_emod_of_nonneg (by omega)]
 refine Zo h4 1 (vs:=x.cs) rfl (by rfl) rfl ?_
 refine Zh (Za ?_)
 rw[show ((f:Int)+((Q a b).length:Int)) % 16=(((f+(Q a b).length) % 16:Nat):Int) from by omega]
 have hm:=Nat.mod_lt (f+(Q a b).length) (show 0<16 by omega)
 refine Zcb hm ?_
 refine Zq h4 0 rfl (vs:=x.cs) rfl rfl (by rw[Zdg];omega) (Zg _) (Zlg (by show _+8≤8322;omega)) λw5 h5=>?_
 refine Zh (Za ?_)
 have hx8:x.ns.length=8:=rfl
 refine Zb h5 0 rfl (Zah (by omega)) ?_
 rw[ZbC (by rw[hx8];omega),hf.dm]
 refine ZcD (by omega) (by omega) ?_
 refine Zh (Za ?_)
 refine Zq h5 0 rfl (vs:=Yi [((Q a b).length:Int)+1]) rfl rfl (by rw[Zdg];omega) (Zg _) (Zlg (by show _+1≤8322;omega)) λw6 h6=>?_
 have hlt:(Q a b).length<16:=by omega
 refine hk (by omega) _ (Yx.close (hD.upd hab.1 hab.2 (hf.push hlt x) (by rw[List.length_append];simp;omega) λi hi=>?_) (h6.selR [_,_] [_] [0] (by decide) rfl))
 rw[ZbC (by simp;omega),ZbC (by rw[hx8];omega)]
theorem Zm1 {g:Nat} {n room:Int} {Q:Nat→Nat→List Zn} {a b:Int} (hb:¬okL n a b∨Q a.toNat b.toNat=[]) (hS:Sat e w (Yx g n room Q::R)) (hk:∀w',Sat e w' (Yx g n room Q::R)→K (.tuple #[.agg Zn.zero.cs.toArray,.bool false]) w') :
  Cl prog 61 #[.pointer (some ⟨g,0,none⟩),.int .i64 a,.int .i64 b] w K:=by
 refine ZcH ?_
 unfold ZdK
 rw[ZTH]
 refine Yp (cs:=Zn.zero.cs) hS rfl λc w1 h1=>?_
 by_cases ho:okL n a b
 ·obtain ⟨a,rfl⟩:∃m:Nat,a=m:=⟨a.toNat,by have:=ho.1;omega⟩
  obtain ⟨b,rfl⟩:∃m:Nat,b=m:=⟨b.toNat,by have:=ho.2.1;omega⟩
  have hq:Q a b=[]:=by
   have:=hb.resolve_left (λh=>h ho)
   simpa using this
  refine Zfl ho h1.swap ?_
  refine ZmP _ ?_
  refine Zj (Ze (Zh (Ze (Za (Ze ?_)))))
  obtain ⟨D,hD,h2⟩:=Yx.open h1.swap
  have hn8:=hD.hn
  have hab:a<8∧b<8:=by obtain ⟨o1,o2,o3,o4,o5⟩:=ho;omega
  obtain ⟨f,hf⟩:=hD.ring a b hab.1 hab.2
  have hoff:Zkq a b+130≤8322:=by unfold Zkq;omega
  refine Zb h2 0 rfl (Zah (by omega)) ?_
  rw[hf.dm,hq]
  refine Zj (Znq rfl ?_)
  refine Yd (Zi ?_)
  refine Zaf Zn.zero.cs (by kernel_rfl) ?_
  refine Zq h1 0 rfl (vs:=Zn.zero.cs) rfl rfl (by decide) (Zg _) (cs':=Zn.zero.cs) (by kernel_rfl) λw3 h3=>?_
  refine Zo h3 0 (vs:=Zn.zero.cs) rfl (by rfl) rfl ?_
  exact hk _ h3.drop
 ·refine ZlH ho h1.swap ?_
  refine Ztj ?_
  refine Zd (Zd (Zd (Zd (Zd (Yv (Zi ?_))))))
  refine Zaf Zn.zero.cs (by kernel_rfl) ?_
  refine Zq h1 0 rfl (vs:=Zn.zero.cs) rfl rfl (by decide) (Zg _) (cs':=Zn.zero.cs) (by kernel_rfl) λw3 h3=>?_
  refine Zo h3 0 (vs:=Zn.zero.cs) rfl (by rfl) rfl ?_
  exact hk _ h3.drop
theorem ZkF {g:Nat} {n room:Int} {Q:Nat→Nat→List Zn} {a b:Nat} {x:Zn} {q:List Zn} (ho:okL n a b) (hq:Q a b=x::q) (hS:Sat e w (Yx g n room Q::R)) (hk:∀w',Sat e w' (Yx g n room Q::R)→K (.tuple #[.agg x.cs.toArray,.bool true]) w') :
  Cl prog 61 #[.pointer (some ⟨g,0,none⟩),.int .i64 a,.int .i64 b] w K:=by
 refine ZcH ?_
 unfold ZdK
 rw[ZTH]
 refine Yp (cs:=Zn.zero.cs) hS rfl λc w1 h1=>?_
 refine Zfl ho h1.swap ?_
 refine ZmP _ ?_
 refine Zj (Ze (Zh (Ze (Za (Ze ?_)))))
 obtain ⟨D,hD,h2⟩:=Yx.open h1.swap
 have hn8:=hD.hn
 have hab:a<8∧b<8:=by obtain ⟨o1,o2,o3,o4,o5⟩:=ho;omega
 obtain ⟨f,hf⟩:=hD.ring a b hab.1 hab.2
 have hf16:=hf.hf
 have hoff:Zkq a b+130≤8322:=by unfold Zkq;omega
 refine Zb h2 0 rfl (Zah (by omega)) ?_
 rw[hf.dm,hq]
 refine Zj (Zd8 (by simp;omega) ?_)
 refine Yd (Zf (Zh (Za ?_)))
 have h3:=h2.drew
 refine Zb h3 0 rfl (Zah (by omega)) ?_
 rw[hf.df]
 refine Zh (Za ?_)
 refine Zcb hf16 ?_
 refine Zo h3 0 (vs:=x.cs) rfl ?_ rfl ?_
 ·rw[Zsf (by omega),Nat.add_zero]
  exact congrArg Yi (hf.sub (by rw[hq];rfl))
 refine Zq h3 1 rfl (vs:=x.cs) rfl rfl (by decide) (Zg _) (cs':=x.cs) (by kernel_rfl) λw4 h4=>?_
 refine Zo h4 1 (vs:=x.cs) rfl (by rfl) rfl ?_
 exact hk _ (Yx.close hD (h4.selR [_,_] [_] [0] (by decide) rfl))
theorem ZrE {g:Nat} {n room:Int} {Q:Nat→Nat→List Zn} {a b:Nat} {x:Zn} {q:List Zn} (ho:okL n a b) (hq:Q a b=x::q) (hS:Sat e w (Yx g n room Q::R)) (hk:∀w',Sat e w' (Yx g n room (ZvY Q a b q)::R)→K (.tuple #[.agg x.cs.toArray,.bool true]) w') :
  Cl prog 62 #[.pointer (some ⟨g,0,none⟩),.int .i64 a,.int .i64 b] w K:=by
 refine ZhB ?_
 unfold ZiP
 rw[ZTH]
 refine Yp (cs:=Zn.zero.cs) hS rfl λc w1 h1=>?_
 refine ZkF ho hq h1.swap λw2 h2=>?_
 refine Zam (Zal ?_)
 refine Yp (cs:=Zn.zero.cs) h2 rfl λd w3 h3=>?_
 refine Zq h3 0 rfl (vs:=x.cs) rfl rfl (by decide) (Zg _) (cs':=x.cs) (by kernel_rfl) λw4 h4=>?_
 refine J0.cut (λw=>Sat e w (blk d 84 x.cs::Yx g n room (ZvY Q a b q)::blk c 84 Zn.zero.cs::R)) (λk1 hcut=>Zi ?_) (λw5 h5=>?_)
 ·refine Zfl ho (h4.pick 1 rfl) ?_
  obtain ⟨D,hD,h5⟩:=Yx.open (h4.pick 1 rfl)
  have hn8:=hD.hn
  have hab:a<8∧b<8:=by obtain ⟨o1,o2,o3,o4,o5⟩:=ho;omega
  obtain ⟨f,hf⟩:=hD.ring a b hab.1 hab.2
  have hf16:=hf.hf
  have hlr:=hD.room a b hab.1 hab.2
  rw[hq] at hlr hf
  have hlen:=hf.len
  simp only[List.length_cons] at hlr hlen
  have hoff:Zkq a b+130≤8322:=by unfold Zkq;omega
  refine Zh (Za ?_)
  refine Zb h5 0 rfl (Zah (by omega)) ?_
  rw[hf.df]
  refine ZcD (by omega) (by omega) ?_
  refine Zwn (by decide) ?_
  rw[Int.tmod_eq_emod_of_nonneg (by omega),show ((f:Int)+1) % 16=(((f+1) % 16:Nat):Int) from by omega]
  refine Zh (Za ?_)
  refine Zq h5 0 rfl (vs:=Yi [(((f+1) % 16:Nat):Int)]) rfl rfl (by rw[Zdg];omega) (Zg _) (Zlg (by show _+1≤8322;omega)) λw6 h6=>?_
  refine Zh (Za ?_)
  refine Zb h6 0 rfl (Zah (by omega)) ?_
  rw[ZbC (by simp),hf.dm]
  simp only[List.length_cons]
  refine ZoJ (by omega) (by omega) ?_
  rw[show ((q.length+1:Nat):Int) - 1=(q.length:Int) from by omega]
  refine Zh (Za ?_)
  refine Zq h6 0 rfl (vs:=Yi [(q.length:Int)]) rfl rfl (by rw[Zdg];omega) (Zg _) (Zlg (by show _+1≤8322;omega)) λw7 h7=>?_
  refine hcut _ (Sat.swap (Yx.close (hD.upd hab.1 hab.2 hf.pop (by omega) λi hi=>?_) h7))
  rw[ZbC (by simp;omega),ZbC (by simp;omega)]
 ·refine Zo h5 0 (vs:=x.cs) rfl (by rfl) rfl ?_
  refine Zq h5 2 rfl (vs:=x.cs) rfl rfl (by decide) (Zg _) (cs':=x.cs) (by kernel_rfl) λw6 h6=>?_
  refine Zo h6 2 (vs:=x.cs) rfl (by rfl) rfl ?_
  exact hk _ (h6.selR [_,_,_] [_] [1] (by decide) rfl)
theorem ZqV {g:Nat} {n room:Int} {Q:Nat→Nat→List Zn} {a b:Int} (hS:Sat e w (Yx g n room Q::R)) (hk:∀w',Sat e w' (Yx g n room Q::R)→K (.int .i64 (if okL n a b then room - (Q a.toNat b.toNat).length else 0)) w') :
  Cl prog 57 #[.pointer (some ⟨g,0,none⟩),.int .i64 a,.int .i64 b] w K:=by
 refine ZhN ?_
 unfold Zi1
 by_cases ho:okL n a b
 ·rw[if_pos ho] at hk
  obtain ⟨a,rfl⟩:∃m:Nat,a=m:=⟨a.toNat,by have:=ho.1;omega⟩
  obtain ⟨b,rfl⟩:∃m:Nat,b=m:=⟨b.toNat,by have:=ho.2.1;omega⟩
  refine Zfl ho hS ?_
  refine ZtQ _ ?_
  obtain ⟨D,hD,h2⟩:=Yx.open hS
  have hn8:=hD.hn
  have hr16:=hD.hr
  have hab:a<8∧b<8:=by obtain ⟨o1,o2,o3,o4,o5⟩:=ho;omega
  obtain ⟨f,hf⟩:=hD.ring a b hab.1 hab.2
  have hlen:=hf.len
  have hoff:Zkq a b+130≤8322:=by unfold Zkq;omega
  refine Zi ?_
  refine ZaY h2 λw3 h3=>?_
  refine Zh (Za ?_)
  refine Zb h3 0 rfl (Zah (by omega)) ?_
  refine Zh (Za ?_)
  refine Zb h3 0 rfl (Zah (by omega)) ?_
  rw[show (0+1:Nat)=1 from rfl,hD.dr,hf.dm]
  refine ZoJ (by omega) (by omega) ?_
  exact hk _ (Yx.close hD h3)
 ·rw[if_neg ho] at hk
  refine ZlH ho hS ?_
  refine ZtL ?_
  refine Zf ?_
  exact hk _ hS
def fl {α:Type} (f:Nat→List α) (n:Nat):List α:=(List.range n).flatMap f
theorem ZjZ {α:Type} (f:Nat→List α) (n:Nat):fl f (n+1)=fl f n++f n:=by
 unfold fl
 rw[List.range_succ,List.flatMap_append]
 simp
theorem Zxe {α:Type} {l:List α} {x:α}:((l++[x]).length:Int)=l.length+1:=by simp
theorem Zop {α:Type} (f:Nat→List α):∀{n a:Nat},a<n→∃post,fl f n=fl f a++(f a++post)
 | 0,_,h=>by omega
 | n+1,a,h=>by
  rw[ZjZ]
  by_cases h1:a=n
  ·subst h1;exact ⟨[],by simp⟩
  ·obtain ⟨p,hp⟩:=Zop f (n:=n) (a:=a) (by omega)
   exact ⟨p++f n,by rw[hp];simp⟩
theorem Zux {α:Type} (f:Nat→List α) {c:Nat}:∀{n:Nat},(∀a,a<n→(f a).length≤c)→(fl f n).length≤n*c
 | 0,_=>by simp[fl]
 | n+1,h=>by
  rw[ZjZ,List.length_append,Nat.add_mul]
  have h1:=Zux f (c:=c) (n:=n) λa ha=>h a (by omega)
  have h2:=h n (by omega)
  omega
def ZrF (n:Nat) (Q:Nat→Nat→List Zn) (a:Nat):List Zn:=fl (Q a) n
def ZpJ (n:Nat) (Q:Nat→Nat→List Zn):List Zn:=fl (ZrF n Q) n
theorem Zpk.all_len {D:Nat→Int} {n:Nat} {room:Int} {Q:Nat→Nat→List Zn} (h:Zpk D n room Q):(ZpJ n Q).length≤1024:=by
 have hn:=h.hn
 have hr:=h.hr
 have h1:∀a,a<n→(ZrF n Q a).length≤n*16:=λa ha=>Zux (Q a) λb hb=>by
  have:=h.room a b (by omega) (by omega)
  omega
 have h2:=Zux (ZrF n Q) h1
 have h3:n≤8:=by omega
 have h4:n*(n*16)≤8*(8*16):=Nat.mul_le_mul h3 (Nat.mul_le_mul_right 16 h3)
 unfold ZpJ
 omega
theorem Zc3.subk {D:Nat→Int} {o:Nat} {q:List Zn} {f k:Nat} (h:Zc3 D o q f) {x:Zn} (hx:q[k]?=some x):((List.range 8).map λj=>D (o+(f+k) % 16*8+j))=x.ns:=by
 have h0:=h.item k x hx
 show [D (o+(f+k) % 16*8+0),D (o+(f+k) % 16*8+1),D (o+(f+k) % 16*8+2),D (o+(f+k) % 16*8+3),D (o+(f+k) % 16*8+4),D (o+(f+k) % 16*8+5),D (o+(f+k) % 16*8+6),D (o+(f+k) % 16*8+7)]=_
 rw[h0 0 (by omega),h0 1 (by omega),h0 2 (by omega),h0 3 (by omega),h0 4 (by omega),h0 5 (by omega),h0 6 (by omega),h0 7 (by omega)]
 rfl
abbrev ZxE (c g:Nat):HP:=blk c 55 [.pointer (some ⟨g,0,none⟩)]
theorem ZpK {g:Nat} (hS:Sat e w R) (hk:∀c w',Sat e w' (ZxE c g::R)→K (.func (.func 106) #[] #[.pointer (some ⟨c,0,none⟩)]) w'):Cl prog 74 #[.pointer (some ⟨g,0,none⟩)] w K:=by
 refine ZgQ ?_
 unfold Zg8
 refine Yp (cs:=[.pointer (some ⟨g,0,none⟩)]) hS rfl λc w1 h1=>?_
 exact hk _ _ h1
theorem Zn7 {g c:Nat} {n:Nat} {room:Int} {Q:Nat→Nat→List Zn} {yv:Value} {I:List Zn→List HP}
  (hy:∀(pre:List Zn) (x:Zn) (post:List Zn) (W:World) (K:KV),ZpJ n Q=pre++x::post→Sat e W (Yx g n room Q::ZxE c g::I pre)→
   (∀W',Sat e W' (Yx g n room Q::ZxE c g::I (pre++[x]))→K (.bool true) W')→clV prog yv #[.int .i64 pre.length,.agg x.cs.toArray] W K)
  (hS:Sat e w (Yx g n room Q::ZxE c g::I [])) (hk:∀w',Sat e w' (Yx g n room Q::ZxE c g::I (ZpJ n Q))→K (.tuple #[]) w') :
  Cl prog 106 #[yv,.pointer (some ⟨c,0,none⟩)] w K:=by
 refine Ze5 ?_
 unfold ZeK
 refine Zb hS 1 rfl rfl ?_
 refine Zh (Za ?_)
 obtain ⟨D,hD,h1⟩:=Yx.open hS
 have hn8:=hD.hn
 have hr16:=hD.hr
 have hall:=hD.all_len
 refine Zb h1 0 rfl (Zah (by omega)) ?_
 rw[hD.dn]
 clear h1
 refine ZjF (λm t3 t12 w=>∃a:Nat,a≤n∧t12=.int .i64 a∧t3=.int .i64 (fl (ZrF n Q) a).length∧m=n - a∧Sat e w (Yx g n room Q::ZxE c g::I (fl (ZrF n Q) a))) n ⟨0,Nat.zero_le _,rfl,rfl,rfl,hS⟩ ?_
 rintro m _ _ w g1 ⟨a,ha,rfl,rfl,rfl,h1⟩ hg1
 refine Za7 (λc1=>Zi ?_) (λc1=>Zf ?_)
 ·have c1:a<n:=by omega
  refine Zb h1 1 rfl rfl ?_
  refine Zh (Za ?_)
  obtain ⟨D1,hD1,h2⟩:=Yx.open h1
  refine Zb h2 0 rfl (Zah (by omega)) ?_
  rw[hD1.dn]
  clear h2
  refine ZjF (λm t3 t19 w=>∃b:Nat,b≤n∧t19=.int .i64 b∧t3=.int .i64 (fl (ZrF n Q) a++fl (Q a) b).length∧m=n - b∧Sat e w (Yx g n room Q::ZxE c g::I (fl (ZrF n Q) a++fl (Q a) b))) n
   ⟨0,Nat.zero_le _,rfl,by simp[fl],rfl,by simpa [fl] using h1⟩ ?_
  rintro m _ _ w g2 ⟨b,hb,rfl,rfl,rfl,h2⟩ hg2
  refine Za7 (λc2=>Zi ?_) (λc2=>Zf ?_)
  ·have c2:b<n:=by omega
   refine Zb h2 1 rfl rfl ?_
   refine Zh (Za ?_)
   refine Zcb (by omega) ?_
   refine Zcb (by omega) ?_
   rw[show 0+2+a*1040+b*130=Zkq a b from by unfold Zkq;omega]
   refine Zh (Za ?_)
   obtain ⟨D2,hD2,h3⟩:=Yx.open h2
   obtain ⟨f0,hf0⟩:=hD2.ring a b (by omega) (by omega)
   have hoff:Zkq a b+130≤8322:=by unfold Zkq;omega
   refine Zb h3 0 rfl (Zah (by omega)) ?_
   rw[hf0.dm]
   clear h3
   have hql:(Q a b).length≤16:=hf0.len
   obtain ⟨p1,hp1⟩:=Zop (ZrF n Q) c1
   obtain ⟨p2,hp2⟩:=Zop (Q a) c2
   have hp3:ZpJ n Q=(fl (ZrF n Q) a++fl (Q a) b)++(Q a b++(p2++p1)):=by
    show fl (ZrF n Q) n=_
    rw[hp1]
    show _++(fl (Q a) n++_)=_
    rw[hp2]
    simp
   refine ZjF (λm t3 t33 w=>∃k:Nat,k≤(Q a b).length∧t33=.int .i64 k∧t3=.int .i64 (fl (ZrF n Q) a++fl (Q a) b++(Q a b).take k).length∧m=(Q a b).length - k∧Sat e w (Yx g n room Q::ZxE c g::I (fl (ZrF n Q) a++fl (Q a) b++(Q a b).take k))) (Q a b).length
    ⟨0,Nat.zero_le _,rfl,by simp,rfl,by simpa using h2⟩ ?_
   rintro m _ _ w g3 ⟨k,hkl,rfl,rfl,rfl,h3⟩ hg3
   refine Za7 (λc3=>Zi ?_) (λc3=>Zf ?_)
   ·have c3:k<(Q a b).length:=by omega
    obtain ⟨x,hx⟩:=Zk (l:=Q a b) (j:=k) c3
    obtain ⟨D3,hD3,h4⟩:=Yx.open h3.drew
    obtain ⟨f,hf⟩:=hD3.ring a b (by omega) (by omega)
    have hf16:=hf.hf
    have hm:=Nat.mod_lt (f+k) (show 0<16 by omega)
    refine Zh (Za ?_)
    refine Zb h4 0 rfl (Zah (by omega)) ?_
    rw[hf.df]
    refine ZcD (by omega) (by omega) ?_
    refine Zwn (by decide) ?_
    rw[Int.tmod_eq_emod_of_nonneg (by omega),show ((f:Int)+(k:Int)) % 16=(((f+k) % 16:Nat):Int) from by omega]
    refine Zh (Za ?_)
    refine Zcb hm ?_
    refine Zo h4 0 (vs:=x.cs) rfl ?_ rfl ?_
    ·rw[Zsf (by omega),Nat.add_zero]
     exact congrArg Yi (hf.subk hx)
    have htk:(Q a b).take (k+1)=(Q a b).take k++[x]:=by
     rw[List.take_add_one,hx]
     rfl
    have hdr:(Q a b).drop k=x::(Q a b).drop (k+1):=by
     rw[List.drop_eq_getElem_cons c3]
     congr 1
     have:=List.getElem?_eq_getElem c3
     rw[this] at hx
     exact Option.some.inj hx
    refine hy (fl (ZrF n Q) a++fl (Q a) b++(Q a b).take k) x ((Q a b).drop (k+1)++(p2++p1)) _ _ ?_ (Yx.close hD3 h4) λW' h5=>?_
    ·rw[hp3,List.append_assoc _ ((Q a b).take k),←List.cons_append,←hdr,←List.append_assoc ((Q a b).take k),List.take_append_drop]
    ·refine ZaJ (Zf ?_)
     have hlen:(fl (ZrF n Q) a++fl (Q a) b++(Q a b).take k).length≤1024:=by
      refine Nat.le_trans ?_ hall
      rw[hp3]
      simp only[List.length_append,List.length_take]
      omega
     refine ZcD (by omega) (by omega) ?_
     refine ZcD (by omega) (by omega) ?_
     refine hg3 _ _ _ _ (by omega) ⟨k+1,by omega,rfl,?_,rfl,?_⟩
     ·rw[htk,←List.append_assoc,Zxe]
     ·rw[htk,←List.append_assoc]
      exact h5
   ·have e1:k=(Q a b).length:=by omega
    subst e1
    rw[List.take_length] at h3 ⊢
    refine ZcD (by omega) (by omega) ?_
    refine hg2 _ _ _ _ (by omega) ⟨b+1,by omega,rfl,?_,rfl,?_⟩
    ·rw[ZjZ,←List.append_assoc]
    ·rw[ZjZ,←List.append_assoc]
     exact h3
  ·have e1:b=n:=by omega
   subst e1
   refine ZcD (by omega) (by omega) ?_
   refine hg1 _ _ _ _ (by omega) ⟨a+1,by omega,rfl,?_,rfl,?_⟩
   ·rw[ZjZ];rfl
   ·rw[ZjZ];exact h2
 ·have e1:a=n:=by omega
  subst e1
  exact hk _ h1
def Zpr (colour:Int) (l:List Zn):Nat:=l.countP λx=>decide (x.Kind≠2)&&decide (x.Colour=colour)
theorem Zmg (colour:Int) (l:List Zn) (x:Zn):Zpr colour (l++[x])=Zpr colour l+if x.Kind≠2∧x.Colour=colour then 1 else 0:=by
 unfold Zpr
 rw[List.countP_append]
 simp[List.countP_singleton]
theorem ZqW (colour:Int) (l:List Zn):Zpr colour l≤l.length:=List.countP_le_length
theorem ZF3 {a b u:Value}:(#[a,b]:Array Value).getD 1 u=b:=rfl
theorem Zg9 {g:Nat} {n:Nat} {room colour:Int} {Q:Nat→Nat→List Zn} (hS:Sat e w (Yx g n room Q::R)) (hk:∀w',Sat e w' (Yx g n room Q::R)→K (.int .i64 (Zpr colour (ZpJ n Q))) w') :
  Cl prog 36 #[.pointer (some ⟨g,0,none⟩),.int .i64 colour] w K:=by
 refine ZeT ?_
 unfold Zez
 obtain ⟨D,hD,_⟩:=Yx.open hS
 have hall:=hD.all_len
 refine Yp (cs:=[.int .i64 colour]) hS rfl λp w0 h0=>?_
 rw[Zr6]
 refine Yp (cs:=[.int .i64 0]) h0 rfl λc w1 h1=>?_
 refine Zq h1 0 rfl (vs:=Yi [0]) rfl rfl (by decide) (Zg _) (cs':=[.int .i64 0]) (by kernel_rfl) λw2 h2=>?_
 refine ZpK h2 λd w3 h3=>?_
 refine ZHL rfl (by kernel_rfl) h3 λl E LR w4 Kf rule fin h4=>?_
 refine Zn7 (I:=λpre=>lpC LR l .ready::dfC E::blk c 3 [.int .i64 (Zpr colour pre)]::blk p 3 [.int .i64 colour]::R) (λpre x post W K heq hW hK=>?_) (h4.selR [_,_,_,_,_,_] [_,_,_,_,_,_] [5,2,0,1,3,4] (by decide) rfl) λw5 h5=>?_
 ·refine rule (hW.pick 2 rfl) rfl ?_
  have hl:Zpr colour pre≤1024:=by
   refine Nat.le_trans (ZqW _ _) (Nat.le_trans ?_ hall)
   rw[heq]
   simp
  simp only[ZF3]
  rw[ZTH]
  refine Yp (cs:=Zn.zero.cs) hW rfl λt w5 h5=>?_
  refine Zq h5 0 rfl (vs:=x.cs) rfl rfl (by decide) (Zg _) (cs':=x.cs) (by kernel_rfl) λw6 h6=>?_
  refine ZB7 (h6.pick 3 rfl) λw7 h7=>?_
  refine Za ?_
  refine Zb h7 1 rfl (v:=.int .i64 x.Kind) rfl ?_
  refine ZrP (λc1=>?_) (λc1=>?_)
  ·refine Ze (Za (Ze ?_))
   refine Zb h7 1 rfl (v:=.int .i64 x.Colour) rfl ?_
   refine Ze (Zb h7 6 rfl rfl ?_)
   refine Ze (ZoR (λc2=>?_) (λc2=>?_))
   ·refine Yv (Zi ?_)
    refine Zb h7 5 rfl rfl ?_
    refine ZcD (by omega) (by omega) ?_
    refine Zq h7 5 rfl (vs:=Yi [(Zpr colour pre:Int)+1]) rfl rfl (by simp) (Zg _) (cs':=[.int .i64 ((Zpr colour pre:Int)+1)]) (by rfl) λw8 h8=>?_
    refine ZwR h8 λw9 h9=>?_
    refine hK _ ?_
    rw[Zmg,if_pos ⟨c1,c2⟩]
    exact h9.selR [_,_,_,_,_,_,_] [_,_,_,_,_,_] [2,3,0,4,5,6] (by decide) rfl
   ·refine Yv (Zf ?_)
    refine ZwR h7 λw9 h9=>?_
    refine hK _ ?_
    rw[Zmg,if_neg λh=>c2 h.2]
    exact h9.selR [_,_,_,_,_,_,_] [_,_,_,_,_,_] [2,3,0,4,5,6] (by decide) rfl
  ·refine Zd (Zd (Zd (Zd (Yd (Zf ?_)))))
   refine ZwR h7 λw9 h9=>?_
   refine hK _ ?_
   rw[Zmg,if_neg λh=>h.1 c1]
   exact h9.selR [_,_,_,_,_,_,_] [_,_,_,_,_,_] [2,3,0,4,5,6] (by decide) rfl
 ·refine fin (h5.pick 2 rfl) λw6 h6=>?_
  refine Zb h6 3 rfl rfl ?_
  refine Zvn (h6.pick 2 rfl) λw7 h7=>?_
  exact hk _ (h7.selR [_,_,_,_] [_] [0] (by decide) rfl)
def ZwN (c:Nat) (l:List Int):HP:=hex λv:Value=>Yh [blk c 22 [v],Zz 3 1 (Ye .i64) v l]
theorem ZwN.open {c:Nat} {l:List Int} (hS:Sat e w (ZwN c l::R)):∃v,Sat e w (blk c 22 [v]::Zz 3 1 (Ye .i64) v l::R):=by
 obtain ⟨v,h0⟩:=hS.ex
 exact ⟨v,h0.split⟩
theorem ZwN.close {c:Nat} {l:List Int} {v:Value} (hS:Sat e w (blk c 22 [v]::Zz 3 1 (Ye .i64) v l::R)):Sat e w (ZwN c l::R):=.mk_ex v (.join (l':=[_,_]) hS)
variable {L Q:List HP} {S S2:HP}
def one (v:Value):List Value:=[v]
structure KM where
 nv:Value
 bv:Value
 g:Nat
 c:Nat
 ms:Nat→Nat × Nat
 vs:Nat→Value
abbrev pt (n:Nat):Value:=.pointer (some ⟨n,0,none⟩)
def ndV:Nd→Nat × Nat→Value
 | .slow _,m=>.iface 67 (.agg #[pt m.1])
 | .bold _ _ _,m=>.iface 71 (pt m.2)
abbrev ZfN (m:Nat × Nat) (r:Nat) (t:Int):HP:=blk m.2 73 [pt m.1,.int .i64 (r:Int),.int .i64 t]
def ndH (wd:Wd) (k f:Nat):Nd→Nat × Nat→HP
 | .slow N,m=>Zbu m.1 wd f N k
 | .bold N r t,m=>Yh [ZfN m r t,Ya m.1 wd f (Zs wd f) N k]
def ZG0:Option CL→Nat→Value
 | none,_=>.pointer none
 | some _,g=>pt g
def Zcg (m:Nat) (c:CL):Zan:=⟨m,c.begun,c.over,λi=>c.T.getD i 0,λi=>c.Rp.getD i 0,c.on0,c.on1,c.least,c.value⟩
def ZBC (m:Nat):Option CL→Nat→HP
 | none,_=>pur True
 | some c,g=>ZbI g (Zcg m c)
def kcs (wd:Wd) (k:KS) (M:KM):List Value:=[.int .i64 wd.End,M.nv,M.bv,pt M.g,ZG0 k.cut M.c]
abbrev Zat (wd:Wd) (n:Nat) (k:KS) (M:KM):List HP:=(List.range wd.Feds.length).map λf=>ndH wd n f (k.node f) (M.ms f)
abbrev Zar (wd:Wd) (k:KS) (M:KM):List HP:=(List.range wd.Feds.length).map λf=>DI (M.vs f) (k.box f)
abbrev Zju (wd:Wd) (k:KS) (M:KM):List Value:=(List.range wd.Feds.length).map λf=>ndV (k.node f) (M.ms f)
abbrev Zg7 (wd:Wd) (M:KM):List Value:=(List.range wd.Feds.length).map M.vs
abbrev BK (p:Nat) (wd:Wd) (k:KS) (M:KM):HP:=blk p 62 (kcs wd k M)
abbrev NK (wd:Wd) (k:KS) (M:KM):HP:=Zz 95 1 one M.nv (Zju wd k M)
abbrev XK (wd:Wd) (M:KM):HP:=Zz 50 1 one M.bv (Zg7 wd M)
abbrev GK (wd:Wd) (k:KS) (M:KM):HP:=Yx M.g wd.Feds.length k.room (λa b=>k.q a b)
abbrev CK (wd:Wd) (k:KS) (M:KM):HP:=ZBC (Zai wd) k.cut M.c
abbrev KP (p:Nat) (wd:Wd) (n:Nat) (k:KS) (M:KM):List HP:=[Yh (Zat wd n k M),Yh (Zar wd k M),BK p wd k M,NK wd k M,XK wd M,GK wd k M,CK wd k M]
def Zby (p:Nat) (wd:Wd) (k:KS) (n s:Nat):HP:=hex λM:KM=>Yh (pur (Ze1 wd k s)::KP p wd n k M)
theorem ZpC {p n s:Nat} {k:KS} (h:Sat e w (Zby p wd k n s::Q)):∃M,Ze1 wd k s∧Sat e w (KP p wd n k M++Q):=by
 obtain ⟨M,h0⟩:=h.ex
 exact ⟨M,Sat.pure h0.split⟩
theorem ZkQ {p n s:Nat} {k:KS} {M:KM} (hk:Ze1 wd k s) (h:Sat e w (KP p wd n k M++Q)):Sat e w (Zby p wd k n s::Q):=
 .mk_ex M (.join (l':=pur (Ze1 wd k s)::KP p wd n k M) (.mk_pure hk h))
theorem ZcQ {α:Type} {n f:Nat} {F F':Nat→α} (h:∀j,j<n→j≠f→F' j=F j) {x:α} (hx:f<n→x=F' f):((List.range n).map F).set f x=(List.range n).map F':=by
 apply List.ext_getElem?
 intro j
 rw[List.getElem?_set,List.length_map,List.length_range,List.getElem?_map,List.getElem?_map]
 by_cases hj:j<n
 ·rw[List.getElem?_range hj]
  by_cases hf:f=j
  ·subst hf
   rw[if_pos rfl,if_pos hj,hx hj]
   rfl
  ·rw[if_neg hf]
   show some (F j)=some (F' j)
   rw[h j hj λh=>hf h.symm]
 ·rw[List.getElem?_eq_none (by rw[List.length_range];omega)]
  split
  ·rw[if_neg (by omega)];rfl
  ·rfl
theorem Yk {α:Type} {n f:Nat} {F:Nat→α} (h:f<n):((List.range n).map F)[f]?=some (F f):=by rw[List.getElem?_map,List.getElem?_range h];rfl
variable {M:KM} {p n:Nat}
theorem Zcy (hl:k.nodes.length=wd.Feds.length) (N:Nd):(Zat wd n k M).set f (ndH wd n f N (M.ms f))=Zat wd n (k.setN f N) M:=
 ZcQ (λj _ hne=>by rw[ZaK,if_neg λh=>hne h.1.symm]) λhf=>by rw[ZaK,if_pos ⟨rfl,by omega⟩]
theorem Zpe (hl:k.boxes.length=wd.Feds.length) (v:Value) (l:List Zn):(Zar wd k M).set f (DI v l)=Zar wd { k with boxes:=k.boxes.set f l } { M with vs:=λj=>if j=f then v else M.vs j }:=
 ZcQ (λj _ hne=>by
  show DI (if j=f then v else M.vs j) ((k.boxes.set f l).getD j [])=_
  rw[if_neg hne,ZaX,if_neg λh=>hne h.1.symm]
  rfl) λhf=>by
  show _=DI (if f=f then v else M.vs f) ((k.boxes.set f l).getD f [])
  rw[if_pos rfl,ZaX,if_pos ⟨rfl,by omega⟩]
theorem Zf9 {N:Nd} (hv:f<wd.Feds.length→ndV N (M.ms f)=ndV (k.node f) (M.ms f)):Zju wd (k.setN f N) M=Zju wd k M:=by
 refine List.map_congr_left λj hj=>?_
 have hj:=List.mem_range.1 hj
 rw[ZaK]
 split
 ·rename_i h
  obtain ⟨rfl,_⟩:=h
  exact hv hj
 ·rfl
theorem ZvB (hl:k.net.length=wd.Feds.length) (hr:∀a,a<wd.Feds.length→(k.net.getD a []).length=wd.Feds.length) {a b:Nat} (ha:a<wd.Feds.length) (hb:b<wd.Feds.length) (l:List Zn) :
  ZvY (λa b=>k.q a b) a b l=λc d=>(k.setQ a b l).q c d:=by
 funext c d
 rw[Zy1]
 unfold ZvY
 by_cases h:a=c∧b=d
 ·rw[if_pos ⟨h.1.symm,h.2.symm⟩,if_pos ⟨h.1,h.2,by omega,by rw[hr a ha];exact hb⟩]
 ·rw[if_neg (λh'=>h ⟨h'.1.symm,h'.2.symm⟩),if_neg (λh'=>h ⟨h'.1,h'.2.1⟩)]
theorem Zdx {j:Int} (hS:Sat e w (KP p wd n k M++Q)) (hk:K (.bool (decide (0≤j∧j<wd.Feds.length))) w):Cl prog 25 #[pt p,.int .i64 j] w K:=by
 refine ZhU ?_
 unfold Zip
 refine Zu5 (λc1=>?_) (λc1=>?_)
 ·refine Ze (Ze (Ze (Zh (Ze (Za (Ze ?_))))))
  refine Zb hS 2 rfl (v:=M.nv) rfl ?_
  refine Ze (Zt hS 3 rfl (λ_=>Zp) ?_)
  rw[List.length_map,List.length_range]
  refine Ze (ZwL ?_)
  refine Yv ?_
  rw[show decide (0≤j∧j<(wd.Feds.length:Int))=decide (j<(wd.Feds.length:Int)) from by simp[c1]] at hk
  exact hk
 ·refine Zu (Zu (Zd (Zd (Zd (Zd (Zd (Yd ?_)))))))
  rw[show decide (0≤j∧j<(wd.Feds.length:Int))=false from by simp;omega] at hk
  exact hk
theorem Zml (hf:f<wd.Feds.length) (hS:Sat e w (KP p wd n k M++Q)) (hk:K (ndV (k.node f) (M.ms f)) w) :
  ld1 (.pointer (some ⟨p,0+1,none⟩)) w λt w=>ixS 1 t (.int .i64 (f:Int)) w λt w=>ld1 t w K:=by
 refine Zb hS 2 rfl (v:=M.nv) rfl ?_
 exact Zw hS 3 rfl (λ_=>Zp) (λ_=>rfl) (Yk hf) λa ha=>Yt hS 3 rfl ha (v:=ndV (k.node f) (M.ms f)) rfl hk
theorem Zjt (hf:f<wd.Feds.length) (hS:Sat e w (KP p wd n k M++Q)) (hk:K (M.vs f) w) :
  ld1 (.pointer (some ⟨p,0+2,none⟩)) w λt w=>ixS 1 t (.int .i64 (f:Int)) w λt w=>ld1 t w K:=by
 refine Zb hS 2 rfl (v:=M.bv) rfl ?_
 exact Zw hS 4 rfl (λ_=>Zp) (λ_=>rfl) (Yk hf) λa ha=>Yt hS 4 rfl ha (v:=M.vs f) rfl hk
theorem ZwE {v:Value} (hk:K (.tuple #[.pointer none,.bool false]) w):tyA prog (.iface 67 v) 95 71 true w K:=Yn (by rfl) hk
theorem Zwg {v:Value} (hk:K (.tuple #[v,.bool true]) w):tyA prog (.iface 71 v) 95 71 true w K:=Yn (by rfl) hk
def Zum:Nd→Nat × Nat→Value
 | .slow _,_=>.pointer none
 | .bold _ _ _,m=>pt m.2
theorem ZbX (hf:f<wd.Feds.length) (hS:Sat e w (KP p wd n k M++Q)) (hk:K (Zum (k.node f) (M.ms f)) w):Cl prog 31 #[pt p,.int .i64 (f:Int)] w K:=by
 refine Zfq ?_
 unfold Zfp
 refine Zh (Za (Zml hf hS ?_))
 cases hn:k.node f with
 | slow N=>
  rw[hn] at hk
  exact ZwE (Zal (Zam (Zf hk)))
 | bold N r t=>
  rw[hn] at hk
  exact Zwg (Zal (Zam (Zi hk)))
theorem Zir {N:Nd} {m:Nat × Nat} (h:N.isBold=false):Zum N m=.pointer none:=by
 cases N with
 | slow _=>rfl
 | bold _ _ _=>cases h
theorem Zli {N:Nd} {m:Nat × Nat} (h:N.isBold=true):Zum N m=pt m.2:=by
 cases N with
 | slow _=>cases h
 | bold _ _ _=>rfl
theorem ZdQ {v:Value} {l:List Zn} (hf:f<wd.Feds.length) (hl:k.boxes.length=wd.Feds.length) (hb:(k.box f).length≤100000000000) (hm:l.length≤1000000) (hS:Sat e w (KP p wd n k M++S::Q)) (hr:∀g,S g→rdS 8 Zn.cs v l g)
  (hk:∀M' w',M'.ms=M.ms→Sat e w' (KP p wd n (k.put f l) M'++S::Q)→K (.tuple #[]) w'):Cl prog 22 #[pt p,.int .i64 (f:Int),v] w K:=by
 refine Zgq ?_
 unfold ZgU
 refine ZaY hS λw1 h1=>?_
 refine Zh (Za (Zb h1 2 rfl (v:=M.bv) rfl ?_))
 refine Zh (Za (Zjt hf h1 ?_))
 have h2:Sat e w1 (Yh (Zar wd k M)::([Yh (Zat wd n k M),BK p wd k M,NK wd k M,XK wd M,GK wd k M,CK wd k M,S]++Q)):=h1.selR [_,_,_,_,_,_,_,_] [_,_,_,_,_,_,_,_] [1,0,2,3,4,5,6,7] (by decide) rfl
 have h3:=h2.focus f (Yk hf)
 refine Zeo ZRB ZRB.und (f:=Zn.cs) (l:=k.box f) (m:=l) (λ_=>rfl) (λ_=>Zg _) (h3.selR [_,_,_,_,_,_,_,_,_] [_,_,_,_,_,_,_,_,_] [0,8,1,2,3,4,5,6,7] (by decide) rfl) hr (by omega) λv' w4 h4=>?_
 have q1:=h4.own_cells 0 rfl
 refine ⟨Zb h4 4 rfl (v:=M.bv) rfl ⟨rfl,rfl⟩,?_⟩
 refine ZdJ h4 6 rfl (λ_=>rfl) (by rw[List.length_map,List.length_range];exact hf) (x:=v') q1.1 (λc hc=>by rw[List.mem_singleton.1 hc];exact q1.2) λw5 h5=>?_
 have h6:Sat e w5 (DI v' (k.box f++l)::Yh ((Zar wd k M).eraseIdx f)::([Yh (Zat wd n k M),BK p wd k M,NK wd k M,Zz 50 1 one M.bv ((Zg7 wd M).set f v'),GK wd k M,CK wd k M,S]++Q)):=h5.selR [_,_,_,_,_,_,_,_,_] [_,_,_,_,_,_,_,_,_] [0,2,3,4,5,6,7,8,1] (by decide) rfl
 have h7:=Sat.unfocus f (Yk hf) h6
 rw[Zpe hl] at h7
 rw[show (Zg7 wd M).set f v'=Zg7 wd { M with vs:=λj=>if j=f then v' else M.vs j } from ZcQ (λj _ hne=>if_neg hne) (λ_=>(if_pos rfl).symm)] at h7
 exact hk { M with vs:=λj=>if j=f then v' else M.vs j } _ rfl (h7.selR [_,_,_,_,_,_,_,_] [_,_,_,_,_,_,_,_] [1,0,2,3,4,5,6,7] (by decide) rfl)
theorem Zev {v:Value} {l:List Msg} (i:Nat) (hi:L[i]?=some S) (hS:Sat e w L) (hr:∀g,S g→rdS 6 Msg.cs v l g) (hl:l.length≤1000000) (hk:∀v' w',Sat e w' (DI v' (l.map Zae)::L)→K v' w'):Cl prog 73 #[v] w K:=by
 refine Zlt ?_
 unfold Zpz
 rw[ZTr]
 refine Zt hS i hi hr ?_
 refine ZjF (λq t3 t8 w=>∃j:Nat,j≤l.length∧t8=.int .i64 j∧q=l.length - j∧Sat e w (DI t3 ((l.take j).map Zae)::L)) l.length ⟨0,Nat.zero_le _,rfl,rfl,hS.own_nil 84 8 Zn.cs⟩ ?_
 rintro q t3 _ w g1 ⟨j,hj,rfl,rfl,h1⟩ hg
 refine Za7 (λc=>Zi ?_) (λc=>Zf ?_)
 ·obtain ⟨o,ho⟩:=Zk (l:=l) (j:=j) (by omega)
  have hi1:(DI t3 ((l.take j).map Zae)::L)[i+1]?=some S:=by simpa using hi
  refine Zw h1 (i+1) hi1 hr (λ_=>rfl) ho λa ha=>Ym h1 (i+1) hi1 ha rfl ?_
  refine Yp (cs:=Msg.zero.cs) h1 rfl λt5 w2 h2=>?_
  refine Zq h2 0 rfl (vs:=o.cs) rfl rfl (by decide) (Zg _) (cs':=o.cs) (by rfl) λw3 h3=>?_
  refine Zo h3 0 (vs:=o.cs) rfl (by rfl) rfl ?_
  refine Zaf (Zae o).cs (by kernel_rfl) ?_
  refine Zj7 ZRB (f:=Zn.cs) (λ_=>rfl) (λ_=>Zg _) h3.drop (x:=Zae o) rfl (by rw[List.length_map,List.length_take];omega) λv' w4 h4=>?_
  refine Yr (by omega) ?_
  refine hg _ _ _ _ (by omega) ⟨j+1,by omega,rfl,rfl,?_⟩
  rw[Zx ho,List.map_append]
  exact h4
 ·have ej:j=l.length:=by omega
  rw[ej,List.take_length] at h1
  exact hk _ _ h1
theorem Zm0 {t:TypeId} {v rcv:Value} {name:String} {f:FuncId} {args:Array Value} (hm:(Go.method (prog.types.size+Made.depth) t v name).run prog w=.ok (f,rcv) w) (h:Cl prog f (#[rcv]++args) w K):clI prog (.iface t v) name args w K:=Zrj hm h
abbrev sl (m:Nat):Value:=.agg #[pt m]
theorem ZqH {m:Nat}:(Go.method (prog.types.size+Made.depth) 67 (sl m) "paceline/fed.hear").run prog w=.ok (195,sl m) w:=by kernel_rfl
theorem Zrg {m:Nat}:(Go.method (prog.types.size+Made.depth) 67 (sl m) "paceline/fed.step").run prog w=.ok (196,sl m) w:=by kernel_rfl
theorem Zqx {m:Nat}:(Go.method (prog.types.size+Made.depth) 67 (sl m) "paceline/fed.tell").run prog w=.ok (197,sl m) w:=by kernel_rfl
theorem Zth {m:Nat}:(Go.method (prog.types.size+Made.depth) 67 (sl m) "Log").run prog w=.ok (170,pt m) w:=by kernel_rfl
theorem ZqL {m:Nat}:(Go.method (prog.types.size+Made.depth) 71 (pt m) "paceline/fed.hear").run prog w=.ok (219,pt m) w:=by kernel_rfl
theorem ZqJ {m:Nat}:(Go.method (prog.types.size+Made.depth) 71 (pt m) "paceline/fed.step").run prog w=.ok (220,pt m) w:=by kernel_rfl
theorem Zq5 {m:Nat}:(Go.method (prog.types.size+Made.depth) 71 (pt m) "paceline/fed.tell").run prog w=.ok (221,pt m) w:=by kernel_rfl
theorem ZAd {t el:TypeId} {a:Addr} {name:String} {f:FuncId} {n:Nat} {inf nf:TypeInfo} {v:Value} {s:FieldStep} {fs:Array Field} {fd:Field} (hi:prog.info? t=some inf)
  (hmm:(inf.methods.find? (·.name==name)).map (λm=>(m.path,m.func))=some (#[s],some (f,true))) (hs:prog.underlying s.struct=some (.struct fs)) (hd:s.deref=true) (hfd:fs[s.index]?=some fd) (hn:prog.info? fd.type=some nf) (hz:nf.size≠0) (hu:prog.underlying fd.type=some (.pointer el))
  (hl:(loadVar fd.type (a.add fd.offset)).run prog w=.ok v w):(Go.method (n+1) t (.pointer (some a)) name).run prog w=.ok (f,v) w:=by
 obtain ⟨m,hm,hpf⟩:=Option.map_eq_some_iff.1 hmm
 have hp:m.path=#[s]:=congrArg Prod.fst hpf
 have hf:m.func=some (f,true):=congrArg Prod.snd hpf
 unfold Go.method
 simp only[Sem.run_bind,ZnL hi,Result.andThen_ok,hm,hp,hf,follow,Sem.run_pure,Yb hs,hfd,hd,if_true,Place.get,asAddr,fieldPlace,Zcj hn,if_neg hz,receiverAt,Yb hu,hl]
theorem Zxa {t:TypeId} {a:Addr} {name:String} {f:FuncId} {n:Nat} {inf nf:TypeInfo} {v:Value} {s1 s2:FieldStep} {fs gs hs:Array Field} {fd gd:Field} {cs:Array Value} {d:TypeDesc} (hi:prog.info? t=some inf)
  (hmm:(inf.methods.find? (·.name==name)).map (λm=>(m.path,m.func))=some (#[s1,s2],some (f,false))) (h1:prog.underlying s1.struct=some (.struct fs)) (hd1:s1.deref=false) (hfd:fs[s1.index]?=some fd) (hu:prog.underlying fd.type=some d) (hda:ZeC d=false) (hc:cs[fd.offset]?=some (.pointer (some a)))
  (h2:prog.underlying s2.struct=some (.struct gs)) (hd2:s2.deref=true) (hgd:gs[s2.index]?=some gd) (hn:prog.info? gd.type=some nf) (hz:nf.size≠0) (hu2:prog.underlying gd.type=some (.struct hs))
  (hl:(loadVar gd.type (a.add gd.offset)).run prog w=.ok v w):(Go.method (n+1) t (.agg cs) name).run prog w=.ok (f,v) w:=by
 obtain ⟨m,hm,hpf⟩:=Option.map_eq_some_iff.1 hmm
 have hp:m.path=#[s1,s2]:=congrArg Prod.fst hpf
 have hf:m.func=some (f,false):=congrArg Prod.snd hpf
 unfold Go.method
 simp only[Sem.run_bind,ZnL hi,Result.andThen_ok,hm,hp,hf,follow,Sem.run_pure,Yb h1,Yb h2,hfd,hgd,hd1,hd2,if_true,Bool.false_eq_true,if_false,Place.get,asAddr,fieldPlace,Zcj hn,if_neg hz,receiverAt,Yb hu2,part,Zfh hu,hda,hc,hl]
theorem ZqB {m q:Nat} (h:(loadVar 126 ⟨m,1,none⟩).run prog w=.ok (.agg #[pt q]) w):(Go.method (prog.types.size+Made.depth) 67 (sl m) "Waiting").run prog w=.ok (171,.agg #[pt q]) w:=
 Zxa (s1:=⟨67,0,false⟩) (s2:=⟨129,1,true⟩) (inf:=Tryz.t67) (nf:=Tryz.t126) (by kernel_rfl) (by kernel_rfl) Tryz.underlying67 rfl rfl Tryz.underlying63 rfl rfl Tryz.underlying129 rfl rfl (by kernel_rfl) (by decide) Tryz.underlying126 h
theorem Zx2 {m v:Nat} {name:String} {f:FuncId} (hm:(Tryz.t71.methods.find? (·.name==name)).map (λm=>(m.path,m.func))=some (#[⟨73,0,true⟩],some (f,true))) (h:(loadVar 68 ⟨m,0,none⟩).run prog w=.ok (pt v) w):(Go.method (prog.types.size+Made.depth) 71 (pt m) name).run prog w=.ok (f,pt v) w:=
 ZAd (s:=⟨73,0,true⟩) (inf:=Tryz.t71) (nf:=Tryz.t68) (by kernel_rfl) hm Tryz.underlying73 rfl rfl (by kernel_rfl) (by decide) Tryz.underlying68 h
theorem ZxP {t:TypeId} {a:Addr} {v:Value} (h:ldT prog t (.pointer (some a)) w λv' w'=>v'=v∧w'=w):(loadVar t a).run prog w=.ok v w:=by
 obtain ⟨b,u,h1,h2,h3,_⟩:=ZuC h
 injection h1 with h1
 injection h1 with h1
 subst h1 h3
 exact h2
def Nd.step (wd:Wd) (a:Nat):Nd→Int × List Zn × Nd
 | .slow N=>if Zh8 wd N then (0,(Zo7 wd a (Zs wd a) N).map Zae,.slow (Zmn (Zs wd a) N)) else (150,[],.slow N)
 | .bold N r t=>if Zcl wd a (Zs wd a) N=0 then (0,ZqQ wd (Zin wd a (Zs wd a) N),.bold (Zcv N) r t) else (Zcl wd a (Zs wd a) N,[],.bold N r t)
def Nd.hear (wd:Wd) (b:Nat) (a:Nat) (i:Zn):Nd→Int × List Zn × Nd
 | .slow N=>(hearE N a i,[],.slow (Zd0 N a i))
 | .bold N rk t=>((ZbE wd b (Zs wd b) N a i).e,(ZbE wd b (Zs wd b) N a i).out,.bold (ZbE wd b (Zs wd b) N a i).N rk t)
def Nd.tell (wd:Wd) (a:Nat):Nd→Option Int × Nd
 | .slow N=>if N.clk.tellB (Zcd N) (Zs wd a).Look then (some (N.clk.tellT (Zcd N) (Zs wd a).Look),.slow (ZiG (Zs wd a) N)) else (none,.slow N)
 | .bold N r t=>if Za6 (Zs wd a) N≤t then (none,.bold N r t) else (some (Za6 (Zs wd a) N),.bold N r (Za6 (Zs wd a) N))
def Nd.st (wd:Wd) (a:Nat):Nd→Int
 | .slow N=>N.st
 | .bold N _ _=>(N.now (Zs wd a)).1
def Nd.q:Nd→List Msg
 | .slow N=>N.q
 | .bold N _ _=>N.q
theorem NOk.mono {f k k':Nat} {N:ND} (h:NOk wd f N k) (hk:k≤k'):NOk wd f N k':=⟨h.may,h.hf,h.len,h.self,⟨h.sent.1,by have:=h.sent.2;omega⟩,Nat.le_trans h.log hk⟩
theorem Zk8.mono {X:WdX} {f k k':Nat} {fd:Fed} {N:WN} {m:List (Int × Int)} (h:Zk8 X wd f fd N k m) (hk:k≤k'):Zk8 X wd f fd N k' m:=⟨h.eq,h.short,h.ok.mono hk,h.map⟩
theorem ZnT {k k' f:Nat} {N:Nd} {m:Nat × Nat} (hk:k≤k'):∀g,ndH wd k f N m g→ndH wd k' f N m g:=by
 intro g h
 cases N with
 | slow N=>
  obtain ⟨p,hp⟩:=h
  exact ⟨p,ZcB.head_imp hp λ_ h=>⟨h.1,h.2.1,h.2.2.mono hk⟩⟩
 | bold N r t=>
  have h':ZcB [Ya m.1 wd f (Zs wd f) N k,ZfN m r t] g:=ZcB.swap (show ZcB [ZfN m r t,Ya m.1 wd f (Zs wd f) N k] g from h)
  have h2:ZcB [Ya m.1 wd f (Zs wd f) N k',ZfN m r t] g:=h'.head_imp λ_ ⟨p,hp⟩=>⟨p,ZcB.head_imp hp λ_ h=>Zk8.mono h hk⟩
  exact h2.swap
theorem Zfo {α:Type} {F F':α→HP} (h:∀x g,F x g→F' x g):∀(l:List α) (g:Hp),Yh (l.map F) g→Yh (l.map F') g
 | [],_,_=>trivial
 | x::l,_,⟨h1,h2,d,s1,s2,p,r⟩=>⟨h1,h2,d,s1,s2,h x _ p,Zfo h l h2 r⟩
variable {k:Nat} {N:Nd} {m:Nat × Nat}
theorem Ziz (h:Sat e w Q):Sat e w (DI (.slice none 0 0) []::Q):=h.own_nil 84 8 Zn.cs
theorem ZxZ:∀g,pur True g→rdS 6 Msg.cs (.slice none 0 0) ([]:List Msg) g:=λ_ _=>⟨_,0,rfl,Nat.le_refl _,λh=>absurd h (by decide)⟩
theorem Zvj (hk0:k≤1000) (hf:f<wd.Feds.length) (hS:Sat e w (ndH wd k f N m::Q)) (hk:∀v w',Sat e w' (DI v (N.step wd f).2.1::ndH wd (k+1) f (N.step wd f).2.2 m::Q)→K (.tuple #[v,.int .i64 (N.step wd f).1]) w') :
  clI prog (ndV N m) "paceline/fed.step" #[] w K:=by
 cases N with
 | slow N=>
  refine Zm0 Zrg ?_
  refine Zhr (t0:=sl m.1) ?_
  unfold Zif
  refine Yp (cs:=[pt m.1]) hS rfl λb w1 h1=>?_
  refine Za (Zb h1 0 rfl (v:=pt m.1) rfl ?_)
  have h2:Sat e w1 (Zbu m.1 wd f N k::blk b 67 [pt m.1]::Q):=h1.swap
  rw[ZTC]
  refine Zrz hk0 (ZaN hf) h2 (λhs w3 h3=>?_) (λhs v w3 h3=>?_)
  ·refine Zok (Zow (ZoK ?_))
   refine Yp (cs:=Zak.zero.cs) h3 rfl λt4 w4 h4=>?_
   refine Zq h4 0 rfl (vs:=Zak.zero.cs) rfl rfl (by decide) (Zg _) (cs':=Zak.zero.cs) (by kernel_rfl) λw5 h5=>?_
   refine Zev (l:=[]) 0 rfl (h5.mk_pure trivial) ZxZ (by decide) λv' w6 h6=>?_
   have hst:Nd.step wd f (.slow N)=(150,[],.slow N):=if_neg (by rw[hs];decide)
   rw[hst] at hk
   exact hk _ _ ((h6.selR [_,_,_,_,_] [_,_] [0,3] (by decide) rfl).swap.imp (ZnT (N:=.slow N) (Nat.le_succ k))).swap
  ·refine Zok (Zow (ZoK ?_))
   refine Yp (cs:=Zak.zero.cs) h3 rfl λt4 w4 h4=>?_
   refine Zq h4 0 rfl (vs:=(ZmU (Zs wd f) N).cs) rfl rfl (by decide) (Zg _) (cs':=(ZmU (Zs wd f) N).cs) (by rfl) λw5 h5=>?_
   have hW:=(ZzP 2 h5 rfl).1
   have hlen:(Zo7 wd f (Zs wd f) N).length≤24:=Zge hW.may (ZaN hf) (b:=(N.st,N.sent)) (x:=hdM N.q)
   refine Zev (l:=Zo7 wd f (Zs wd f) N) 1 rfl h5 (λ_=>Zp) (by omega) λv' w6 h6=>?_
   have hst:Nd.step wd f (.slow N)=(0,(Zo7 wd f (Zs wd f) N).map Zae,.slow (Zmn (Zs wd f) N)):=if_pos hs
   rw[hst] at hk
   exact hk _ _ (h6.selR [_,_,_,_,_] [_,_] [0,3] (by decide) rfl)
 | bold N r t=>
  refine Zm0 ZqJ ?_
  refine ZhW (t0:=pt m.2) ?_
  unfold ZjC
  have h1:Sat e w (ZfN m r t::Ya m.1 wd f (Zs wd f) N k::Q):=Sat.split (l':=[_,_]) hS
  refine Zh (Za (Zb h1 0 rfl (v:=pt m.1) rfl ?_))
  rw[ZTC]
  have back:∀{w':World} {N':WN} {u:HP} {R:List HP},Sat e w' (u::Ya m.1 wd f (Zs wd f) N' (k+1)::ZfN m r t::R)→Sat e w' (u::ndH wd (k+1) f (.bold N' r t) m::R):=λh=>(Sat.join (l':=[_,_]) (h.selR [_,_,_] [_,_,_] [2,1,0] (by decide) rfl)).swap
  refine Zrp hk0 h1.swap (λhs w3 h3=>?_) (λhs v w3 h3=>?_)
  ·refine Zok (Zow (ZoK ?_))
   refine Yp (cs:=Zak.zero.cs) h3 rfl λt4 w4 h4=>?_
   refine Zq h4 0 rfl (vs:=Zak.zero.cs) rfl rfl (by decide) (Zg _) (cs':=Zak.zero.cs) (by kernel_rfl) λw5 h5=>?_
   have hst:Nd.step wd f (.bold N r t)=(Zcl wd f (Zs wd f) N,[],.bold N r t):=if_neg hs
   rw[hst] at hk
   have h6:Sat e w5 (Ya m.1 wd f (Zs wd f) N (k+1)::ZfN m r t::Q):=by
    obtain ⟨X,q,p,g,b,mm,lv,hX,h7⟩:=Zb4 (h5.selR [_,_,_] [_,_] [1,2] (by decide) rfl)
    exact ZbQ (hX.mono (Nat.le_succ k)) h7
   exact hk _ _ (back (Ziz h6))
  ·refine Zok (Zow (ZoK ?_))
   refine Yp (cs:=Zak.zero.cs) h3 rfl λt4 w4 h4=>?_
   refine Zq h4 0 rfl (vs:=(ZfV (Zin wd f (Zs wd f) N)).cs) rfl rfl (by decide) (Zg _) (cs':=(ZfV (Zin wd f (Zs wd f) N)).cs) (by rfl) λw5 h5=>?_
   have hst:Nd.step wd f (.bold N r t)=(0,ZqQ wd (Zin wd f (Zs wd f) N),.bold (Zcv N) r t):=if_pos hs
   rw[hst] at hk
   exact hk _ _ (back (h5.selR [_,_,_,_] [_,_,_] [1,2,3] (by decide) rfl))
theorem ZvM {j:Nat} {i:Zn} (ht:ZmY i.m.key.T) (hS:Sat e w (ndH wd k f N m::Q)) (hk:∀v w',Sat e w' (DI v (N.hear wd f j i).2.1::ndH wd k f (N.hear wd f j i).2.2 m::Q)→K (.tuple #[v,.int .i64 (N.hear wd f j i).1]) w') :
  clI prog (ndV N m) "paceline/fed.hear" #[.int .i64 (j:Int),.agg i.cs.toArray] w K:=by
 cases N with
 | slow N=>
  refine Zm0 ZqH ?_
  refine ZhS (t0:=sl m.1) (t1:=.int .i64 (j:Int)) (t2:=.agg i.cs.toArray) ?_
  unfold Zi7
  refine Yp (cs:=[pt m.1]) hS rfl λb w1 h1=>?_
  refine Yp (cs:=i.cs) h1 rfl λb2 w2 h2=>?_
  refine Za (Zb h2 1 rfl (v:=pt m.1) rfl ?_)
  refine Zo h2 0 (vs:=i.cs) rfl (by rfl) rfl ?_
  have h3:Sat e w2 (Zbu m.1 wd f N k::blk b2 84 i.cs::blk b 67 [pt m.1]::Q):=h2.selR [_,_,_] [_,_,_] [2,0,1] (by decide) rfl
  refine ZrC ht h3 λw4 h4=>?_
  exact hk _ _ (Ziz (h4.selR [_,_,_] [_] [0] (by decide) rfl))
 | bold N r t=>
  refine Zm0 ZqL ?_
  refine ZhX (t0:=pt m.2) (t1:=.int .i64 (j:Int)) (t2:=.agg i.cs.toArray) ?_
  unfold Zi9
  have h1:Sat e w (ZfN m r t::Ya m.1 wd f (Zs wd f) N k::Q):=Sat.split (l':=[_,_]) hS
  refine Yp (cs:=i.cs) h1 rfl λb2 w2 h2=>?_
  refine ZaY h2 λw3 h3=>?_
  refine Zh (Za (Zb h3 1 rfl (v:=pt m.1) rfl ?_))
  refine Zo h3 0 (vs:=i.cs) rfl (by rfl) rfl ?_
  refine Zrs ht (h3.selR [_,_,_] [_,_,_] [2,0,1] (by decide) rfl) λv w4 h4=>?_
  refine Zam (Zal ?_)
  exact hk _ _ (Sat.join (l':=[_,_]) (h4.selR [_,_,_,_] [_,_,_] [3,1,0] (by decide) rfl)).swap
theorem Zyt {N:ND} {fd:Fed} (h:N.clk.tellB (Zcd N) fd.Look=false):ZiG fd N=N:=by
 have h1:=of_decide_eq_false h
 unfold ZiG Clk.tell
 rw[if_pos (by omega)]
theorem Zvl (hf:f<wd.Feds.length) (hS:Sat e w (ndH wd k f N m::Q)) (hk:∀w' (t:Int),(∀x,(N.tell wd f).1=some x→t=x)→Sat e w' (ndH wd k f (N.tell wd f).2 m::Q)→K (.tuple #[.int .i64 t,.bool (N.tell wd f).1.isSome]) w') :
  clI prog (ndV N m) "paceline/fed.tell" #[] w K:=by
 cases N with
 | slow N=>
  refine Zm0 Zqx ?_
  refine ZhO (t0:=sl m.1) ?_
  unfold Zjw
  refine Yp (cs:=[pt m.1]) hS rfl λb w1 h1=>?_
  refine Za (Zb h1 0 rfl (v:=pt m.1) rfl ?_)
  have h2:Sat e w1 (Zbu m.1 wd f N k::blk b 67 [pt m.1]::Q):=h1.swap
  refine ZqE (ZaN hf) h2 λw3 h3=>?_
  refine Zam (Zal ?_)
  cases hb:N.clk.tellB (Zcd N) (Zs wd f).Look with
  | true=>
   have hst:Nd.tell wd f (.slow N)=(some (N.clk.tellT (Zcd N) (Zs wd f).Look),.slow (ZiG (Zs wd f) N)):=if_pos hb
   rw[hst] at hk
   have htd:(ZiG (Zs wd f) N).clk.told=N.clk.tellT (Zcd N) (Zs wd f).Look:=by
    have:=of_decide_eq_true hb
    unfold ZiG Clk.tell
    rw[if_neg (by omega)]
   exact hk _ _ (λx hx=>by rw[htd];exact Option.some.inj hx) (h3.selR [_,_] [_] [0] (by decide) rfl)
  | false=>
   have hst:Nd.tell wd f (.slow N)=(none,.slow N):=if_neg (by rw[hb];decide)
   rw[hst] at hk
   rw[Zyt hb] at h3
   exact hk _ _ (λx hx=>by cases hx) (h3.selR [_,_] [_] [0] (by decide) rfl)
 | bold N r t=>
  refine Zm0 Zq5 ?_
  refine ZhC (t0:=pt m.2) ?_
  unfold Zio
  have h1:Sat e w (ZfN m r t::Ya m.1 wd f (Zs wd f) N k::Q):=Sat.split (l':=[_,_]) hS
  refine Zh (Za (Zb h1 0 rfl (v:=pt m.1) rfl ?_))
  refine ZmX h1.swap λw2 h2=>?_
  refine Zh (Za (Zb h2 1 rfl (v:=.int .i64 t) rfl ?_))
  refine ZFH (λc1=>Zi ?_) (λc1=>Zf ?_)
  ·have hst:Nd.tell wd f (.bold N r t)=(none,.bold N r t):=if_pos c1
   rw[hst] at hk
   exact hk _ _ (λx hx=>by cases hx) (Sat.join (l':=[_,_]) h2.swap)
  ·have hst:Nd.tell wd f (.bold N r t)=(some (Za6 (Zs wd f) N),.bold N r (Za6 (Zs wd f) N)):=if_neg c1
   rw[hst] at hk
   refine Zh (Za (Zq h2 1 rfl (vs:=[.int .i64 (Za6 (Zs wd f) N)]) rfl rfl (Nat.le_of_ble_eq_true rfl) (by simp[flat]) (cs':=[pt m.1,.int .i64 (r:Int),.int .i64 (Za6 (Zs wd f) N)]) (by rfl) λw3 h3=>?_))
   exact hk _ _ (λx hx=>Option.some.inj hx) (Sat.join (l':=[_,_]) h3.swap)
theorem ZvJ {r:Nat} {t:Int} (h:Sat e w (ZfN m r t::Q)):(loadVar 68 ⟨m.2,0,none⟩).run prog w=.ok (pt m.1) w:=
 ZxP (by show ld1 (.pointer (some ⟨m.2,0,none⟩)) w λv' w'=>v'=pt m.1∧w'=w;exact Zb h 0 rfl (v:=pt m.1) rfl ⟨rfl,rfl⟩)
theorem Zxr (hk0:k≤1000) (hS:Sat e w (ndH wd k f N m::Q)) (hk:∀v w',Sat e w' (DD v (N.log wd f)::ndH wd k f N m::Q)→K v w'):clI prog (ndV N m) "Log" #[] w K:=by
 cases N with
 | slow N=>exact Zm0 Zth (Ztw hk0 hS hk)
 | bold N r t=>
  have h1:Sat e w (ZfN m r t::Ya m.1 wd f (Zs wd f) N k::Q):=Sat.split (l':=[_,_]) hS
  refine Zm0 (Zx2 (f:=217) (by kernel_rfl) (ZvJ h1)) ?_
  refine ZsW hk0 h1.swap λv w2 h2=>hk _ _ ?_
  exact (Sat.join (l':=[_,_]) (h2.selR [_,_,_] [_,_,_] [2,1,0] (by decide) rfl)).swap
theorem Zva (hS:Sat e w (ndH wd k f N m::Q)) (hk:∀v w',Sat e w' (Zz 81 6 Msg.cs v N.q::ndH wd k f N m::Q)→K v w'):clI prog (ndV N m) "Waiting" #[] w K:=by
 cases N with
 | slow N=>
  obtain ⟨q,h1,h2⟩:=Zuz (n:=m.1) (wd:=wd) (f:=f) (N:=N) (k:=k) hS
  refine Zm0 (ZqB (q:=q) (ZxP ?_)) (h2 K hk)
  show ldN 1 (.pointer (some ⟨m.1,1,none⟩)) w λv' w'=>v'=.agg #[pt q]∧w'=w
  exact h1 _ ⟨rfl,rfl⟩
 | bold N r t=>
  have h1:Sat e w (ZfN m r t::Ya m.1 wd f (Zs wd f) N k::Q):=Sat.split (l':=[_,_]) hS
  refine Zm0 (Zx2 (f:=218) (by kernel_rfl) (ZvJ h1)) ?_
  refine Zm7 h1.swap λv w2 h2=>hk _ _ ?_
  exact (Sat.join (l':=[_,_]) (h2.selR [_,_,_] [_,_,_] [2,1,0] (by decide) rfl)).swap
theorem Zje {v:Value} {l:List Zn} (hl:l.length≤1000000000000) (hS:Sat e w (S::R)) (hr:∀g,S g→rdS 8 Zn.cs v l g)
  (hk:∀v' w',Sat e w' (DI v' l::S::R)→K v' w'):Cl prog 35 #[v] w K:=by
 refine ZbK ?_
 unfold ZaZ
 obtain ⟨A,c,rfl,_⟩:=hS.shape 0 rfl hr
 cases A with
 | none=>
  refine Yn (w':=w) (v:=.bool true) (by kernel_rfl) ?_
  obtain rfl:=ZlK hS hr
  exact Zi (hk _ _ (hS.own_nil 84 8 Zn.cs))
 | some a=>
  refine Yn (w':=w) (v:=.bool false) (by kernel_rfl) ?_
  refine Zf ?_
  refine Zw3 hS Zn.cs λv2 w2 h2=>?_
  refine Zcs ZRB ZRB.und (f:=Zn.cs) (l:=[]) (m:=l) (λ_=>rfl) (λ_ _=>Zg _) h2 hr (by simp only[List.length_nil];omega) λv3 w3 h3=>?_
  rw[List.nil_append] at h3
  exact hk _ _ h3
variable {k:KS} {s:Nat}
theorem ZiZ (hf:f<wd.Feds.length):∀g,Yh (Zar wd k M) g→rdS 8 Zn.cs (M.vs f) (k.box f) g:=λg hg=>by
 obtain ⟨g',h1,h2⟩:=Yy hg (Yk (F:=λf=>DI (M.vs f) (k.box f)) hf)
 exact Zbl h2 (Zp h1)
theorem Zfy {N:WN} {r:Nat} {t:Int} (hf:f<wd.Feds.length) (hN:k.node f=.bold N r t):∀g,Yh (Zat wd n k M) g→ZbM g ⟨(M.ms f).2,0,none⟩ [pt (M.ms f).1,.int .i64 (r:Int),.int .i64 t]:=λg hg=>by
 obtain ⟨g',h1,h2⟩:=Yy hg (Yk (F:=λf=>ndH wd n f (k.node f) (M.ms f)) hf)
 rw[hN] at h1
 obtain ⟨g2,h3,h4⟩:=Yy (i:=0) (P:=ZfN (M.ms f) r t) h1 rfl
 intro i v hi
 exact ZrR (h4.trans h2) (ZcZ (off:=0) h3 i v (by rwa [List.drop_zero]))
theorem Zrf {n':Nat} (h:n≤n') (hS:Sat e w (KP p wd n k M++Q)):Sat e w (KP p wd n' k M++Q):=hS.imp (Zfo (λ_=>ZnT h) _)
theorem ZcV (hf:f<k.nodes.length):k.setN f (k.node f)=k:=by
 unfold KS.setN KS.node
 rw[List.getD_eq_getElem?_getD,List.getElem?_eq_getElem hf,Option.getD_some,List.set_getElem_self]
theorem Zrv (hf:f<k.boxes.length):k.put f []=k:=by
 unfold KS.put KS.box
 rw[List.append_nil,List.getD_eq_getElem?_getD,List.getElem?_eq_getElem hf,Option.getD_some,List.set_getElem_self]
theorem Znn (h:Ze1 wd k s) (hs:s≤1000000) (f:Nat):(k.box f).length≤50000000000:=by
 have:=h.len f
 omega
theorem Zxd (wd:Wd) (f:Nat) (N:Nd) (m:Nat × Nat):ndV (N.step wd f).2.2 m=ndV N m:=by
 cases N with
 | slow N=>unfold Nd.step;dsimp only;split <;> rfl
 | bold N r t=>unfold Nd.step;dsimp only;split <;> rfl
theorem ZyH (hI:Ze1 wd k s) (hf:f<wd.Feds.length) (hb:k.box f=[]):k.step wd f=(((k.node f).step wd f).1,(k.setN f ((k.node f).step wd f).2.2).put f ((k.node f).step wd f).2.1):=by
 have e1:(k.setN f (k.node f)).put f []=k:=by
  rw[ZcV (by rw[hI.nl];exact hf),Zrv (by rw[hI.bl];exact hf)]
 unfold KS.step
 rw[if_neg (λh=>h hb)]
 cases hn:k.node f with
 | slow N=>
  unfold Nd.step
  dsimp only
  split
  ·rfl
  ·rw[hn] at e1;rw[e1]
 | bold N r t=>
  unfold Nd.step
  dsimp only
  split
  ·rfl
  ·rw[hn] at e1;rw[e1]
theorem Zti (hf:f<wd.Feds.length) (hI:Ze1 wd k s) (hs:s≤1000000) (hn:n≤1000) (hS:Sat e w (KP p wd n k M++Q))
  (hk:∀M' w',Sat e w' (KP p wd (n+1) (k.step wd f).2 M'++Q)→K (.int .i64 (k.step wd f).1) w'):Cl prog 26 #[pt p,.int .i64 (f:Int)] w K:=by
 refine ZfK ?_
 unfold Zfw
 refine Zh (Za (Zjt hf hS (Zt hS 1 rfl (ZiZ hf) ?_)))
 by_cases hb:k.box f=[]
 ·rw[ZyH hI hf hb] at hk
  rw[hb]
  refine Zle (by decide) (Zf (Zh (Za (Zml hf hS ?_))))
  have h1:=Sat.focus hS f (Yk hf)
  refine Zvj hn hf h1 λv w2 h2=>?_
  refine Zam (Zal ?_)
  have h3:Sat e w2 (Yh ((Zat wd n k M).eraseIdx f)::([DI v ((k.node f).step wd f).2.1,ndH wd (n+1) f ((k.node f).step wd f).2.2 (M.ms f),Yh (Zar wd k M),BK p wd k M,NK wd k M,XK wd M,GK wd k M,CK wd k M]++Q)):=h2.selR [_,_,_,_,_,_,_,_,_] [_,_,_,_,_,_,_,_,_] [2,0,1,3,4,5,6,7,8] (by decide) rfl
  have h4:Sat e w2 (Yh ((Zat wd (n+1) k M).eraseIdx f)::([DI v ((k.node f).step wd f).2.1,ndH wd (n+1) f ((k.node f).step wd f).2.2 (M.ms f),Yh (Zar wd k M),BK p wd k M,NK wd k M,XK wd M,GK wd k M,CK wd k M]++Q)):=h3.imp λg hg=>by
   rw[←List.eraseIdx_map_c] at hg ⊢
   exact Zfo (λ_=>ZnT (Nat.le_succ n)) _ g hg
  have h4':Sat e w2 (ndH wd (n+1) f ((k.node f).step wd f).2.2 (M.ms f)::Yh ((Zat wd (n+1) k M).eraseIdx f)::([Yh (Zar wd k M),BK p wd k M,NK wd k M,XK wd M,GK wd k M,CK wd k M,DI v ((k.node f).step wd f).2.1]++Q)):=h4.selR [_,_,_,_,_,_,_,_,_] [_,_,_,_,_,_,_,_,_] [2,0,3,4,5,6,7,8,1] (by decide) rfl
  have h5:=Sat.unfocus f (Yk (F:=λj=>ndH wd (n+1) j (k.node j) (M.ms j)) hf) h4'
  rw[Zcy hI.nl] at h5
  have h6:Sat e w2 (KP p wd (n+1) (k.setN f ((k.node f).step wd f).2.2) M++DI v ((k.node f).step wd f).2.1::Q):=by
   show Sat e w2 ([_,_,_,Zz _ 1 one M.nv (Zju wd (k.setN f ((k.node f).step wd f).2.2) M),_,_,_]++_)
   rw[Zf9 λ_=>Zxd ..]
   exact h5
  have hlen:((k.node f).step wd f).2.1.length≤1000000:=by
   cases hn:k.node f with
   | slow N=>
    unfold Nd.step
    dsimp only
    split
    ·rw[List.length_map]
     exact Nat.le_trans (Zge hI.may (ZaN hf) (b:=(N.st,N.sent)) (x:=hdM N.q)) (by decide)
    ·exact Nat.zero_le _
   | bold N r t=>
    unfold Nd.step
    dsimp only
    split
    ·unfold ZqQ
     rw[List.length_map]
     exact Nat.le_trans (List.length_filter_le _ _) (Nat.le_trans (Zge hI.may (ZaN hf)) (by decide))
    ·exact Nat.zero_le _
  have hlb:=Znn hI hs f
  refine ZdQ (k:=k.setN f ((k.node f).step wd f).2.2) (S:=DI v ((k.node f).step wd f).2.1) hf hI.bl (by show (k.box f).length≤_;omega) hlen h6 (λ_=>Zp) λM' w7 _ h7=>?_
  exact hk M' _ (h7.selR [_,_,_,_,_,_,_,_] [_,_,_,_,_,_,_] [0,1,2,3,4,5,6] (by decide) rfl)
 ·have hst:k.step wd f=(2,k):=if_pos hb
  rw[hst] at hk
  have hpos:0<(k.box f).length:=List.length_pos_iff.2 hb
  exact ZtF (by omega) (Zi (hk M _ (Zrf (Nat.le_succ n) hS)))
theorem Zf7 (a b:Nat) (i:Zn):k.counted a b i=(!decide (i.Kind=2)&&(k.node a).isBold&&(k.node b).isBold):=rfl
theorem ZjS {a b:Nat} {i:Zn} (ha:a<wd.Feds.length) (hb:b<wd.Feds.length) (hS:Sat e w (KP p wd n k M++Q)) (hk:∀w',Sat e w' (KP p wd n k M++Q)→K (.tuple #[Zum (k.node a) (M.ms a),Zum (k.node b) (M.ms b),.bool (k.counted a b i)]) w') :
  Cl prog 58 #[pt p,.int .i64 (a:Int),.int .i64 (b:Int),.agg i.cs.toArray] w K:=by
 refine ZfP ?_
 unfold ZfB
 refine Yp (cs:=i.cs) hS rfl λt7 w1 h1=>?_
 have h2:Sat e w1 (KP p wd n k M++blk t7 84 i.cs::Q):=h1.selR [_,_,_,_,_,_,_,_] [_,_,_,_,_,_,_,_] [1,2,3,4,5,6,7,0] (by decide) rfl
 refine ZbX ha h2 ?_
 refine ZbX hb h2 ?_
 refine Za (Zb h2 7 rfl (v:=.int .i64 i.Kind) rfl ?_)
 have h3:=hk _ h1.drop
 rw[Zf7] at h3
 by_cases c1:i.Kind=2
 ·rw[decide_eq_true c1] at h3
  exact ZoP c1 (Zu (Zu (Yd (Zu (Zu (Yd h3))))))
 ·rw[decide_eq_false c1] at h3
  refine Zng c1 (Ze (Ze ?_))
  cases hab:(k.node a).isBold with
  | false=>
   rw[hab] at h3
   rw[Zir hab] at h3 ⊢
   exact ZtL (Yv (Zu (Zu (Yd h3))))
  | true=>
   rw[hab] at h3
   rw[Zli hab] at h3 ⊢
   refine ZtQ _ (Yv (Ze (Ze ?_)))
   cases hbb:(k.node b).isBold with
   | false=>
    rw[hbb] at h3
    rw[Zir hbb] at h3 ⊢
    exact ZtL (Yv h3)
   | true=>
    rw[hbb] at h3
    rw[Zli hbb] at h3 ⊢
    exact ZtQ _ (Yv h3)
theorem Zz1 (m:Nat) (c:CL) (x:Int):(Zcg m c).on x=c.on x:=rfl
theorem ZjQ (m:Nat) (c:CL) (j x:Int):(Zcg m c).setOn j x=Zcg m (c.setOn j x):=by
 unfold Zan.setOn CL.setOn
 split <;> rfl
theorem ZvG (m:Nat) (c:CL) (i:Nat) (t:Int):(Zcg m c).sent i t=Zcg m (c.sent i t):=by
 unfold Zan.sent CL.sent
 by_cases h:c.over<c.begun∧c.t i=c.begun
 ·rw[if_pos h,if_pos (show (Zcg m c).over<(Zcg m c).begun∧(Zcg m c).T i=(Zcg m c).begun from h)]
  exact congrArg (λz:Zan=>({ z with least:=min c.least t }:Zan)) (ZjQ m c (c.t i % 2) (c.on (c.t i % 2)+1))
 ·rw[if_neg h,if_neg (show ¬((Zcg m c).over<(Zcg m c).begun∧(Zcg m c).T i=(Zcg m c).begun) from h),ZjQ]
  rfl
theorem Zv8 (m:Nat) (c:CL) (x:Int):(Zcg m c).got x=Zcg m (c.got x):=by
 unfold Zan.got CL.got
 by_cases h:¬(0≤x∧x≤1)∨c.on x=0
 ·rw[if_pos h,if_pos (show ¬(0≤x∧x≤1)∨(Zcg m c).on x=0 from h)]
 ·rw[if_neg h,if_neg (show ¬(¬(0≤x∧x≤1)∨(Zcg m c).on x=0) from h),ZjQ]
  rfl
theorem Zyb {c:CL} {m s:Nat} (h:ZeV c m s) (hs:s≤1000000):∀x,-1000000≤(Zcg m c).on x∧(Zcg m c).on x≤1000000:=λx=>by
 have:=h.onk x
 rw[Zz1]
 omega
theorem Zk9 (h:ZoS wd):Zai wd≤8:=Nat.le_trans (List.length_filter_le _ _) h.n.2
def Zki (k:KS) (a:Nat) (i:Zn):KS:=match k.counted a i.m.To.toNat i,k.cut with
 | true,some c=>{ k with cut:=some (c.sent (k.node a).rank i.m.key.T) }
 | _,_=>k
def Zkh (k:KS) (a:Nat) (i:Zn):Zn:=match k.counted a i.m.To.toNat i,k.cut with
 | true,some c=>⟨i.Kind,i.m,c.t (k.node a).rank % 2⟩
 | _,_=>i
theorem ZvZ {i:Zn} {r:List Zn} (hb:k.box f=i::r) (hr:k.roomAt f i.m.To≠0):k.flush f=(0,({ Zki k f i with boxes:=k.boxes.set f r }).setQ f i.m.To.toNat (k.q f i.m.To.toNat++[Zkh k f i])):=by
 unfold KS.flush Zki Zkh
 rw[hb]
 dsimp only
 rw[if_neg hr]
 cases k.counted f i.m.To.toNat i with
 | false=>rfl
 | true=>
  cases hc:k.cut with
  | none=>dsimp only;rw[hc]
  | some c=>rfl
theorem Zxv (i:Zn):(Zkh k f i).Kind=i.Kind∧(Zkh k f i).m=i.m:=by
 unfold Zkh
 split <;> exact ⟨rfl,rfl⟩
theorem Zwd (i:Zn):(Zki k f i).nodes=k.nodes∧(Zki k f i).boxes=k.boxes∧(Zki k f i).net=k.net∧(Zki k f i).room=k.room:=by
 unfold Zki
 split <;> exact ⟨rfl,rfl,rfl,rfl⟩
theorem Zxo {g:Nat} {a b:Nat} {n room:Int} {F:Nat→Nat→List Zn} (i:Nat) (hS:Sat e w L) (hi:L[i]?=some (Yx g n room F)) (ha:a<8) (hb:b<8):((F a b).length:Int)≤room:=by
 obtain ⟨D,hD,_⟩:=Yx.open (hS.pick i hi)
 exact hD.room a b ha hb
theorem ZkG {a b:Nat} {i:Zn} (h:k.counted a b i=true):(k.node a).isBold=true∧(k.node b).isBold=true:=by
 rw[Zf7,Bool.and_eq_true,Bool.and_eq_true] at h
 exact ⟨h.1.2,h.2⟩
theorem Zt9 {N:Nd} (h:N.isBold=true):∃W r t,N=.bold W r t:=by
 cases N with
 | slow _=>cases h
 | bold W r t=>exact ⟨W,r,t,rfl⟩
theorem Zll (hI:Ze1 wd k s) (hf:f<wd.Feds.length) (hb:(k.node f).isBold=true):∃c,k.cut=some c∧ZeV c (Zai wd) s:=by
 have h1:=hI.cut
 rw[if_neg (Zpf hI hf hb)] at h1
 exact h1
theorem Zww {i:Zn} (h:Zb8 wd.Feds.length i):Zb8 wd.Feds.length (Zkh k f i):=by
 unfold Zkh
 split
 ·exact ⟨h.kind,⟨by dsimp only;omega,by dsimp only;omega⟩,h.to,h.time⟩
 ·exact h
theorem ZqM (hf:f<wd.Feds.length) (hI:Ze1 wd k s) (hs:s≤1000000) (hS:Sat e w (KP p wd n k M++Q))
  (hk:∀M' w',Sat e w' (KP p wd n (k.flush f).2 M'++Q)→K (.int .i64 (k.flush f).1) w'):Cl prog 27 #[pt p,.int .i64 (f:Int)] w K:=by
 refine Ze0 ?_
 unfold ZeM
 rw[ZTH]
 refine Zh (Za (Zjt hf hS (Zt hS 1 rfl (ZiZ hf) ?_)))
 have hn8:=hI.may.n
 cases hb:k.box f with
 | nil=>
  have hfl:k.flush f=(150,k):=by unfold KS.flush;rw[hb]
  rw[hfl] at hk
  exact Znq rfl (Zi (hk M _ hS))
 | cons i r=>
  have hi:Zb8 wd.Feds.length i:=hI.box f i (by rw[hb];exact List.mem_cons_self ..)
  obtain ⟨b,hTo⟩:∃b:Nat,i.m.To=b:=⟨i.m.To.toNat,by have:=hi.to;omega⟩
  have hbl:b<wd.Feds.length:=by have:=hi.to;omega
  have hbT:i.m.To.toNat=b:=by omega
  refine Zd8 (by simp;omega) (Zf (Zh (Za (Zjt hf hS ?_))))
  refine Zw (j:=0) hS 1 rfl (ZiZ hf) (λ_=>rfl) (x:=i) (by rw[hb];rfl) λa ha=>Ym hS 1 rfl ha rfl ?_
  refine Yp (cs:=Zn.zero.cs) hS rfl λt5 w1 h1=>?_
  refine Zq h1 0 rfl (vs:=i.cs) rfl rfl (by decide) (Zg _) (cs':=i.cs) (by rfl) λw2 h2=>?_
  refine ZaY h2 λw3 h3=>?_
  refine Zh (Za (Zb h3 3 rfl (v:=pt M.g) rfl ?_))
  refine Za (Za (Zb h3 0 rfl (v:=.int .i64 i.m.To) rfl ?_))
  have hroom:=Zxo (a:=f) (b:=b) 6 h3 rfl (by omega) (by omega)
  refine ZqV (h3.pick 6 rfl) λw4 h4=>?_
  have h5:Sat e w4 (KP p wd n k M++blk t5 84 i.cs::Q):=h4.selR [_,_,_,_,_,_,_,_] [_,_,_,_,_,_,_,_] [2,3,4,5,6,0,7,1] (by decide) rfl
  have hrm:(if okL wd.Feds.length f i.m.To then (k.room:Int) - (k.q (f:Int).toNat i.m.To.toNat).length else 0)=(k.roomAt f i.m.To:Nat):=by
   unfold KS.roomAt
   rw[Int.toNat_natCast,hbT,hI.nl]
   by_cases ho:okL wd.Feds.length f i.m.To
   ·rw[if_pos ho]
    unfold okL at ho
    rw[if_pos (by omega)]
    omega
   ·rw[if_neg ho]
    unfold okL at ho
    rw[if_neg (by omega)]
    rfl
  rw[hrm]
  refine ZoR (λc1=>Zi ?_) (λc1=>Zf ?_)
  ·have hfl:k.flush f=(2,k):=by
    unfold KS.flush
    rw[hb]
    exact if_pos (by omega)
   rw[hfl] at hk
   exact hk M _ (h5.selR [_,_,_,_,_,_,_,_] [_,_,_,_,_,_,_] [0,1,2,3,4,5,6] (by decide) rfl)
  have hr0:k.roomAt f i.m.To≠0:=by omega
  rw[ZvZ hb hr0] at hk
  refine Za (Za (Zb h5 7 rfl (v:=.int .i64 i.m.To) rfl ?_))
  refine Zo h5 7 (vs:=i.cs) rfl (by rfl) rfl ?_
  rw[hTo]
  refine ZjS hf hbl h5 λw6 h6=>?_
  refine Zok (Zow (ZoK ?_))
  obtain ⟨eN,eB,eG,eR⟩:=Zwd (k:=k) (f:=f) i
  have hkI:=Zww (k:=k) (f:=f) hi
  refine J0.cut (λw=>Sat e w (KP p wd n (Zki k f i) M++blk t5 84 (Zkh k f i).cs::Q)) (λk1 hcut=>?_) ?_
  ·cases hcn:k.counted f b i with
   | false=>
    refine Zf (hcut _ ?_)
    have e1:Zki k f i=k:=by unfold Zki;rw[hbT,hcn]
    have e2:Zkh k f i=i:=by unfold Zkh;rw[hbT,hcn]
    rw[e1,e2]
    exact h6
   | true=>
    obtain ⟨hbf,_⟩:=ZkG hcn
    obtain ⟨c,hc,hco⟩:=Zll hI hf hbf
    obtain ⟨N,rk,t,hN⟩:=Zt9 hbf
    have hrk:=hI.rank f hf hbf
    have hb8:=Zk9 hI.may
    have e1:Zki k f i={ k with cut:=some (c.sent rk i.m.key.T) }:=by unfold Zki;rw[hbT,hcn,hc,hN];rfl
    have e2:Zkh k f i=⟨i.Kind,i.m,c.t rk % 2⟩:=by unfold Zkh;rw[hbT,hcn,hc,hN];rfl
    rw[hN] at hrk
    have hrk':rk<Zai wd:=hrk
    rw[e1,e2] at hcut
    refine Zi ?_
    rw[hN]
    refine ZaY h6 λw7 h7=>?_
    have hcv:(kcs wd k M)[4]?=some (pt M.c):=by unfold kcs;rw[hc];rfl
    refine Zh (Za (Zb h7 2 rfl hcv ?_))
    refine Zh (Zbd (Zfy hf hN) λa ha=>Yt h7 0 rfl ha (v:=.int .i64 (rk:Int)) rfl ?_)
    refine Za (Za (Za (Zb h7 7 rfl (v:=.int .i64 i.m.key.T) rfl ?_)))
    have hck:CK wd k M=ZbI M.c (Zcg (Zai wd) c):=by show ZBC _ k.cut _=_;rw[hc];rfl
    have h8:=h7.pick 6 rfl
    rw[hck] at h8
    obtain ⟨t0,t1,t2⟩:=Zmc hi.time
    refine Zte (by omega) (by show (rk:Int)<(Zai wd:Int);omega) t2 hi.time (Zyb hco hs) h8 λw9 h9=>?_
    rw[ZvG] at h9
    refine Zam (Zal ?_)
    refine Za (Zq h9 7 rfl (vs:=[.int .i64 (c.t rk % 2)]) rfl rfl (Nat.le_of_ble_eq_true rfl) (by simp[flat]) (cs':=(⟨i.Kind,i.m,c.t rk % 2⟩:Zn).cs) (by rfl) λw10 h10=>?_)
    refine hcut _ ?_
    have hbk:BK p wd k M=BK p wd { k with cut:=some (c.sent rk i.m.key.T) } M:=by show blk p _ (kcs wd k M)=blk p _ (kcs wd _ M);unfold kcs;rw[hc];rfl
    have h11:Sat e w10 ([Yh (Zat wd n k M),Yh (Zar wd k M),BK p wd k M,NK wd k M,XK wd M,GK wd k M,ZbI M.c (Zcg (Zai wd) (c.sent rk i.m.key.T)),blk t5 84 (⟨i.Kind,i.m,c.t rk % 2⟩:Zn).cs]++Q):=h10.selR [_,_,_,_,_,_,_,_] [_,_,_,_,_,_,_,_] [1,2,3,4,5,6,0,7] (by decide) rfl
    rw[hbk] at h11
    exact h11
  ·intro w7 h7
   generalize hk1:Zki k f i=k1 at*
   generalize hi1:Zkh k f i=i1 at*
   have hbx:∀j,k1.box j=k.box j:=λj=>by unfold KS.box;rw[eB]
   have hq1:∀a b,k1.q a b=k.q a b:=λa b=>by unfold KS.q;rw[eG]
   refine ZaY h7 λw8 h8=>?_
   refine Zh (Za (Zb h8 2 rfl (v:=M.bv) rfl ?_))
   refine Zh (Za (Zjt hf h8 ?_))
   have hdrop:(k1.box f).drop 1=r:=by rw[hbx,hb];rfl
   refine Zox (lo:=1) h8 1 rfl (ZiZ hf) (λ_=>rfl) (by rw[hbx,hb,List.length_cons];omega) λv' hv'=>?_
   rw[hdrop] at hv'
   have hlen:=Znn hI hs f
   rw[hb,List.length_cons] at hlen
   refine Zje (by omega) (h8.pick 1 rfl) hv' λv2 w9 h9=>?_
   have q1:=h9.own_cells 0 rfl
   refine ⟨Zb h9 3 rfl (v:=M.bv) rfl ⟨rfl,rfl⟩,?_⟩
   refine ZdJ h9 5 rfl (λ_=>rfl) (by rw[List.length_map,List.length_range];exact hf) (x:=v2) q1.1 (λc hc=>by rw[List.mem_singleton.1 hc];exact q1.2) λw10 h10=>?_
   have h11:Sat e w10 (Yh (Zar wd k1 M)::([DI v2 r,Yh (Zat wd n k1 M),BK p wd k1 M,NK wd k1 M,Zz 50 1 one M.bv ((Zg7 wd M).set f v2),GK wd k1 M,CK wd k1 M,blk t5 84 i1.cs]++Q)):=h10.selR [_,_,_,_,_,_,_,_,_] [_,_,_,_,_,_,_,_,_] [1,0,2,3,4,5,6,7,8] (by decide) rfl
   have h12:Sat e w10 (DI v2 r::Yh ((Zar wd k1 M).eraseIdx f)::([Yh (Zat wd n k1 M),BK p wd k1 M,NK wd k1 M,Zz 50 1 one M.bv ((Zg7 wd M).set f v2),GK wd k1 M,CK wd k1 M,blk t5 84 i1.cs]++Q)):=(h11.focus f (Yk hf)).selR [_,_,_,_,_,_,_,_,_,_] [_,_,_,_,_,_,_,_,_] [2,1,3,4,5,6,7,8,9] (by decide) rfl
   have h13:=Sat.unfocus f (Yk (F:=λj=>DI (M.vs j) (k1.box j)) hf) h12
   rw[Zpe (by rw[eB];exact hI.bl),show (Zg7 wd M).set f v2=Zg7 wd { M with vs:=λj=>if j=f then v2 else M.vs j } from ZcQ (λj _ hne=>if_neg hne) (λ_=>(if_pos rfl).symm)] at h13
   have h14:Sat e w10 (KP p wd n { k1 with boxes:=k1.boxes.set f r } { M with vs:=λj=>if j=f then v2 else M.vs j }++blk t5 84 i1.cs::Q):=h13.selR [_,_,_,_,_,_,_,_] [_,_,_,_,_,_,_,_] [1,0,2,3,4,5,6,7] (by decide) rfl
   clear h13 h12 h11 h10 h9
   generalize { M with vs:=λj=>if j=f then v2 else M.vs j }=M2 at h14
   refine ZaY h14 λw15 h15=>?_
   refine Zh (Za (Zb h15 2 rfl (v:=pt M2.g) rfl ?_))
   have hi1m:i1.m=i.m:=by rw[←hi1];exact (Zxv i).2
   refine Za (Za (Zb h15 7 rfl (v:=.int .i64 i1.m.To) rfl ?_))
   refine Zo h15 7 (vs:=i1.cs) rfl (by rfl) rfl ?_
   rw[hi1m,hTo]
   have hok:okL wd.Feds.length f b:=by
    have hr0':=hr0
    unfold KS.roomAt at hr0'
    split at hr0'
    ·rename_i h
     rw[hI.nl] at h
     unfold okL
     omega
    ·exact absurd rfl hr0'
   have hlt:((k.q f b).length:Int)<k.room:=by
    rw[hTo] at hr0
    unfold KS.roomAt at hr0
    rw[Int.toNat_natCast,Int.toNat_natCast] at hr0
    split at hr0 <;> omega
   have hsb:¬Zut wd.Feds.length f b i1:=by
    have h1:=hkI.kind
    have h2:=hkI.col
    rintro (h | h | h | h)
    ·exact h hok
    ·omega
    ·omega
    ·omega
   refine ZqC (Q:=λa b=>k1.q a b) hsb (h15.pick 5 rfl) (λhfull=>absurd hfull ?_) λ_ w16 h16=>?_
   ·show ¬((k1.q f b).length:Int)=(k1.room:Int)
    rw[hq1,eR]
    omega
   ·have hfun:=ZvB (k:=k1) (wd:=wd) (by rw[eG];exact hI.netl) (λa ha=>by rw[eG];exact hI.rowl a ha) hf hbl (k.q f b++[i1])
    have h17:Sat e w16 (Yx M2.g wd.Feds.length k1.room (ZvY (λa b=>k1.q a b) f b (k.q f b++[i1]))::([Yh (Zat wd n k1 M2),Yh (Zar wd { k1 with boxes:=k1.boxes.set f r } M2),BK p wd k1 M2,NK wd k1 M2,XK wd M2,CK wd k1 M2,blk t5 84 i1.cs]++Q)):=by
     rw[←hq1 f b]
     exact h16
    rw[hfun] at h17
    rw[hbT,←eB] at hk
    exact hk M2 _ (h17.selR [_,_,_,_,_,_,_,_] [_,_,_,_,_,_,_] [1,2,3,4,5,0,6] (by decide) rfl)
theorem Zsg (k:KS) (a b:Nat) (i:Zn):k.hears wd a b i=(k.node b).hear wd b a i:=by
 unfold KS.hears Nd.hear
 cases k.node b <;> rfl
theorem hear_bad {N:Nd} {b a:Nat} {i:Zn} (h:(N.hear wd b a i).1≠0):(N.hear wd b a i).2.2=N:=by
 cases N with
 | slow N=>
  have h':hearE N a i≠0:=h
  show Nd.slow (Zd0 N a i)=_
  congr 1
  unfold hearE at h'
  unfold Zd0
  by_cases c1:i.Kind=2
  ·rw[if_pos c1] at h' ⊢
   unfold Clk.hear
   rw[if_neg h']
  ·rw[if_neg c1] at h' ⊢
   split
   ·rename_i c2
    rw[if_pos c2.1,if_neg c2.2.1,if_neg c2.2.2] at h'
    unfold ZfX
    rw[if_neg h']
   ·rfl
 | bold N r t=>
  have h6:∀{c:Prop} [Decidable c] {x y:HR},(x.e≠0→x.N=N)→(y.e≠0→y.N=N)→(if c then x else y).e≠0→(if c then x else y).N=N:=by
   intro c _ x y hx hy
   split
   ·exact hx
   ·exact hy
  have o:∀{x:HR},x.N=N→x.e≠0→x.N=N:=λh _=>h
  have z:∀{x:HR},x.e=0→x.e≠0→x.N=N:=λh h'=>absurd h h'
  have:(ZbE wd b (Zs wd b) N a i).e≠0→(ZbE wd b (Zs wd b) N a i).N=N:=by
   unfold ZbE
   exact h6 (o rfl) (h6 (h6 (o rfl) (h6 (o rfl) (z rfl))) (h6 (h6 (o rfl) (h6 (o rfl) (h6 (o rfl) (z rfl)))) (h6 (h6 (o rfl) (h6 (o rfl) (h6 (z rfl) (h6 (o rfl) (h6 (o rfl) (z rfl)))))) (o rfl))))
  show Nd.bold (ZbE wd b (Zs wd b) N a i).N r t=_
  rw[this h]
theorem Zxc (b a:Nat) (i:Zn) (N:Nd) (m:Nat × Nat):ndV (N.hear wd b a i).2.2 m=ndV N m:=by cases N <;> rfl
theorem ZvH (b a:Nat) (i:Zn) (N:Nd):(N.hear wd b a i).2.2.isBold=N.isBold∧(N.hear wd b a i).2.2.rank=N.rank:=by cases N <;> exact ⟨rfl,rfl⟩
theorem hear_len (hI:Ze1 wd k s) (hf:f<wd.Feds.length) (a:Nat) (i:Zn):((k.node f).hear wd f a i).2.1.length≤1000000:=by
 cases hn:k.node f with
 | slow N=>exact Nat.zero_le _
 | bold N r t=>
  have h0:=hI.ok f (by rw[hI.nl];exact hf)
  rw[hn] at h0
  obtain ⟨m,hW⟩:=h0
  show (ZbE wd f (Zs wd f) N a i).out.length≤_
  rcases Zls (wd:=wd) (f:=f) (fd:=Zs wd f) (N:=N) (j:=a) (i:=i) with ho | ho
  ·rw[ho];exact Nat.zero_le _
  ·rw[ho]
   unfold ZiU
   have h2:=ZrY hI.may (ZaN hf) (f:=f) (b:=ZjE (Zs wd f) (N.base (Zs wd f)) (ZbF i.m.key N.ms)) (l:=Yj i.m.key N.ms)
   have h3:(Yj i.m.key N.ms).length≤N.ms.length:=List.length_filter_le _ _
   have h4:=hW.ml
   omega
def Zw6 (k:KS) (a b:Nat) (i:Zn):Option CL:=match k.counted a b i,k.cut with
 | true,some c=>some (c.got i.Colour)
 | _,c=>c
theorem ZsJ {a b:Nat} {i:Zn} {r:List Zn} (hq:k.q a b=i::r) (he:((k.node b).hear wd b a i).1=0) :
  k.deliver wd a b=(0,{ ((k.setN b ((k.node b).hear wd b a i).2.2).setQ a b r).put b ((k.node b).hear wd b a i).2.1 with cut:=Zw6 k a b i }):=by
 unfold KS.deliver Zw6
 rw[hq]
 dsimp only
 rw[Zsg,if_neg (λh=>h he)]
 cases k.counted a b i with
 | false=>rfl
 | true=>
  cases hc:k.cut with
  | none=>
   dsimp only
   congr 1
   unfold KS.put KS.setQ KS.setN
   rw[hc]
  | some c=>rfl
theorem Zoi {a b:Nat} (hal:a<wd.Feds.length) (hbl:b<wd.Feds.length) (hI:Ze1 wd k s) (hs:s≤1000000) (hS:Sat e w (KP p wd n k M++Q))
  (hk:∀M' w',Sat e w' (KP p wd n (k.deliver wd a b).2 M'++Q)→K (.int .i64 (k.deliver wd a b).1) w'):Cl prog 28 #[pt p,.int .i64 (a:Int),.int .i64 (b:Int)] w K:=by
 refine ZdS ?_
 unfold Zdf
 rw[ZTH]
 have hn8:=hI.may.n
 refine Zh (Za (Zb hS 2 rfl (v:=pt M.g) rfl ?_))
 have back:∀{w':World} {Q:List HP},Sat e w' (GK wd k M::([Yh (Zat wd n k M),Yh (Zar wd k M),BK p wd k M,NK wd k M,XK wd M,CK wd k M]++Q))→Sat e w' (KP p wd n k M++Q):=λh=>h.selR [_,_,_,_,_,_,_] [_,_,_,_,_,_,_] [1,2,3,4,5,0,6] (by decide) rfl
 cases hq:k.q a b with
 | nil=>
  have hst:k.deliver wd a b=(150,k):=by unfold KS.deliver;rw[hq]
  rw[hst] at hk
  refine Zm1 (.inr hq) (hS.pick 5 rfl) λw1 h1=>?_
  refine Zam (Zal ?_)
  refine Yp (cs:=Zn.zero.cs) (back h1) rfl λt7 w2 h2=>?_
  refine Zq h2 0 rfl (vs:=Zn.zero.cs) rfl rfl (by decide) (Zg _) (cs':=Zn.zero.cs) (by kernel_rfl) λw3 h3=>?_
  exact Zch (Zi (hk M _ h3.drop))
 | cons i r=>
  have hi:Zb8 wd.Feds.length i:=hI.q a b i (by rw[hq];exact List.mem_cons_self ..)
  have hab:a≠b:=λh=>by
   subst h
   rw[hI.self] at hq
   cases hq
  have hok:okL wd.Feds.length (a:Int) (b:Int):=⟨by omega,by omega,by omega,by omega,by omega⟩
  refine ZkF (Q:=λa b=>k.q a b) (x:=i) (q:=r) hok hq (hS.pick 5 rfl) λw1 h1=>?_
  refine Zam (Zal ?_)
  refine Yp (cs:=Zn.zero.cs) (back h1) rfl λt7 w2 h2=>?_
  refine Zq h2 0 rfl (vs:=i.cs) rfl rfl (by decide) (Zg _) (cs':=i.cs) (by rfl) λw3 h3=>?_
  refine ZaJ (Zf ?_)
  have h3':Sat e w3 (KP p wd n k M++blk t7 84 i.cs::Q):=h3.selR [_,_,_,_,_,_,_,_] [_,_,_,_,_,_,_,_] [1,2,3,4,5,6,7,0] (by decide) rfl
  refine ZaY h3' λw4 h4=>?_
  refine Zh (Za (Zml hbl h4 ?_))
  refine Zo h4 7 (vs:=i.cs) rfl (by rfl) rfl ?_
  have h5:=Sat.focus h4 b (Yk hbl)
  refine ZvM (Zmc hi.time).2.2 h5 λv w6 h6=>?_
  refine Zam (Zal ?_)
  generalize hres:(k.node b).hear wd b a i=res at h6 ⊢
  have h7:=Sat.unfocus b (Yk (F:=λj=>ndH wd n j (k.node j) (M.ms j)) hbl) (h6.drop)
  rw[Zcy hI.nl] at h7
  refine ZrP (λc1=>Zi ?_) (λc1=>Zf ?_)
  ·have hN:res.2.2=k.node b:=by rw[←hres];exact hear_bad (by rw[hres];exact c1)
   have hst:k.deliver wd a b=(res.1,k):=by
    unfold KS.deliver
    rw[hq]
    dsimp only
    rw[Zsg,hres,if_pos c1]
   rw[hst] at hk
   rw[hN,ZcV (by rw[hI.nl];exact hbl)] at h7
   exact hk M _ (h7.selR [_,_,_,_,_,_,_,_] [_,_,_,_,_,_,_] [0,1,2,3,4,5,6] (by decide) rfl)
  have hde:=ZsJ hq (wd:=wd) (by rw[hres];exact c1)
  rw[hres] at hde
  rw[hde] at hk
  have hvN:ndV res.2.2 (M.ms b)=ndV (k.node b) (M.ms b):=by rw[←hres];exact Zxc ..
  have hkd:=ZvH (wd:=wd) b a i (k.node b)
  rw[hres] at hkd
  have hlen:=hear_len hI hbl a i
  rw[hres] at hlen
  have h8:Sat e w6 (DI v res.2.1::ndH wd n b res.2.2 (M.ms b)::Yh ((Zat wd n k M).eraseIdx b)::([Yh (Zar wd k M),BK p wd k M,NK wd k M,XK wd M,GK wd k M,CK wd k M,blk t7 84 i.cs]++Q)):=h6
  have h9:=Sat.unfocus b (Yk (F:=λj=>ndH wd n j (k.node j) (M.ms j)) hbl) (Sat.selR [_,_,_,_,_,_,_,_,_,_] [ndH wd n b res.2.2 (M.ms b),Yh ((Zat wd n k M).eraseIdx b),Yh (Zar wd k M),BK p wd k M,NK wd k M,XK wd M,GK wd k M,CK wd k M,blk t7 84 i.cs,DI v res.2.1] h8 [1,2,3,4,5,6,7,8,9,0] (by decide) rfl)
  rw[Zcy hI.nl] at h9
  clear h8 h7 h6
  refine Zh (Za (Zb h9 2 rfl (v:=pt M.g) rfl ?_))
  refine ZrE (Q:=λa b=>k.q a b) (x:=i) (q:=r) hok hq (h9.pick 5 rfl) λw10 h10=>?_
  rw[ZvB hI.netl hI.rowl hal hbl r] at h10
  generalize hk2:(k.setN b res.2.2).setQ a b r=k2 at*
  have e2n:∀j,k2.node j=(k.setN b res.2.2).node j:=λj=>by rw[←hk2];rfl
  have e2b:k2.boxes=k.boxes:=by rw[←hk2];rfl
  have e2c:k2.cut=k.cut:=by rw[←hk2];rfl
  have h11:Sat e w10 (KP p wd n k2 M++(blk t7 84 i.cs::DI v res.2.1::Q)):=by
   have h12:Sat e w10 ([Yh (Zat wd n (k.setN b res.2.2) M),Yh (Zar wd k M),BK p wd k M,Zz 95 1 one M.nv (Zju wd (k.setN b res.2.2) M),XK wd M,Yx M.g wd.Feds.length k.room (λc d=>(k.setQ a b r).q c d),CK wd k M,blk t7 84 i.cs,DI v res.2.1]++Q):=by
    rw[Zf9 λ_=>hvN]
    exact h10.selR [_,_,_,_,_,_,_,_,_] [_,_,_,_,_,_,_,_,_] [1,2,3,4,5,0,6,7,8] (by decide) rfl
   rw[←hk2]
   exact h12
  refine Zo h11 7 (vs:=i.cs) rfl (by rfl) rfl ?_
  refine ZjS hal hbl h11 λw12 h12=>?_
  have hcnt:k2.counted a b i=k.counted a b i:=by
   have hbd:∀j,(k2.node j).isBold=(k.node j).isBold:=λj=>by
    rw[e2n,ZaK]
    split
    ·rename_i h;rw[←h.1];exact hkd.1
    ·rfl
   rw[Zf7,Zf7,hbd,hbd]
  rw[hcnt]
  refine Zok (Zow (ZoK ?_))
  refine J0.cut (λw=>Sat e w (KP p wd n { k2 with cut:=Zw6 k a b i } M++(blk t7 84 i.cs::DI v res.2.1::Q))) (λk1 hcut=>?_) ?_
  ·cases hcn:k.counted a b i with
   | false=>
    have e1:Zw6 k a b i=k2.cut:=by unfold Zw6;rw[hcn,e2c]
    refine Zf (hcut _ ?_)
    rw[e1]
    exact h12
   | true=>
    obtain ⟨_,hbb⟩:=ZkG hcn
    obtain ⟨c,hc,hco⟩:=Zll hI hbl hbb
    have hb2:(k2.node b).isBold=true:=by rw[e2n,ZaK,if_pos ⟨rfl,by rw[hI.nl];exact hbl⟩,hkd.1];exact hbb
    obtain ⟨N,rk,t,hN⟩:=Zt9 hb2
    have hrk:=hI.rank b hbl hbb
    have hrk':rk<Zai wd:=by
     have h1:(k2.node b).rank=rk:=by rw[hN];rfl
     rw[e2n,ZaK,if_pos ⟨rfl,by rw[hI.nl];exact hbl⟩,hkd.2] at h1
     omega
    have e1:Zw6 k a b i=some (c.got i.Colour):=by unfold Zw6;rw[hcn,hc]
    rw[e1] at hcut
    refine Zi ?_
    rw[hN]
    refine ZaY h12 λw13 h13=>?_
    have hcv:(kcs wd k2 M)[4]?=some (pt M.c):=by unfold kcs;rw[e2c,hc];rfl
    refine Zh (Za (Zb h13 2 rfl hcv ?_))
    refine Zh (Zbd (Zfy hbl hN) λa ha=>Yt h13 0 rfl ha (v:=.int .i64 (rk:Int)) rfl ?_)
    refine Za (Zb h13 7 rfl (v:=.int .i64 i.Colour) rfl ?_)
    have hck:CK wd k2 M=ZbI M.c (Zcg (Zai wd) c):=by show ZBC _ k2.cut _=_;rw[e2c,hc];rfl
    have h14:=h13.pick 6 rfl
    rw[hck] at h14
    refine ZtM (by show (rk:Int)<(Zai wd:Int);omega) (Zyb hco hs) h14 λw15 h15=>?_
    rw[Zv8] at h15
    refine hcut _ ?_
    have hbk:BK p wd k2 M=BK p wd { k2 with cut:=some (c.got i.Colour) } M:=by show blk p _ (kcs wd k2 M)=blk p _ (kcs wd _ M);unfold kcs;rw[e2c,hc];rfl
    have h16:Sat e w15 ([Yh (Zat wd n k2 M),Yh (Zar wd k2 M),BK p wd k2 M,NK wd k2 M,XK wd M,GK wd k2 M,ZbI M.c (Zcg (Zai wd) (c.got i.Colour)),blk t7 84 i.cs,DI v res.2.1]++Q):=h15.selR [_,_,_,_,_,_,_,_,_] [_,_,_,_,_,_,_,_,_] [1,2,3,4,5,6,0,7,8] (by decide) rfl
    rw[hbk] at h16
    exact h16
  ·intro w13 h13
   have hlb:=Znn hI hs b
   have h14:Sat e w13 (KP p wd n { k2 with cut:=Zw6 k a b i } M++(DI v res.2.1::blk t7 84 i.cs::Q)):=h13.selR [_,_,_,_,_,_,_,_,_] [_,_,_,_,_,_,_,_,_] [0,1,2,3,4,5,6,8,7] (by decide) rfl
   refine ZdQ (k:={ k2 with cut:=Zw6 k a b i }) (S:=DI v res.2.1) hbl (by show k2.boxes.length=_;rw[e2b];exact hI.bl) (by show (k2.boxes.getD b []).length≤_;rw[e2b];show (k.box b).length≤_;omega) hlen h14 (λ_=>Zp) λM' w15 _ h15=>?_
   exact hk M' _ (h15.selR [_,_,_,_,_,_,_,_,_] [_,_,_,_,_,_,_] [0,1,2,3,4,5,6] (by decide) rfl)
def ZAA (t:Int) (g:Nat):Zn:=⟨2,⟨⟨t,0,0⟩,(g:Int),0,0⟩,0⟩
def ZxR (k:KS) (a g:Nat):Bool:=!decide (g=a)&&!((k.node a).isBold&&(k.node g).isBold)
def Zq8 (k:KS) (a:Nat) (t:Int) (j:Nat):List Zn:=((List.range j).filter (ZxR k a)).map (ZAA t)
theorem Zv4 (k:KS) (a:Nat) (t:Int):ZaW k a t=Zq8 k a t k.nodes.length:=rfl
theorem ZpG (k:KS) (a:Nat) (t:Int) (j:Nat):Zq8 k a t (j+1)=Zq8 k a t j++if ZxR k a j=true then [ZAA t j] else []:=by
 unfold Zq8
 rw[List.range_succ,List.filter_append,List.map_append]
 congr 1
 rw[List.filter_cons]
 split <;> rfl
theorem ZAn (k:KS) (hf:f<k.boxes.length) (l m:List Zn):(k.put f l).put f m=k.put f (l++m):=by
 have h1:(k.put f l).box f=k.box f++l:=by rw[Zmr,if_pos ⟨rfl,hf⟩]
 show ({ (k.put f l) with boxes:=(k.put f l).boxes.set f ((k.put f l).box f++m) }:KS)=_
 rw[h1]
 unfold KS.put
 dsimp only
 rw[List.set_set,List.append_assoc]
theorem ZBg (hb:k.box f=[]):k.tell wd f=match (k.node f).tell wd f with
  | (some t,N)=>(0,(k.setN f N).put f (ZaW k f t))
  | (none,_)=>(150,k):=by
 unfold KS.tell
 rw[if_neg (λh=>h hb)]
 cases hn:k.node f with
 | slow N=>
  unfold Nd.tell
  dsimp only
  split
  ·rfl
  ·rfl
 | bold N r t=>
  unfold Nd.tell
  dsimp only
  split
  ·rfl
  ·rfl
theorem ZuL (N:Nd) (m:Nat × Nat):(N.tell wd f).2.isBold=N.isBold∧ndV (N.tell wd f).2 m=ndV N m:=by
 cases N with
 | slow N=>unfold Nd.tell;dsimp only;split <;> exact ⟨rfl,rfl⟩
 | bold N r t=>unfold Nd.tell;dsimp only;split <;> exact ⟨rfl,rfl⟩
theorem ZsQ (hf:f<wd.Feds.length) (hI:Ze1 wd k s) (hS:Sat e w (KP p wd n k M++Q))
  (hk:∀M' w',Sat e w' (KP p wd n (k.tell wd f).2 M'++Q)→K (.int .i64 (k.tell wd f).1) w'):Cl prog 29 #[pt p,.int .i64 (f:Int)] w K:=by
 refine Ze9 ?_
 unfold ZfA
 have hn8:=hI.may.n
 refine Zh (Za (Zjt hf hS (Zt hS 1 rfl (ZiZ hf) ?_)))
 by_cases hb:k.box f=[]
 ·rw[ZBg hb] at hk
  rw[hb]
  refine Zle (by decide) (Zf (Zh (Za (Zml hf hS ?_))))
  refine Zvl hf (Sat.focus hS f (Yk hf)) λw2 tt ht h2=>?_
  have hkd:=ZuL (wd:=wd) (f:=f) (k.node f) (M.ms f)
  generalize hres:(k.node f).tell wd f=res at*
  obtain ⟨o,N'⟩:=res
  have h3:=Sat.unfocus f (Yk (F:=λj=>ndH wd n j (k.node j) (M.ms j)) hf) h2
  rw[Zcy hI.nl] at h3
  have h4:Sat e w2 (KP p wd n (k.setN f N') M++Q):=by
   show Sat e w2 ([_,_,_,Zz _ 1 one M.nv (Zju wd (k.setN f N') M),_,_,_]++_)
   rw[Zf9 λ_=>hkd.2]
   exact h3
  refine Zam (Zal ?_)
  cases o with
  | none=>
   have hN:N'=k.node f:=by
    have h5:((k.node f).tell wd f)=(none,N'):=hres
    cases hn:k.node f with
    | slow N=>
     rw[hn] at h5
     unfold Nd.tell at h5
     dsimp only at h5
     split at h5
     ·cases h5
     ·exact (congrArg Prod.snd h5).symm
    | bold N r t=>
     rw[hn] at h5
     unfold Nd.tell at h5
     dsimp only at h5
     split at h5
     ·exact (congrArg Prod.snd h5).symm
     ·cases h5
   rw[hN,ZcV (by rw[hI.nl];exact hf)] at h4
   exact Zch (Zi (hk M _ h4))
  | some t=>
   obtain rfl:=ht t rfl
   refine ZaJ (Zf (Zh (Za (Zb h4 2 rfl (v:=M.nv) rfl (Zt h4 3 rfl (λ_=>Zp) ?_)))))
   rw[List.length_map,List.length_range]
   have hk1l:(k.setN f N').boxes.length=wd.Feds.length:=hI.bl
   have hbd:∀j,((k.setN f N').node j).isBold=(k.node j).isBold:=λj=>by
    rw[ZaK]
    split
    ·rename_i h;rw[←h.1];exact hkd.1
    ·rfl
   refine Zdk (λz t35 w=>∃j:Nat,j≤wd.Feds.length∧t35=.int .i64 j∧z=wd.Feds.length - j∧∃M',Sat e w (KP p wd n ((k.setN f N').put f (Zq8 k f tt j)) M'++Q)) wd.Feds.length ⟨0,Nat.zero_le _,rfl,rfl,M,by rw[show Zq8 k f tt 0=[] from rfl,Zrv (by rw[hk1l];exact hf)];exact h4⟩ ?_
   rintro z _ w3 g1 ⟨j,hj,rfl,rfl,M1,h5⟩ hg1
   refine Za7 (λc=>Zi ?_) (λc=>Zf ?_)
   ·have hjl:j<wd.Feds.length:=by omega
    have hbn:∀i,(((k.setN f N').put f (Zq8 k f tt j)).node i).isBold=(k.node i).isBold:=hbd
    refine J0.cut (λw=>∃M',Sat e w (KP p wd n ((k.setN f N').put f (Zq8 k f tt (j+1))) M'++Q)) (λk2 hcut=>?_) ?_
    ·have put1:∀{w:World},ZxR k f j=true→Sat e w (KP p wd n ((k.setN f N').put f (Zq8 k f tt j)) M1++Q)→
       bld (Zl prog 79) #[(0,1),(1,1),(2,1)] [(0,.int .i64 tt)] w λt56 w=>bld (Zl prog 81) #[(0,3),(3,1),(4,1),(5,1)] [(0,t56),(1,.int .i64 (j:Int))] w λt58 w=>bld (Zl prog 84) #[(0,1),(1,6),(7,1)] [(0,(Value.int IntKind.i64 2)),(1,t58)] w λt59 w=>
       bsl 84 8 1 (Zl prog 84) [(0,t59)] w λt60 w=>Cl prog 22 #[pt p,.int .i64 (f:Int),t60] w λ_ w=>k2 w:=by
      intro w hp h
      refine Zaf (Yi [tt,0,0]) (by kernel_rfl) (Zaf (Yi [tt,0,0,(j:Int),0,0]) (by kernel_rfl) (Zaf (ZAA tt j).cs (by kernel_rfl) ?_))
      refine ZwC (vs:=(ZAA tt j).cs) rfl rfl h λb w6 h6=>?_
      have h7:Sat e w6 (KP p wd n ((k.setN f N').put f (Zq8 k f tt j)) M1++blk b 84 (ZAA tt j).cs::Q):=h6.selR [_,_,_,_,_,_,_,_] [_,_,_,_,_,_,_,_] [1,2,3,4,5,6,7,0] (by decide) rfl
      have hbx:((k.setN f N').put f (Zq8 k f tt j)).box f=Zq8 k f tt j:=by
       rw[Zmr,if_pos ⟨rfl,by rw[hk1l];exact hf⟩]
       show k.box f++_=_
       rw[hb,List.nil_append]
      have hbl:(Zq8 k f tt j).length≤j:=by
       unfold Zq8
       rw[List.length_map]
       exact Nat.le_trans (List.length_filter_le _ _) (by rw[List.length_range];omega)
      refine ZdQ (l:=[ZAA tt j]) (S:=blk b 84 (ZAA tt j).cs) hf (by show ((k.setN f N').boxes.set f _).length=_;rw[List.length_set];exact hk1l) (by rw[hbx];omega) (Nat.le_of_ble_eq_true rfl) h7 (Zfu (f:=Zn.cs) (Nat.le_refl _)) λM' w8 _ h8=>?_
      rw[ZAn _ (by rw[hk1l];exact hf)] at h8
      refine hcut _ ⟨M',?_⟩
      rw[ZpG,if_pos hp]
      exact h8.selR [_,_,_,_,_,_,_,_] [_,_,_,_,_,_,_] [0,1,2,3,4,5,6] (by decide) rfl
     have no:∀{w:World},ZxR k f j=false→Sat e w (KP p wd n ((k.setN f N').put f (Zq8 k f tt j)) M1++Q)→k2 w:=by
      intro w hp h
      refine hcut _ ⟨M1,?_⟩
      rw[ZpG,if_neg (by rw[hp];decide),List.append_nil]
      exact h
     by_cases c1:j=f
     ·refine ZoP (by omega) ?_
      refine Zu (Zu (Zu (Zu (Zu (Zrb (Zrb (Zrb (Zrb (Zu (Yd (Zf (no ?_ h5))))))))))))
      unfold ZxR
      rw[decide_eq_true c1]
      rfl
     ·refine Zng (by omega) (Ze (Ze (Ze (ZbX hf h5 ?_))))
      cases hbf:(k.node f).isBold with
      | false=>
       rw[Zir (by rw[hbn];exact hbf)]
       refine Ze (Ztj (Ze (Zd (Zd (Zd (Zd (Ze (Yv (Yv (Zi ?_)))))))))) 
       refine put1 ?_ h5
       unfold ZxR
       rw[decide_eq_false c1,hbf]
       rfl
      | true=>
       rw[Zli (by rw[hbn];exact hbf)]
       refine Ze (ZmP _ (Ze (Zj (Zj (Zj (ZbX hjl h5 ?_))))))
       cases hbj:(k.node j).isBold with
       | false=>
        rw[Zir (by rw[hbn];exact hbj)]
        refine Zj (Ztj (Ze (Yd (Yv (Zi ?_)))))
        refine put1 ?_ h5
        unfold ZxR
        rw[decide_eq_false c1,hbf,hbj]
        rfl
       | true=>
        rw[Zli (by rw[hbn];exact hbj)]
        refine Zj (ZmP _ (Ze (Yd (Yv (Zf (no ?_ h5))))))
        unfold ZxR
        rw[decide_eq_false c1,hbf,hbj]
        rfl
    ·rintro w9 ⟨M',h9⟩
     refine Yr (by omega) ?_
     exact hg1 _ _ _ (by omega) ⟨j+1,by omega,rfl,rfl,M',h9⟩
   ·have ej:j=wd.Feds.length:=by omega
    rw[ej] at h5
    refine hk M1 _ ?_
    show Sat e w3 (KP p wd n ((k.setN f N').put f (ZaW k f tt)) M1++Q)
    rw[Zv4,hI.nl]
    exact h5
 ·have hst:k.tell wd f=(2,k):=if_pos hb
  rw[hst] at hk
  have hpos:0<(k.box f).length:=List.length_pos_iff.2 hb
  exact ZtF (by omega) (Zi (hk M _ hS))
theorem Zr4 (l:List Int) (q:Int→Bool):((List.range l.length).all λj=>q (l.getD j 0))=l.all q:=by
 rw[Bool.eq_iff_iff,List.all_eq_true,List.all_eq_true]
 constructor
 ·intro h x hx
  obtain ⟨j,hj⟩:=List.getElem?_of_mem hx
  have:=h j (List.mem_range.2 (List.getElem?_eq_some_iff.1 hj).1)
  rw[List.getD_eq_getElem?_getD,hj] at this
  exact this
 ·intro h j hj
  have hj:=List.mem_range.1 hj
  rw[List.getD_eq_getElem?_getD,List.getElem?_eq_getElem hj]
  exact h _ (List.getElem_mem hj)
theorem Zvp {c:CL} {m:Nat} (h:c.T.length=m) (q:Int→Bool):(Zcg m c).all (λt _=>q t)=c.T.all q:=by
 unfold Zan.all
 show ((List.range ((m:Int)).toNat).all λj=>q (c.T.getD j 0))=_
 rw[Int.toNat_natCast,←h]
 exact Zr4 ..
theorem ZuD {c:CL} {m:Nat} (h:c.Rp.length=m) (q:Int→Bool):(Zcg m c).all (λ_ r=>q r)=c.Rp.all q:=by
 unfold Zan.all
 show ((List.range ((m:Int)).toNat).all λj=>q (c.Rp.getD j 0))=_
 rw[Int.toNat_natCast,←h]
 exact Zr4 ..
theorem ZvO {l:List Int} {i:Nat} (hi:i<l.length) (x:Int):ZBt (λj=>l.getD j 0) i x=λj=>(l.set i x).getD j 0:=by
 funext j
 rw[ZaX]
 unfold ZBt
 by_cases h:j=i
 ·rw[if_pos h,if_pos ⟨h.symm,hi⟩]
 ·rw[if_neg h,if_neg λh'=>h h'.1.symm]
theorem Zvu {c:CL} {m i:Nat} (hi:i<c.T.length):(Zcg m c).turn i=Zcg m (if ¬c.over<c.begun∨c.t i=c.begun then c else { c with T:=c.T.set i c.begun }):=by
 unfold Zan.turn
 by_cases h:¬c.over<c.begun∨c.t i=c.begun
 ·rw[if_pos h,if_pos (show ¬(Zcg m c).over<(Zcg m c).begun∨(Zcg m c).T i=(Zcg m c).begun from h)]
 ·rw[if_neg h,if_neg (show ¬(¬(Zcg m c).over<(Zcg m c).begun∨(Zcg m c).T i=(Zcg m c).begun) from h)]
  exact congrArg (λz=>({ Zcg m c with T:=z }:Zan)) (ZvO hi c.begun)
theorem Zf8 (c':CL) (c:CL) (hc:k.cut=some c) (h:Sat e w (ZbI M.c (Zcg (Zai wd) c')::([Yh (Zat wd n k M),Yh (Zar wd k M),BK p wd k M,NK wd k M,XK wd M,GK wd k M]++Q))):Sat e w (KP p wd n { k with cut:=some c' } M++Q):=by
 have hbk:BK p wd k M=BK p wd { k with cut:=some c' } M:=by show blk p _ (kcs wd k M)=blk p _ (kcs wd _ M);unfold kcs;rw[hc];rfl
 rw[hbk] at h
 exact h.selR [_,_,_,_,_,_,_] [_,_,_,_,_,_,_] [1,2,3,4,5,6,0] (by decide) rfl
theorem ZhH {c:CL} (hc:k.cut=some c) (h:Sat e w (KP p wd n k M++Q)):Sat e w (ZbI M.c (Zcg (Zai wd) c)::([Yh (Zat wd n k M),Yh (Zar wd k M),BK p wd k M,NK wd k M,XK wd M,GK wd k M]++Q)):=by
 have hck:CK wd k M=ZbI M.c (Zcg (Zai wd) c):=by show ZBC _ k.cut _=_;rw[hc];rfl
 have h1:=h.pick 6 rfl
 rw[hck] at h1
 exact h1
theorem ZoM {c:CL} (hc:k.cut=some c):({ k with cut:=some c }:KS)=k:=by rw[←hc]
def ZtH (k:KS) (a:Nat) (l:List Zn):List Int:=(l.filter λi=>k.counted a i.m.To.toNat i).map λi=>i.m.key.T
theorem ZuW (k:KS) (a:Nat) (l:List Zn) (i:Zn):ZtH k a (l++[i])=ZtH k a l++if k.counted a i.m.To.toNat i=true then [i.m.key.T] else []:=by
 unfold ZtH
 rw[List.filter_append,List.map_append]
 congr 1
 rw[List.filter_cons]
 split <;> rfl
theorem Zsd (k:KS) (a:Nat) (l:List Zn):(ZtH k a l).length≤l.length:=by
 unfold ZtH
 rw[List.length_map]
 exact List.length_filter_le _ _
theorem Zpa (t:Int) (k:KS) (f g:Nat):((settle1 wd t k f).node g).isBold=(k.node g).isBold∧((settle1 wd t k f).node g).rank=(k.node g).rank∧(settle1 wd t k f).cut=k.cut∧(settle1 wd t k f).net=k.net:=by
 unfold settle1
 cases hn:k.node f with
 | slow N=>exact ⟨rfl,rfl,rfl,rfl⟩
 | bold N r told=>
  dsimp only
  split
  ·refine ⟨?_,?_,rfl,rfl⟩
   ·show ((k.setN f _).node g).isBold=_
    rw[ZaK]
    split
    ·rename_i h;rw[←h.1,hn];rfl
    ·rfl
   ·show ((k.setN f _).node g).rank=_
    rw[ZaK]
    split
    ·rename_i h;rw[←h.1,hn];rfl
    ·rfl
  ·exact ⟨rfl,rfl,rfl,rfl⟩
theorem ZkA (t:Int):∀(l:List Nat) (k:KS) (g:Nat),((l.foldl (settle1 wd t) k).node g).isBold=(k.node g).isBold∧(l.foldl (settle1 wd t) k).cut=k.cut
 | [],_,_=>⟨rfl,rfl⟩
 | f::l,k,g=>by
  obtain ⟨h1,h2⟩:=ZkA t l (settle1 wd t k f) g
  obtain ⟨h3,_,h4,_⟩:=Zpa (wd:=wd) t k f g
  exact ⟨h1.trans h3,h2.trans h4⟩
theorem Zoh {c:CL} {m:Nat} (hf:f<wd.Feds.length) (hI:ZdF wd k s m) (hm:m≤60000000000) (hn:n≤1000) (hc:k.cut=some c) {N:WN} {rk:Nat} {tl:Int} (hN:k.node f=.bold N rk tl) {K:World→Prop} (hS:Sat e w (KP p wd n k M++Q))
  (hk:∀M' w',Sat e w' (KP p wd n (settle1 wd c.value k f) M'++Q)→K w') :
  ld1 (.pointer (some ⟨(M.ms f).2,0,none⟩)) w λt103 _=>ncP (pt p)<|fld 4 (pt p) w λt106 _=>ld1 t106 w λt107 _=>Cl prog 72 #[t107] w λt108 w=>
  (ld1 (.pointer (some ⟨(M.ms f).2,0,none⟩)) w (λv' w''=>v'=t103∧w''=w))∧(Cl prog 71 #[t103,t108] w λt109 w=>xt 0 t109 w λ_ _=>xt 1 t109 w λt111 _=>xt 2 t109 w λ_ _=>
  Cl prog 73 #[t111] w λt116 w=>Cl prog 22 #[pt p,.int .i64 (f:Int),t116] w λ_ w=>K w):=by
 have hnl:k.nodes.length=wd.Feds.length:=hI.inv.nl
 have hcv:(kcs wd k M)[4]?=some (pt M.c):=by unfold kcs;rw[hc];rfl
 refine Yt hS 0 rfl (Zfy hf hN) (v:=pt (M.ms f).1) rfl ?_
 refine Zh (Za (Zb hS 2 rfl hcv ?_))
 refine Zrc (ZhH hc hS) ?_
 refine ⟨Yt hS 0 rfl (Zfy hf hN) (v:=pt (M.ms f).1) rfl ⟨rfl,rfl⟩,?_⟩
 have h1:=Sat.focus hS f (Yk (F:=λj=>ndH wd n j (k.node j) (M.ms j)) hf)
 rw[hN] at h1
 have h2:Sat e w (ZfN (M.ms f) rk tl::Ya (M.ms f).1 wd f (Zs wd f) N n::Yh ((Zat wd n k M).eraseIdx f)::([Yh (Zar wd k M),BK p wd k M,NK wd k M,XK wd M,GK wd k M,CK wd k M]++Q)):=Sat.split (l':=[_,_]) h1
 have hW:=ZqK 1 h2 rfl
 have fin:∀{w:World} {N':WN} {Q:List HP},Sat e w (Ya (M.ms f).1 wd f (Zs wd f) N' n::ZfN (M.ms f) rk tl::Yh ((Zat wd n k M).eraseIdx f)::([Yh (Zar wd k M),BK p wd k M,NK wd k M,XK wd M,GK wd k M,CK wd k M]++Q))→Sat e w (KP p wd n (k.setN f (.bold N' rk tl)) M++Q):=by
  intro w N' Q h
  have h3:Sat e w (ndH wd n f (.bold N' rk tl) (M.ms f)::Yh ((Zat wd n k M).eraseIdx f)::([Yh (Zar wd k M),BK p wd k M,NK wd k M,XK wd M,GK wd k M,CK wd k M]++Q)):=Sat.join (l':=[_,_]) h.swap
  have h4:=Sat.unfocus f (Yk (F:=λj=>ndH wd n j (k.node j) (M.ms j)) hf) h3
  rw[Zcy hnl] at h4
  show Sat e w ([_,_,_,Zz _ 1 one M.nv (Zju wd (k.setN f (.bold N' rk tl)) M),_,_,_]++_)
  rw[Zf9 λ_=>by rw[hN];rfl]
  exact h4
 have hlb:(k.box f).length≤100000000000:=Nat.le_trans (hI.len f) (by omega)
 have hol:=Znh hI.inv.may hf hW c.value
 refine Zoe hn h2.swap (λhe w3 h3=>?_) (λhe v u w3 h3=>?_)
 ·refine Zok (Zow (ZoK ?_))
  refine Zev (l:=[]) 0 rfl (h3.mk_pure trivial) ZxZ (by decide) λv4 w4 h4=>?_
  have h5:Sat e w4 (KP p wd n (k.setN f (.bold N rk tl)) M++DI v4 []::Q):=fin (h4.selR [_,_,_,_,_,_,_,_,_,_,_] [_,_,_,_,_,_,_,_,_,_] [2,3,4,5,6,7,8,9,10,0] (by decide) rfl)
  rw[←hN,ZcV (by rw[hnl];exact hf)] at h5
  refine ZdQ (S:=DI v4 []) hf hI.bl hlb (Nat.zero_le _) h5 (λ_=>Zp) λM' w6 _ h6=>?_
  refine hk M' _ ?_
  have e1:settle1 wd c.value k f=k:=by unfold settle1;rw[hN];exact if_neg he
  rw[Zrv (by rw[hI.bl];exact hf)] at h6
  rw[e1]
  exact h6.selR [_,_,_,_,_,_,_,_] [_,_,_,_,_,_,_] [0,1,2,3,4,5,6] (by decide) rfl
 ·refine Zok (Zow (ZoK ?_))
  refine Zev (l:=Zek wd f (Zs wd f) N c.value) 1 rfl h3 (λ_=>Zp) (by unfold Zek;omega) λv4 w4 h4=>?_
  have h5:Sat e w4 (KP p wd n (k.setN f (.bold (Ys N c.value) rk tl)) M++DI v4 ((Zek wd f (Zs wd f) N c.value).map Zae)::Q):=fin (h4.selR [_,_,_,_,_,_,_,_,_,_,_,_] [_,_,_,_,_,_,_,_,_,_] [3,4,5,6,7,8,9,10,11,0] (by decide) rfl)
  refine ZdQ (k:=k.setN f (.bold (Ys N c.value) rk tl)) (S:=DI v4 ((Zek wd f (Zs wd f) N c.value).map Zae)) hf hI.bl hlb (by rw[List.length_map];unfold Zek;omega) h5 (λ_=>Zp) λM' w6 _ h6=>?_
  refine hk M' _ ?_
  have e1:settle1 wd c.value k f=(k.setN f (.bold (Ys N c.value) rk tl)).put f ((Zek wd f (Zs wd f) N c.value).map Zae):=by unfold settle1;rw[hN];exact if_pos he
  rw[e1]
  exact h6.selR [_,_,_,_,_,_,_,_] [_,_,_,_,_,_,_] [0,1,2,3,4,5,6] (by decide) rfl
theorem Zvh {N:WN} {rk:Nat} {tl:Int} {c:CL} (hN:k.node f=.bold N rk tl) (hc:k.cut=some c) (h1:¬(¬c.over<c.begun∨(c.T.all λt=>decide (t=c.begun))=false∨c.Rp.getD rk 0=c.begun)) (h2:c.on (c.over % 2)=0) {x:Int} (hx:x=ZaP (ZcM N::ZtH k f (k.box f))) {c1:CL} (h3:c1={ c with Rp:=c.Rp.set rk c.begun,least:=min c.least x }) :
  k.report wd f=if (c1.Rp.all λt=>decide (t=c1.begun))=true then (0,({ k with cut:=some { c1 with over:=c1.begun,value:=max c1.value c1.least } }:KS).settle wd (max c1.value c1.least)) else (0,{ k with cut:=some c1 }):=by
 subst hx h3
 unfold KS.report
 rw[hN,hc]
 dsimp only
 rw[if_neg h1,if_neg (λh=>h h2)]
 rfl
theorem ZwH {c:CL} {m i:Nat} (hR:c.Rp.length=m) (hi:i<m) (x:Int) {c1:CL} (h1:c1={ c with Rp:=c.Rp.set i c.begun,least:=min c.least x }) :
  ((Zcg m c).rep1 i x).rep2=Zcg m (if (c1.Rp.all λt=>decide (t=c1.begun))=true then { c1 with over:=c1.begun,value:=max c1.value c1.least } else c1):=by
 have e1:(Zcg m c).rep1 i x=Zcg m c1:=by
  rw[h1]
  unfold Zan.rep1
  exact congrArg (λz=>({ Zcg m c with Rp:=z,least:=min c.least x }:Zan)) (ZvO (by rw[hR];exact hi) c.begun)
 rw[e1]
 unfold Zan.rep2
 have h2:(Zcg m c1).all (λ_ r=>decide (r=(Zcg m c1).begun))=c1.Rp.all λr=>decide (r=c1.begun):=ZuD (c:=c1) (m:=m) (by rw[h1];exact (List.length_set).trans hR) (λr=>decide (r=c1.begun))
 by_cases h:(c1.Rp.all λt=>decide (t=c1.begun))=true
 ·rw[if_pos h,if_pos (h2.trans h)]
  rfl
 ·rw[if_neg h,if_neg (λh'=>h (h2.symm.trans h'))]
theorem Zo5 {N:WN} {rk:Nat} {tl:Int} (hf:f<wd.Feds.length) (hN:k.node f=.bold N rk tl) (hI:Ze1 wd k s) (hs:s≤1000000) (hn:n≤1000) (hS:Sat e w (KP p wd n k M++Q))
  (hk:∀M' w',Sat e w' (KP p wd n (k.report wd f).2 M'++Q)→K (.int .i64 (k.report wd f).1) w'):Cl prog 33 #[pt p,.int .i64 (f:Int),pt (M.ms f).2] w K:=by
 refine Zei ?_
 unfold Zd5
 rw[ZTH]
 have hn8:=hI.may.n
 have hb8:=Zk9 hI.may
 have hbf:(k.node f).isBold=true:=by rw[hN];rfl
 obtain ⟨c,hc,hco⟩:=Zll hI hf hbf
 have hrk:rk<Zai wd:=by have:=hI.rank f hf hbf;rw[hN] at this;exact this
 refine Zh (Zbd (Zfy hf hN) λa ha=>Yt hS 0 rfl ha (v:=pt (M.ms f).1) rfl ?_)
 have h1:=Sat.focus hS f (Yk (F:=λj=>ndH wd n j (k.node j) (M.ms j)) hf)
 rw[hN] at h1
 have h2:Sat e w (ZfN (M.ms f) rk tl::Ya (M.ms f).1 wd f (Zs wd f) N n::Yh ((Zat wd n k M).eraseIdx f)::([Yh (Zar wd k M),BK p wd k M,NK wd k M,XK wd M,GK wd k M,CK wd k M]++Q)):=Sat.split (l':=[_,_]) h1
 have hW:=ZqK 1 h2 rfl
 refine ZkN h2.swap λw3 h3=>?_
 have h4:Sat e w3 (ndH wd n f (.bold N rk tl) (M.ms f)::Yh ((Zat wd n k M).eraseIdx f)::([Yh (Zar wd k M),BK p wd k M,NK wd k M,XK wd M,GK wd k M,CK wd k M]++Q)):=Sat.join (l':=[_,_]) h3.swap
 have h5:=Sat.unfocus f (Yk (F:=λj=>ndH wd n j (k.node j) (M.ms j)) hf) h4
 rw[←hN,Zcy hI.nl,ZcV (by rw[hI.nl];exact hf)] at h5
 refine ZwC (vs:=Ye .i64 (ZcM N)) rfl rfl h5 λb w6 h6=>?_
 have h7:Sat e w6 (Zz 3 1 (Ye .i64) (.slice (some ⟨b,0,none⟩) 1 1) [ZcM N]::(KP p wd n k M++Q)):=h6.imp λg hg=>.inr ⟨b,1,Ye .i64 (ZcM N),rfl,hg,rfl,Nat.le_refl _,rfl⟩
 have hi8:∀{w} {v:Value} {l:List Int},Sat e w (Zz 3 1 (Ye .i64) v l::(KP p wd n k M++Q))→Sat e w (KP p wd n k M++Zz 3 1 (Ye .i64) v l::Q):=λh=>h.selR [_,_,_,_,_,_,_,_] [_,_,_,_,_,_,_,_] [1,2,3,4,5,6,7,0] (by decide) rfl
 refine Zh (Za (Zjt hf (hi8 h7) (Zt (hi8 h7) 1 rfl (ZiZ hf) ?_)))
 have hlen:=Znn hI hs f
 refine ZjF (λz t7 t34 w=>∃j:Nat,j≤(k.box f).length∧t34=.int .i64 j∧z=(k.box f).length - j∧Sat e w (Zz 3 1 (Ye .i64) t7 (ZcM N::ZtH k f ((k.box f).take j))::(KP p wd n k M++Q))) (k.box f).length ⟨0,Nat.zero_le _,rfl,rfl,h7⟩ ?_
 rintro z t7 _ w8 g1 ⟨j,hj,rfl,rfl,h8⟩ hg1
 refine Za7 (λc0=>Zi ?_) (λc0=>Zf ?_)
 ·obtain ⟨i,hi⟩:=Zk (l:=k.box f) (j:=j) (by omega)
  have hio:=hI.box f i (List.mem_of_getElem? hi)
  obtain ⟨to,hTo⟩:∃b:Nat,i.m.To=b:=⟨i.m.To.toNat,by have:=hio.to;omega⟩
  have htl:to<wd.Feds.length:=by have:=hio.to;omega
  have hcl:ZtH k f ((k.box f).take (j+1))=ZtH k f ((k.box f).take j)++if k.counted f to i=true then [i.m.key.T] else []:=by
   rw[Zx hi,ZuW,hTo,Int.toNat_natCast]
  refine J1.cut (λt7 w=>Sat e w (Zz 3 1 (Ye .i64) t7 (ZcM N::ZtH k f ((k.box f).take (j+1)))::(KP p wd n k M++Q))) (λk2 hcut=>?_) ?_
  ·refine Zw h8 2 rfl (ZiZ hf) (λ_=>rfl) hi λa ha=>Ym h8 2 rfl ha rfl ?_
   refine Yp (cs:=Zn.zero.cs) h8 rfl λt9 w9 h9=>?_
   refine Zq h9 0 rfl (vs:=i.cs) rfl rfl (by decide) (Zg _) (cs':=i.cs) (by rfl) λw10 h10=>?_
   refine Za (Za (Zb h10 0 rfl (v:=.int .i64 i.m.To) rfl ?_))
   refine Zo h10 0 (vs:=i.cs) rfl (by rfl) rfl ?_
   rw[hTo]
   have h11:Sat e w10 (KP p wd n k M++(blk t9 84 i.cs::Zz 3 1 (Ye .i64) t7 (ZcM N::ZtH k f ((k.box f).take j))::Q)):=h10.selR [_,_,_,_,_,_,_,_,_] [_,_,_,_,_,_,_,_,_] [2,3,4,5,6,7,8,0,1] (by decide) rfl
   refine ZjS hf htl h11 λw12 h12=>?_
   refine Zok (Zow (ZoK ?_))
   cases hcn:k.counted f to i with
   | false=>
    rw[hcn,if_neg (by decide),List.append_nil] at hcl
    rw[hcl] at hcut
    exact Zf (hcut _ _ (h12.selR [_,_,_,_,_,_,_,_,_] [_,_,_,_,_,_,_,_] [8,0,1,2,3,4,5,6] (by decide) rfl))
   | true=>
    rw[hcn,if_pos rfl] at hcl
    rw[hcl] at hcut
    refine Zi (Za (Za (Za (Zb h12 7 rfl (v:=.int .i64 i.m.key.T) rfl ?_))))
    refine Zj7 Zvs (f:=Ye .i64) (λ_=>rfl) Zmu (h12.selR [_,_,_,_,_,_,_,_,_] [_,_,_,_,_,_,_,_] [8,0,1,2,3,4,5,6] (by decide) rfl) (x:=i.m.key.T) rfl (by
     have:=Zsd k f ((k.box f).take j)
     rw[List.length_take] at this
     rw[List.length_cons]
     omega) λv' w13 h13=>?_
    exact hcut _ _ h13
  ·intro t7' w13 h13
   refine Yr (by omega) ?_
   exact hg1 _ _ _ _ (by omega) ⟨j+1,by omega,rfl,rfl,h13⟩
 ·have ej:j=(k.box f).length:=by omega
  rw[ej,List.take_length] at h8
  have hcv:(kcs wd k M)[4]?=some (pt M.c):=by unfold kcs;rw[hc];rfl
  have h9:=hi8 h8
  refine Zh (Za (Zb h9 2 rfl hcv ?_))
  refine ZfD (ZhH hc h9) ?_
  refine ZaY h9 λw10 h10=>?_
  refine Zh (Za (Zb h10 2 rfl hcv ?_))
  refine Zh (Zbd (Zfy hf hN) λa ha=>Yt h10 0 rfl ha (v:=.int .i64 (rk:Int)) rfl ?_)
  have hrl:=Zsd k f (k.box f)
  refine Zeu (h10.pick 7 rfl) (λ_=>Zp) (by rw[List.length_cons];omega) λw11 h11=>?_
  have h12:Sat e w11 (KP p wd n k M++Q):=h11.drop
  refine ⟨Yt h12 0 rfl ha (v:=.int .i64 (rk:Int)) rfl ⟨rfl,rfl⟩,Zb h12 2 rfl hcv ⟨rfl,rfl⟩,?_⟩
  generalize hx:ZaP (ZcM N::ZtH k f (k.box f))=x
  have hxv:Yu x=true:=by rw[←hx];exact Zo9 _
  obtain ⟨_,_,hx64⟩:=Zmc hxv
  have rest:∀{K:KV},K=K→True:=λ_=>trivial
  clear rest
  have hT:=hco.t
  have hE:(Zcg (Zai wd) c).early rk↔(¬c.over<c.begun∨(c.T.all λt=>decide (t=c.begun))=false∨c.Rp.getD rk 0=c.begun):=by
   unfold Zan.early
   rw[Zvp hT (λt=>decide (t=(Zcg (Zai wd) c).begun))]
   rfl
  have same:∀{w} (er:Int),k.report wd f=(er,k)→er≠0→Sat e w (ZbI M.c (Zcg (Zai wd) c)::([Yh (Zat wd n k M),Yh (Zar wd k M),BK p wd k M,NK wd k M,XK wd M,GK wd k M]++Q))→K (.int .i64 er) w:=by
   intro w er he _ h
   rw[he] at hk
   have:=Zf8 (k:=k) c c hc h
   rw[ZoM hc] at this
   exact hk M _ this
  refine Zo1 (by show (Zai wd:Int)≤8;omega) (by omega) (by show (rk:Int)<(Zai wd:Int);omega) hx64 hxv (ZhH hc h12) (λhe w13 h13=>?_) (λhe ho w13 h13=>?_) (λhe ho w13 h13=>?_)
  ·refine Zng (by decide) (Zd (Zd (Zd (Zd (Zd (Zd (Zd (Yv (Zi ?_)))))))))
   refine same 130 ?_ (by decide) h13
   unfold KS.report
   rw[hN,hc]
   exact if_pos (hE.1 he)
  ·refine Zng (by decide) (Zd (Zd (Zd (Zd (Zd (Zd (Zd (Yv (Zi ?_)))))))))
   refine same 150 ?_ (by decide) h13
   unfold KS.report
   rw[hN,hc]
   dsimp only
   rw[if_neg (λh=>he (hE.2 h))]
   exact if_pos (by have:0<c.on (c.over % 2):=ho;omega)
  ·have hon:=hco.onk (c.over % 2)
   have ho':¬0<c.on (c.over % 2):=ho
   have hov:=hco.over
   have hbg:=hco.begun
   generalize hc1:({ c with Rp:=c.Rp.set rk c.begun,least:=min c.least x }:CL)=c1
   have hre:=Zvh (wd:=wd) hN hc (λh=>he (hE.2 h)) (by omega) hx.symm hc1.symm
   have hrp:=ZwH (m:=Zai wd) hco.r hrk x hc1.symm
   rw[hrp] at h13
   have e1b:c1.begun=c.begun:=by rw[←hc1]
   have e1o:c1.over=c.over:=by rw[←hc1]
   have hlt:c.over<c.begun:=Classical.byContradiction λh=>he (hE.2 (.inl h))
   refine ZoP rfl (Zj (Zj (Zwz ?_)))
   by_cases hall:(c1.Rp.all λt=>decide (t=c1.begun))=true
   ·rw[if_pos hall] at hre h13
    generalize hc2:({ c1 with over:=c1.begun,value:=max c1.value c1.least }:CL)=c2 at*
    have e2v:max c1.value c1.least=c2.value:=by rw[←hc2]
    have e2o:c2.over=c.begun:=by rw[←hc2];exact e1b
    rw[e2v] at hre
    have hco2:ZeV c2 (Zai wd) (s+1):=by
     have h5:=hco.on
     rw[←hc2,←hc1]
     exact ⟨hco.t,(List.length_set).trans hco.r,by dsimp only;omega,by dsimp only;omega,by dsimp only;omega⟩
    have h14:=Zf8 (k:=k) c2 c hc h13
    generalize hk2:({ k with cut:=some c2 }:KS)=k2 at*
    have e2n:∀j,k2.node j=k.node j:=λj=>by rw[←hk2];rfl
    have e2c:k2.cut=some c2:=by rw[←hk2]
    have hcv2:(kcs wd k2 M)[4]?=some (pt M.c):=by unfold kcs;rw[e2c];rfl
    have hp2:ZdF wd k2 (s+1) (40000*(s+1)):=by
     rw[←hk2]
     exact (hI.pre.mono (Nat.le_succ s) (Nat.le_refl _)).cut (Nat.le_refl _) (Zpf hI hf hbf) hco2
    refine Zj (Za (Zj (Zb h14 2 rfl hcv2 (Zj (ZfD (ZhH e2c h14) (Zj (Zj ?_)))))))
    refine Zd8 (by show ¬c2.over=c.over;omega) (Yd (Zf ?_))
    refine Zh (Za (Zb h14 2 rfl (v:=M.nv) rfl (Zt h14 3 rfl (λ_=>Zp) ?_)))
    rw[List.length_map,List.length_range]
    have e2l:k2.nodes.length=wd.Feds.length:=by rw[←hk2];exact hI.nl
    refine Zdk (λz t91 w=>∃j:Nat,j≤wd.Feds.length∧t91=.int .i64 j∧z=wd.Feds.length - j∧∃M',Sat e w (KP p wd n ((List.range j).foldl (settle1 wd c2.value) k2) M'++Q)) wd.Feds.length ⟨0,Nat.zero_le _,rfl,rfl,M,h14⟩ ?_
    rintro z _ w15 g3 ⟨j,hj,rfl,rfl,M1,h15⟩ hg3
    have hfp:=ZhP (t:=c2.value) (List.range j) (λg hg=>by have:=List.mem_range.1 hg;omega) hp2
    rw[List.length_range] at hfp
    have hkd:=ZkA (wd:=wd) c2.value (List.range j) k2
    refine Za7 (λc3=>Zi ?_) (λc3=>Zf ?_)
    ·have hjl:j<wd.Feds.length:=by omega
     have hsucc:(List.range (j+1)).foldl (settle1 wd c2.value) k2=settle1 wd c2.value ((List.range j).foldl (settle1 wd c2.value) k2) j:=by
      rw[List.range_succ,List.foldl_append]
      rfl
     refine J0.cut (λw=>∃M',Sat e w (KP p wd n ((List.range (j+1)).foldl (settle1 wd c2.value) k2) M'++Q)) (λk4 hcut=>?_) ?_
     ·rw[hsucc] at hcut
      generalize hkj:(List.range j).foldl (settle1 wd c2.value) k2=kj at*
      refine ZbX hjl h15 ?_
      cases hnj:kj.node j with
      | slow N'=>
       refine ZtL (Zf (hcut _ ⟨M1,?_⟩))
       have e1:settle1 wd c2.value kj j=kj:=by unfold settle1;rw[hnj]
       rw[e1]
       exact h15
      | bold N' rk' tl'=>
       refine ZtQ _ (Zi (ZaY h15 λw16 h16=>?_))
       refine Zh (Za ?_)
       exact Zoh hjl hfp (by omega) hn ((hkd 0).2.trans e2c) hnj h16 λM' w17 h17=>hcut _ ⟨M',h17⟩
     ·rintro w17 ⟨M',h17⟩
      refine Yr (by omega) ?_
      exact hg3 _ _ _ (by omega) ⟨j+1,by omega,rfl,rfl,M',h17⟩
    ·have ej:j=wd.Feds.length:=by omega
     rw[ej] at h15
     rw[hre] at hk
     refine hk M1 _ ?_
     show Sat e w15 (KP p wd n (k2.settle wd c2.value) M1++Q)
     rw[ZlS,e2l]
     exact h15
   ·rw[if_neg hall] at hre h13
    have h14:=Zf8 (k:=k) c1 c hc h13
    generalize hk2:({ k with cut:=some c1 }:KS)=k2 at*
    have e2c:k2.cut=some c1:=by rw[←hk2]
    have hcv2:(kcs wd k2 M)[4]?=some (pt M.c):=by unfold kcs;rw[e2c];rfl
    refine Zj (Za (Zj (Zb h14 2 rfl hcv2 (Zj (ZfD (ZhH e2c h14) (Zj (Zj ?_)))))))
    refine Znq (by show c1.over=c.over;exact e1o) (Yd (Zi ?_))
    rw[hre] at hk
    exact hk M _ h14
def inN (wd:Wd) (a:Int):Prop:=0≤a∧a<wd.Feds.length
instance (wd:Wd) (a:Int):Decidable (inN wd a):=by unfold inN;infer_instance
def ZuO (wd:Wd) (o:Zbs):Prop:=o.Kind<0∨6<o.Kind∨(o.Kind≠4∧¬inN wd o.A)∨(o.Kind=2∧¬inN wd o.B)
instance (wd:Wd) (o:Zbs):Decidable (ZuO wd o):=by unfold ZuO;infer_instance
def doK (wd:Wd) (k:KS) (o:Zbs):Int × KS:=if ZuO wd o then (1,k) else k.do' wd o.Kind.toNat o.A.toNat o.B.toNat
theorem Ze1.doK {k:KS} {s:Nat} (h:Ze1 wd k s) (o:Zbs):Ze1 wd (doK wd k o).2 (s+1):=by
 unfold Go.Proofs.YtnhaekgogppbiaaGreat.doK
 split
 ·exact h.mono (Nat.le_succ _)
 ·rename_i hb
  refine h.do' _ _ _ (λh4=>?_) λh2=>?_
  ·have:inN wd o.A:=Classical.byContradiction λhn=>hb (.inr (.inr (.inl ⟨λh=>h4 (by rw[h];rfl),hn⟩)))
   unfold inN at this
   omega
  ·have:inN wd o.B:=Classical.byContradiction λhn=>hb (.inr (.inr (.inr ⟨by
    have h1:¬o.Kind<0:=λh=>hb (.inl h)
    omega,hn⟩)))
   unfold inN at this
   omega
abbrev Zdq (n:Nat) (o:Zbs):Nat:=if o.Kind=0 then n+1 else n
theorem ZrZ {o:Zbs} (hs:s≤1000000) (hn:n≤1000) (hS:Sat e w (Zby p wd k n s::Q)) (hk:∀w',Sat e w' (Zby p wd (doK wd k o).2 (Zdq n o) (s+1)::Q)→K (.int .i64 (doK wd k o).1) w') :
  Cl prog 8 #[pt p,.agg o.cs.toArray] w K:=by
 refine ZhK ?_
 unfold Zij
 obtain ⟨M,hI,h0⟩:=ZpC hS
 have hI':=hI.doK o
 refine Yp (cs:=o.cs) h0 rfl λt3 w1 h1=>?_
 have h2:Sat e w1 (KP p wd n k M++blk t3 38 o.cs::Q):=h1.selR [_,_,_,_,_,_,_,_] [_,_,_,_,_,_,_,_] [1,2,3,4,5,6,7,0] (by decide) rfl
 have fin:∀{w:World} {M':KM} {er:Int} {k':KS},doK wd k o=(er,k')→Sat e w (KP p wd (Zdq n o) k' M'++blk t3 38 o.cs::Q)→K (.int .i64 er) w:=by
  intro w M' er k' he h
  rw[he] at hk hI'
  exact hk _ (ZkQ (M:=M') hI' (h.selR [_,_,_,_,_,_,_,_] [_,_,_,_,_,_,_] [0,1,2,3,4,5,6] (by decide) rfl))
 have hle:n≤Zdq n o:=by unfold Zdq;split <;> omega
 have bad:ZuO wd o→∀{w:World},Sat e w (KP p wd n k M++blk t3 38 o.cs::Q)→K (.int .i64 1) w:=λhb _ h=>fin (if_pos hb) (Zrf hle h)
 have good:¬ZuO wd o→doK wd k o=k.do' wd o.Kind.toNat o.A.toNat o.B.toNat:=λhb=>if_neg hb
 by_cases c1:o.Kind<0
 ·refine Za (Zb h1 0 rfl rfl (Ztt (by omega) (Zd (Zd (Zd (Yv (Zd (Zd (Zd (Zd (Zrb (Zd (Zd (Zd (Zd (Zd (Yv (Zd (Zd (Zd (Zd (Zrb (Zd (Zd (Zd (Zd (Zd (Yv (Zi ?_)))))))))))))))))))))))))))))
  exact bad (.inl c1) h2
 by_cases c2:6<o.Kind
 ·refine Za (Zb h1 0 rfl rfl (Ze7 (by omega) (Ze (Za (Ze (Zb h1 0 rfl rfl (Ze (ZtF (by omega) (Yd (Zd (Zd (Zd (Zd (Zrb (Zd (Zd (Zd (Zd (Zd (Yv (Zd (Zd (Zd (Zd (Zrb (Zd (Zd (Zd (Zd (Zd (Yv (Zi ?_))))))))))))))))))))))))))))))))
  exact bad (.inr (.inl c2)) h2
 by_cases c4:o.Kind=4
 ·have hg:=good (by rintro (h | h | h | h) <;> omega)
  rw[show o.Kind.toNat=4 from by omega] at hg
  have hst:Zdq n o=n:=if_neg (by omega)
  rw[hst] at fin
  refine Za (Zb h1 0 rfl rfl (Ze7 (by omega) (Ze (Za (Ze (Zb h1 0 rfl rfl (Ze (Zle (by omega) (Yd (Ze (Za (Ze (Zb h1 0 rfl rfl (Ze (ZoP (by omega) (Zj (Zu (Zd (Zd (Zd (Zd (Ze (Yd (Yd (Ze (Za (Ze (Zb h1 0 rfl rfl (Ze (Zd8 (by omega) (Zj (Zu (Zd (Zd (Zd (Zd (Ze (Yd (Yd (Zf (Za (Zb h1 0 rfl rfl (Zd8 (by omega) (Zf (Zd8 (by omega) (Zf (Zd8 (by omega) (Zf (Zd8 (by omega) (Zf (Znq (by omega) (Zi (Zh (Za ?_))))))))))))))))))))))))))))))))))))))))))))))))))))))
  cases hc:k.cut with
  | none=>
   have hcv:(kcs wd k M)[4]?=some (.pointer none):=by unfold kcs;rw[hc];rfl
   refine Zb h1 3 rfl hcv (Ztj (Zi (fin (hg.trans ?_) h2)))
   show k.begin'=_
   unfold KS.begin'
   rw[hc]
  | some c=>
   obtain ⟨_,hco⟩:=hI.cutIs hc
   have hcv:(kcs wd k M)[4]?=some (pt M.c):=by unfold kcs;rw[hc];rfl
   refine Zb h1 3 rfl hcv (ZmP _ (Zf (Zh (Za (Zb h1 3 rfl hcv ?_)))))
   refine Zqy (by have:=hco.begun;show 0≤c.begun∧c.begun≤1000000;omega) (ZhH hc h2) λw3 h3=>?_
   by_cases hu:c.over<c.begun
   ·rw[if_pos (show (Zcg (Zai wd) c).over<(Zcg (Zai wd) c).begun from hu)] at h3 ⊢
    have h4:=Zf8 (k:=k) c c hc h3
    rw[ZoM hc] at h4
    refine fin (hg.trans ?_) h4
    show k.begin'=_
    unfold KS.begin'
    rw[hc]
    exact if_pos hu
   ·rw[if_neg (show ¬(Zcg (Zai wd) c).over<(Zcg (Zai wd) c).begun from hu)] at h3 ⊢
    have h4:=Zf8 (k:=k) { c with begun:=c.begun+1,least:=Inf } c hc h3
    refine fin (hg.trans ?_) h4
    show k.begin'=_
    unfold KS.begin'
    rw[hc]
    exact if_neg hu
 ·by_cases ca:inN wd o.A
  ·obtain ⟨a,hA⟩:∃a:Nat,o.A=a:=⟨o.A.toNat,by unfold inN at ca;omega⟩
   have hal:a<wd.Feds.length:=by unfold inN at ca;omega
   have hat:o.A.toNat=a:=by omega
   by_cases c2':o.Kind=2
   ·by_cases cb:inN wd o.B
    ·obtain ⟨b,hB⟩:∃b:Nat,o.B=b:=⟨o.B.toNat,by unfold inN at cb;omega⟩
     have hbl:b<wd.Feds.length:=by unfold inN at cb;omega
     have hg:=good (by rintro (h | h | h | h);omega;omega;exact h.2 ca;exact h.2 cb)
     rw[show o.Kind.toNat=2 from by omega,hat,show o.B.toNat=b from by omega] at hg
     have hst:Zdq n o=n:=if_neg (by omega)
     rw[hst] at fin
     refine Za (Zb h1 0 rfl rfl (Ze7 (by omega) (Ze (Za (Ze (Zb h1 0 rfl rfl (Ze (Zle (by omega) (Yd (Ze (Za (Ze (Zb h1 0 rfl rfl (Ze (Zng (by omega) (Zj (Ze (Ze (Za (Ze (Zb h1 0 rfl rfl (Ze ?_))))))))))))))))))))))
     refine Zdx h2 ?_
     rw[decide_eq_true (show 0≤o.A∧o.A<(wd.Feds.length:Int) from ca)]
     refine Ze (ZaJ (Ze (Yv (Yd (Ze (Za (Ze (Zb h1 0 rfl rfl (Ze (Znq (by omega) (Zj (Ze (Ze (Za (Ze (Zb h1 0 rfl rfl (Ze ?_)))))))))))))))))
     refine Zdx h2 ?_
     rw[decide_eq_true (show 0≤o.B∧o.B<(wd.Feds.length:Int) from cb)]
     refine Ze (ZaJ (Ze (Yv (Yd (Zf (Za (Zb h1 0 rfl rfl (Zd8 (by omega) (Zf (Zd8 (by omega) (Zf (Znq (by omega) (Zi (Za (Zb h1 0 rfl rfl (Za (Zb h1 0 rfl rfl ?_)))))))))))))))))
     rw[hA,hB]
     exact Zoi hal hbl hI hs h2 λM' w3 h3=>fin hg h3
    ·refine Za (Zb h1 0 rfl rfl (Ze7 (by omega) (Ze (Za (Ze (Zb h1 0 rfl rfl (Ze (Zle (by omega) (Yd (Ze (Za (Ze (Zb h1 0 rfl rfl (Ze (Zng (by omega) (Zj (Ze (Ze (Za (Ze (Zb h1 0 rfl rfl (Ze ?_))))))))))))))))))))))
     refine Zdx h2 ?_
     rw[decide_eq_true (show 0≤o.A∧o.A<(wd.Feds.length:Int) from ca)]
     refine Ze (ZaJ (Ze (Yv (Yd (Ze (Za (Ze (Zb h1 0 rfl rfl (Ze (Znq (by omega) (Zj (Ze (Ze (Za (Ze (Zb h1 0 rfl rfl (Ze ?_)))))))))))))))))
     refine Zdx h2 ?_
     rw[decide_eq_false (show ¬(0≤o.B∧o.B<(wd.Feds.length:Int)) from cb)]
     refine Ze (Zch (Ze (Yv (Yd (Zi ?_)))))
     exact bad (.inr (.inr (.inr ⟨c2',cb⟩))) h2
   ·have hg:=good (by rintro (h | h | h | h);omega;omega;exact h.2 ca;exact c2' h.1)
    rw[hat] at hg
    have front:∀{K:KV},K (.bool true) w1→Cl prog 25 #[pt p,.int .i64 o.A] w1 K:=λh=>Zdx h2 (by
     rw[decide_eq_true (show 0≤o.A∧o.A<(wd.Feds.length:Int) from ca)]
     exact h)
    rcases (show o.Kind=0∨o.Kind=1∨o.Kind=3∨o.Kind=5∨o.Kind=6 from by omega) with c | c | c | c | c
    ·rw[show o.Kind.toNat=0 from by omega] at hg
     have hst:Zdq n o=n+1:=if_pos c
     rw[hst] at fin
     refine Za (Zb h1 0 rfl rfl (Ze7 (by omega) (Ze (Za (Ze (Zb h1 0 rfl rfl (Ze (Zle (by omega) (Yd (Ze (Za (Ze (Zb h1 0 rfl rfl (Ze (Zng (by omega) (Zj (Ze (Ze (Za (Ze (Zb h1 0 rfl rfl (Ze ?_))))))))))))))))))))))
     refine front ?_
     refine Ze (ZaJ (Ze (Yv (Yd (Ze (Za (Ze (Zb h1 0 rfl rfl (Ze (Zd8 (by omega) (Zj (Zu (Zd (Zd (Zd (Zd (Ze (Yd (Yd (Zf (Za (Zb h1 0 rfl rfl (Znq (by omega) (Zi (Za (Zb h1 0 rfl rfl ?_))))))))))))))))))))))))))
     rw[hA]
     exact Zti hal hI hs hn h2 λM' w3 h3=>fin hg h3
    ·rw[show o.Kind.toNat=1 from by omega] at hg
     have hst:Zdq n o=n:=if_neg (by omega)
     rw[hst] at fin
     refine Za (Zb h1 0 rfl rfl (Ze7 (by omega) (Ze (Za (Ze (Zb h1 0 rfl rfl (Ze (Zle (by omega) (Yd (Ze (Za (Ze (Zb h1 0 rfl rfl (Ze (Zng (by omega) (Zj (Ze (Ze (Za (Ze (Zb h1 0 rfl rfl (Ze ?_))))))))))))))))))))))
     refine front ?_
     refine Ze (ZaJ (Ze (Yv (Yd (Ze (Za (Ze (Zb h1 0 rfl rfl (Ze (Zd8 (by omega) (Zj (Zu (Zd (Zd (Zd (Zd (Ze (Yd (Yd (Zf (Za (Zb h1 0 rfl rfl (Zd8 (by omega) (Zf (Znq (by omega) (Zi (Za (Zb h1 0 rfl rfl ?_))))))))))))))))))))))))))))
     rw[hA]
     exact ZqM hal hI hs h2 λM' w3 h3=>fin hg h3
    ·rw[show o.Kind.toNat=3 from by omega] at hg
     have hst:Zdq n o=n:=if_neg (by omega)
     rw[hst] at fin
     refine Za (Zb h1 0 rfl rfl (Ze7 (by omega) (Ze (Za (Ze (Zb h1 0 rfl rfl (Ze (Zle (by omega) (Yd (Ze (Za (Ze (Zb h1 0 rfl rfl (Ze (Zng (by omega) (Zj (Ze (Ze (Za (Ze (Zb h1 0 rfl rfl (Ze ?_))))))))))))))))))))))
     refine front ?_
     refine Ze (ZaJ (Ze (Yv (Yd (Ze (Za (Ze (Zb h1 0 rfl rfl (Ze (Zd8 (by omega) (Zj (Zu (Zd (Zd (Zd (Zd (Ze (Yd (Yd (Zf (Za (Zb h1 0 rfl rfl (Zd8 (by omega) (Zf (Zd8 (by omega) (Zf (Zd8 (by omega) (Zf (Znq (by omega) (Zi (Za (Zb h1 0 rfl rfl ?_))))))))))))))))))))))))))))))))
     rw[hA]
     exact ZsQ hal hI h2 λM' w3 h3=>fin hg h3
    ·rw[show o.Kind.toNat=5 from by omega] at hg
     have hst:Zdq n o=n:=if_neg (by omega)
     rw[hst] at fin
     refine Za (Zb h1 0 rfl rfl (Ze7 (by omega) (Ze (Za (Ze (Zb h1 0 rfl rfl (Ze (Zle (by omega) (Yd (Ze (Za (Ze (Zb h1 0 rfl rfl (Ze (Zng (by omega) (Zj (Ze (Ze (Za (Ze (Zb h1 0 rfl rfl (Ze ?_))))))))))))))))))))))
     refine front ?_
     refine Ze (ZaJ (Ze (Yv (Yd (Ze (Za (Ze (Zb h1 0 rfl rfl (Ze (Zd8 (by omega) (Zj (Zu (Zd (Zd (Zd (Zd (Ze (Yd (Yd (Zf (Za (Zb h1 0 rfl rfl (Zd8 (by omega) (Zf (Zd8 (by omega) (Zf (Zd8 (by omega) (Zf (Zd8 (by omega) (Zf (Zd8 (by omega) (Zf (Za (Zb h1 0 rfl rfl ?_))))))))))))))))))))))))))))))))))
     rw[hA]
     refine ZbX hal h2 ?_
     cases hN:k.node a with
     | slow N=>
      refine Ztj (Zi (fin (hg.trans ?_) h2))
      show k.turn a=_
      unfold KS.turn
      rw[hN]
     | bold N rk tl=>
      refine ZmP _ (Zf ?_)
      refine Za (Zb h1 0 rfl rfl (Znq (by omega) (Zi (Zh (Za ?_)))))
      have hbf:(k.node a).isBold=true:=by rw[hN];rfl
      obtain ⟨c',hc,hco⟩:=Zll hI hal hbf
      have hrk:rk<Zai wd:=by have:=hI.rank a hal hbf;rw[hN] at this;exact this
      have hb8:=Zk9 hI.may
      have hcv:(kcs wd k M)[4]?=some (pt M.c):=by unfold kcs;rw[hc];rfl
      refine Zb h2.drew 2 rfl hcv ?_
      refine Zh (Zbd (Zfy hal hN) λa' ha'=>Yt h2.drew 0 rfl ha' (v:=.int .i64 (rk:Int)) rfl ?_)
      refine Ztb (by omega) (by show (rk:Int)<(Zai wd:Int);omega) (ZhH hc h2.drew) λw3 h3=>?_
      rw[Zvu (by rw[hco.t];exact hrk)] at h3
      have h4:=Zf8 (k:=k) _ c' hc h3
      by_cases hu:¬c'.over<c'.begun∨c'.t rk=c'.begun
      ·rw[if_pos hu,ZoM hc] at h4
       have e1:(Zcg (Zai wd) c').turnE rk=130:=if_pos hu
       rw[e1]
       refine fin (hg.trans ?_) h4
       show k.turn a=_
       unfold KS.turn
       rw[hN,hc]
       exact if_pos hu
      ·rw[if_neg hu] at h4
       have e1:(Zcg (Zai wd) c').turnE rk=0:=if_neg hu
       rw[e1]
       refine fin (hg.trans ?_) h4
       show k.turn a=_
       unfold KS.turn
       rw[hN,hc]
       exact if_neg hu
    ·rw[show o.Kind.toNat=6 from by omega] at hg
     have hst:Zdq n o=n:=if_neg (by omega)
     rw[hst] at fin
     refine Za (Zb h1 0 rfl rfl (Ze7 (by omega) (Ze (Za (Ze (Zb h1 0 rfl rfl (Ze (Zle (by omega) (Yd (Ze (Za (Ze (Zb h1 0 rfl rfl (Ze (Zng (by omega) (Zj (Ze (Ze (Za (Ze (Zb h1 0 rfl rfl (Ze ?_))))))))))))))))))))))
     refine front ?_
     refine Ze (ZaJ (Ze (Yv (Yd (Ze (Za (Ze (Zb h1 0 rfl rfl (Ze (Zd8 (by omega) (Zj (Zu (Zd (Zd (Zd (Zd (Ze (Yd (Yd (Zf (Za (Zb h1 0 rfl rfl (Zd8 (by omega) (Zf (Zd8 (by omega) (Zf (Zd8 (by omega) (Zf (Zd8 (by omega) (Zf (Zd8 (by omega) (Zf (Za (Zb h1 0 rfl rfl ?_))))))))))))))))))))))))))))))))))
     rw[hA]
     refine ZbX hal h2 ?_
     cases hN:k.node a with
     | slow N=>
      refine Ztj (Zi (fin (hg.trans ?_) h2))
      show k.report wd a=_
      unfold KS.report
      rw[hN]
     | bold N rk tl=>
      refine ZmP _ (Zf ?_)
      refine Za (Zb h1 0 rfl rfl (Zd8 (by omega) (Zf (Za (Zb h1 0 rfl rfl ?_)))))
      rw[hA]
      exact Zo5 hal hN hI hs hn h2 λM' w3 h3=>fin hg h3
  ·refine Za (Zb h1 0 rfl rfl (Ze7 (by omega) (Ze (Za (Ze (Zb h1 0 rfl rfl (Ze (Zle (by omega) (Yd (Ze (Za (Ze (Zb h1 0 rfl rfl (Ze (Zng (by omega) (Zj (Ze (Ze (Za (Ze (Zb h1 0 rfl rfl (Ze ?_))))))))))))))))))))))
   refine Zdx h2 ?_
   rw[decide_eq_false (show ¬(0≤o.A∧o.A<(wd.Feds.length:Int)) from ca)]
   refine Ze (Zch (Ze (Yv (Yd (Zd (Zd (Zd (Zd (Zrb (Zd (Zd (Zd (Zd (Zd (Yv (Zi ?_))))))))))))))))
   exact bad (.inr (.inr (.inl ⟨c4,ca⟩))) h2
def ZBN (wd:Wd) (k:KS) (a:Int):List Zak:=if inN wd a then (k.node a.toNat).log wd a.toNat else []
def ZDK (wd:Wd) (k:KS) (a:Int):List Zn:=if inN wd a then k.box a.toNat else []
theorem Zxy {a:Int} (ha:inN wd a):∃b:Nat,a=b∧b<wd.Feds.length:=⟨a.toNat,by unfold inN at ha;omega,by unfold inN at ha;omega⟩
theorem ZdZ {a:Int} (hn:n≤1000) (hS:Sat e w (Zby p wd k n s::Q)) (hk:∀v w',Sat e w' (DD v (ZBN wd k a)::Zby p wd k n s::Q)→K v w'):Cl prog 10 #[pt p,.int .i64 a] w K:=by
 refine Zgr ?_
 unfold Zhc
 obtain ⟨M,hI,h1⟩:=ZpC hS
 refine Zdx h1 ?_
 by_cases ha:inN wd a
 ·rw[decide_eq_true (show 0≤a∧a<(wd.Feds.length:Int) from ha)]
  obtain ⟨b,rfl,hb⟩:=Zxy ha
  refine ZaJ (Zf (Zh (Za (Zml hb h1 ?_))))
  refine Zxr hn (Sat.focus h1 b (Yk (F:=λj=>ndH wd n j (k.node j) (M.ms j)) hb)) λv w2 h2=>?_
  have h3:=Sat.unfocus b (Yk (F:=λj=>ndH wd n j (k.node j) (M.ms j)) hb) (Sat.selR [_,_,_,_,_,_,_,_,_] [ndH wd n b (k.node b) (M.ms b),Yh ((Zat wd n k M).eraseIdx b),Yh (Zar wd k M),BK p wd k M,NK wd k M,XK wd M,GK wd k M,CK wd k M,DD v ((k.node b).log wd b)] h2 [1,2,3,4,5,6,7,8,0] (by decide) rfl)
  rw[Zcy hI.nl,ZcV (by rw[hI.nl];exact hb)] at h3
  have e1:ZBN wd k b=(k.node b).log wd b:=if_pos ha
  rw[e1] at hk
  exact hk _ _ (ZkQ hI h3).swap
 ·rw[decide_eq_false (show ¬(0≤a∧a<(wd.Feds.length:Int)) from ha)]
  have e1:ZBN wd k a=[]:=if_neg ha
  rw[e1] at hk
  exact Zch (Zi (hk _ _ (hS.own_nil 100 7 Zak.cs)))
theorem Zp2 {a:Int} (hs:s≤1000000) (hS:Sat e w (Zby p wd k n s::Q)) (hk:∀v w',Sat e w' (DI v (ZDK wd k a)::Zby p wd k n s::Q)→K v w'):Cl prog 13 #[pt p,.int .i64 a] w K:=by
 refine ZgI ?_
 unfold Zg4
 obtain ⟨M,hI,h1⟩:=ZpC hS
 refine Zdx h1 ?_
 by_cases ha:inN wd a
 ·rw[decide_eq_true (show 0≤a∧a<(wd.Feds.length:Int) from ha)]
  obtain ⟨b,rfl,hb⟩:=Zxy ha
  refine ZaJ (Zf (Zh (Za (Zjt hb h1 ?_))))
  have hlen:=Znn hI hs b
  refine Zje (l:=k.box b) (by omega) (h1.pick 1 rfl) (ZiZ hb) λv w2 h2=>?_
  have e1:ZDK wd k b=k.box b:=if_pos ha
  rw[e1] at hk
  exact hk _ _ (ZkQ hI (Sat.selR [_,_,_,_,_,_,_,_] [Yh (Zat wd n k M),Yh (Zar wd k M),BK p wd k M,NK wd k M,XK wd M,GK wd k M,CK wd k M,DI v (k.box b)] h2 [2,1,3,4,5,6,7,0] (by decide) rfl)).swap
 ·rw[decide_eq_false (show ¬(0≤a∧a<(wd.Feds.length:Int)) from ha)]
  have e1:ZDK wd k a=[]:=if_neg ha
  rw[e1] at hk
  exact Zch (Zi (hk _ _ (Ziz hS)))
theorem Zq1 {v fv:Value} {l:List Zn} {q:Zn→Bool} (i:Nat) (hi:L[i]?=some S) (hS:Sat e w L) (hr:∀g,S g→rdS 8 Zn.cs v l g) (hl:l.length≤1000000000000)
  (hp:∀o∈l,∀(w:World) (K:KV),Sat e w L→(∀w',Sat e w' L→K (.bool (q o)) w')→clV prog fv #[.agg o.cs.toArray] w K)
  (hk:∀w',Sat e w' L→K (.bool (l.any q)) w'):Cl prog 37 #[v,fv] w K:=by
 refine Za8 ?_
 unfold Zas
 refine Zbn ?_
 unfold ZaH
 refine Zt hS i hi hr ?_
 refine Zdk (λz t8 w=>∃j:Nat,j≤l.length∧t8=.int .i64 j∧z=l.length - j∧(∀o∈l.take j,q o=false)∧Sat e w L) l.length ⟨0,Nat.zero_le _,rfl,rfl,by simp,hS⟩ ?_
 rintro z _ w g ⟨j,hj,rfl,rfl,hno,h1⟩ hg
 refine Za7 (λc=>Zi ?_) (λc=>Zf ?_)
 ·obtain ⟨o,ho⟩:=Zk (l:=l) (j:=j) (by omega)
  refine Zw h1 i hi hr (λ_=>rfl) ho λa ha=>?_
  refine Ym h1 i hi ha rfl ?_
  refine hp o (List.mem_of_getElem? ho) _ _ h1 λw2 h2=>?_
  cases hb:q o with
  | true=>
   have:=hk _ h2
   rw[List.any_eq_true.2 ⟨o,List.mem_of_getElem? ho,hb⟩] at this
   exact Zi (Zqv (by omega) this)
  | false=>
   refine Zf (Yr (by omega) ?_)
   refine hg _ _ _ (by omega) ⟨j+1,by omega,rfl,rfl,λy hy=>?_,h2⟩
   rw[Zx ho] at hy
   rcases List.mem_append.1 hy with h | h
   ·exact hno y h
   ·rw[List.mem_singleton.1 h];exact hb
 ·have ej:j=l.length:=by omega
  rw[ej,List.take_length] at hno
  have:=hk _ h1
  rw[List.any_eq_false.2 λx hx=>by rw[hno x hx];decide] at this
  exact ZnR (by omega) this
def ZsV (i:Zn):Bool:=!decide (i.Kind=2)
theorem Zla {l:List Zn} {c:Int}:Zpr c l=0↔∀x∈l,x.Colour=c→x.Kind=2:=by
 unfold Zpr
 rw[List.countP_eq_zero]
 constructor
 ·intro h x hx hc
  have:=h x hx
  rw[Bool.and_eq_true,decide_eq_true_iff,decide_eq_true_iff] at this
  exact Classical.byContradiction λhk=>this ⟨hk,hc⟩
 ·intro h x hx
  rw[Bool.and_eq_true,decide_eq_true_iff,decide_eq_true_iff]
  rintro ⟨h1,h2⟩
  exact h1 (h x hx h2)
theorem Zug {α:Type} {F:Nat→List α} {n:Nat} {x:α}:x∈fl F n↔∃a,a<n∧x∈F a:=by
 unfold fl
 rw[List.mem_flatMap]
 constructor
 ·rintro ⟨a,ha,hx⟩
  exact ⟨a,List.mem_range.1 ha,hx⟩
 ·rintro ⟨a,ha,hx⟩
  exact ⟨a,List.mem_range.2 ha,hx⟩
theorem Zuj (hI:Ze1 wd k s):(k.net.all λr=>r.all λl=>l.all λi=>decide (i.Kind=2))=decide (¬0<Zpr 0 (ZpJ wd.Feds.length λa b=>k.q a b)+Zpr 1 (ZpJ wd.Feds.length λa b=>k.q a b)):=by
 rw[Bool.eq_iff_iff,decide_eq_true_iff,List.all_eq_true]
 have hmem:∀x,x∈ZpJ wd.Feds.length (λa b=>k.q a b)↔∃a b,a<wd.Feds.length∧b<wd.Feds.length∧x∈k.q a b:=by
  intro x
  unfold ZpJ
  rw[Zug]
  constructor
  ·rintro ⟨a,ha,hx⟩
   unfold ZrF at hx
   obtain ⟨b,hb,hx⟩:=Zug.1 hx
   exact ⟨a,b,ha,hb,hx⟩
  ·rintro ⟨a,b,ha,hb,hx⟩
   exact ⟨a,ha,Zug.2 ⟨b,hb,hx⟩⟩
 constructor
 ·intro h
  have h0:∀x∈ZpJ wd.Feds.length (λa b=>k.q a b),x.Kind=2:=by
   intro x hx
   obtain ⟨a,b,ha,hb,hx⟩:=(hmem x).1 hx
   have h1:k.net[a]?=some (k.net.getD a []):=by rw[List.getD_eq_getElem?_getD,List.getElem?_eq_getElem (by rw[hI.netl];exact ha)];rfl
   have h2:(k.net.getD a [])[b]?=some (k.q a b):=by
    show _=some ((k.net.getD a []).getD b [])
    rw[List.getD_eq_getElem?_getD (l:=k.net.getD a []),List.getElem?_eq_getElem (by rw[hI.rowl a ha];exact hb)]
    rfl
   have h3:=List.all_eq_true.1 (h _ (List.mem_of_getElem? h1)) _ (List.mem_of_getElem? h2)
   exact of_decide_eq_true (List.all_eq_true.1 h3 x hx)
  have e0:=Zla (c:=0).2 λx hx _=>h0 x hx
  have e1:=Zla (c:=1).2 λx hx _=>h0 x hx
  omega
 ·intro h r hr
  rw[List.all_eq_true]
  intro l hl
  rw[List.all_eq_true]
  intro i hi
  obtain ⟨a,ha⟩:=List.getElem?_of_mem hr
  obtain ⟨b,hb⟩:=List.getElem?_of_mem hl
  have hal:=(List.getElem?_eq_some_iff.1 ha).1
  have hbl:=(List.getElem?_eq_some_iff.1 hb).1
  rw[hI.netl] at hal
  have e1:k.net.getD a []=r:=by rw[List.getD_eq_getElem?_getD,ha];rfl
  have hr2:=hI.rowl a hal
  rw[e1] at hr2
  have e2:k.q a b=l:=by
   show (k.net.getD a []).getD b []=l
   rw[e1,List.getD_eq_getElem?_getD,hb]
   rfl
  have hx:i∈ZpJ wd.Feds.length (λa b=>k.q a b):=(hmem i).2 ⟨a,b,hal,by omega,by rw[e2];exact hi⟩
  have hc:=(hI.q a b i (by rw[e2];exact hi)).col
  rw[decide_eq_true_iff]
  rcases (show i.Colour=0∨i.Colour=1 from by omega) with h0 | h0
  ·exact Zla.1 (show Zpr 0 _=0 from by omega) i hx h0
  ·exact Zla.1 (show Zpr 1 _=0 from by omega) i hx h0
def ZiF (wd:Wd) (k:KS) (f:Nat):Bool:=((k.box f).all λi=>decide (i.Kind=2))&&match k.node f with
  | .slow N=>!(ZjD N.q&&decide ((hdM N.q).key.T<wd.End))
  | .bold N _ _=>!(ZjD N.q&&decide ((hdM N.q).key.T<wd.End))&&N.ms.isEmpty
theorem Zwh (wd:Wd) (k:KS):k.quiet wd=((k.net.all λr=>r.all λl=>l.all λi=>decide (i.Kind=2))&&(List.range k.nodes.length).all (ZiF wd k)):=rfl
theorem ZtY {n j:Nat} {q:Nat→Bool} (hj:j<n) (h:q j=false):(List.range n).all q=false:=by
 rw[List.all_eq_false]
 exact ⟨j,List.mem_range.2 hj,by rw[h];decide⟩
theorem Zc0 (hs:s≤1000000) (hS:Sat e w (Zby p wd k n s::Q)) (hk:∀w',Sat e w' (Zby p wd k n s::Q)→K (.bool (k.quiet wd)) w'):Cl prog 14 #[pt p] w K:=by
 refine ZeO ?_
 unfold ZeG
 obtain ⟨M,hI,h0⟩:=ZpC hS
 have hn8:=hI.may.n
 refine ZaY h0 λw1 h1=>?_
 refine Zh (Za (Zb h1 2 rfl (v:=pt M.g) rfl ?_))
 refine Zh (Za (Zb h1 2 rfl (v:=pt M.g) rfl ?_))
 have back:∀{w':World},Sat e w' (GK wd k M::([Yh (Zat wd n k M),Yh (Zar wd k M),BK p wd k M,NK wd k M,XK wd M,CK wd k M]++Q))→Sat e w' (KP p wd n k M++Q):=λh=>h.selR [_,_,_,_,_,_,_] [_,_,_,_,_,_,_] [1,2,3,4,5,0,6] (by decide) rfl
 refine Zg9 (h1.pick 5 rfl) λw2 h2=>?_
 have h2:=back h2
 refine ⟨Zb h2 2 rfl (v:=pt M.g) rfl ⟨rfl,rfl⟩,?_⟩
 refine Zg9 (h2.pick 5 rfl) λw3 h3=>?_
 have h3:=back h3
 have hall:(ZpJ wd.Feds.length λa b=>k.q a b).length≤1024:=by
  obtain ⟨D,hD,_⟩:=Yx.open (h3.pick 5 rfl)
  exact hD.all_len
 have l0:=ZqW 0 (ZpJ wd.Feds.length λa b=>k.q a b)
 have l1:=ZqW 1 (ZpJ wd.Feds.length λa b=>k.q a b)
 have hnq:=Zuj hI
 rw[Zwh,hnq,hI.nl] at hk
 generalize hc0:Zpr 0 (ZpJ wd.Feds.length λa b=>k.q a b)=n0 at*
 generalize hc1:Zpr 1 (ZpJ wd.Feds.length λa b=>k.q a b)=n1 at*
 refine ZcD (by omega) (by omega) ?_
 refine Ztu (λc=>Zi ?_) (λc=>Zf ?_)
 ·rw[decide_eq_false (by omega),Bool.false_and] at hk
  exact hk _ (ZkQ hI h3)
 rw[decide_eq_true (by omega),Bool.true_and] at hk
 refine Zh (Za (Zb h3 2 rfl (v:=M.nv) rfl (Zt h3 3 rfl (λ_=>Zp) ?_)))
 rw[List.length_map,List.length_range]
 refine Zdk (λz t w=>∃j:Nat,j≤wd.Feds.length∧t=.int .i64 j∧z=wd.Feds.length - j∧(∀i,i<j→ZiF wd k i=true)∧Sat e w (KP p wd n k M++Q)) wd.Feds.length ⟨0,Nat.zero_le _,rfl,rfl,λi hi=>by omega,h3⟩ ?_
 rintro z _ w4 g1 ⟨j,hj,rfl,rfl,hq,h4⟩ hg
 refine Za7 (λc=>Zi ?_) (λc=>Zf ?_)
 ·have hjl:j<wd.Feds.length:=by omega
  have no:ZiF wd k j=false→∀{w:World},Sat e w (KP p wd n k M++Q)→K (.bool false) w:=λh _ hS=>by
   rw[ZtY hjl h] at hk
   exact hk _ (ZkQ hI hS)
  have hlen:=Znn hI hs j
  refine Zw h4 3 rfl (λ_=>Zp) (λ_=>rfl) (Yk hjl) λa ha=>Yt h4 3 rfl ha (v:=ndV (k.node j) (M.ms j)) rfl ?_
  refine Zh (Za (Zjt hjl h4 ?_))
  refine Zq1 (q:=ZsV) (l:=k.box j) 1 rfl h4 (ZiZ hjl) (by omega) (λo _ w K h hK=>?_) λw5 h5=>?_
  ·refine ⟨_,_,_,rfl,?_⟩
   refine ZdX (t0:=.agg o.cs.toArray) ?_
   unfold Zds
   refine Yp (cs:=o.cs) h rfl λb w6 h6=>?_
   refine Za (Zb h6 0 rfl (v:=.int .i64 o.Kind) rfl (ZF7 ?_))
   have e1:decide (¬o.Kind=2)=ZsV o:=by
    unfold ZsV
    by_cases h:o.Kind=2
    ·rw[decide_eq_true h,decide_eq_false (λh'=>h' h)];rfl
    ·rw[decide_eq_false h,decide_eq_true h];rfl
   rw[e1]
   exact hK _ h6.drop
  ·have hbx:((k.box j).all λi=>decide (i.Kind=2))=!(k.box j).any ZsV:=by
    rw[List.not_any_eq_all_not]
    congr 1
    funext i
    unfold ZsV
    rw[Bool.not_not]
   cases hany:(k.box j).any ZsV with
   | true=>
    refine Zi (no ?_ h5)
    unfold ZiF
    rw[hbx,hany]
    rfl
   | false=>
    rw[hany] at hbx
    refine Zf ?_
    refine Zva (Sat.focus h5 j (Yk (F:=λi=>ndH wd n i (k.node i) (M.ms i)) hjl)) λv w6 h6=>?_
    have h7:=Sat.unfocus j (Yk (F:=λi=>ndH wd n i (k.node i) (M.ms i)) hjl) (Sat.selR [_,_,_,_,_,_,_,_,_] [ndH wd n j (k.node j) (M.ms j),Yh ((Zat wd n k M).eraseIdx j),Yh (Zar wd k M),BK p wd k M,NK wd k M,XK wd M,GK wd k M,CK wd k M,Zz 81 6 Msg.cs v (k.node j).q] h6 [1,2,3,4,5,6,7,8,0] (by decide) rfl)
    rw[Zcy hI.nl,ZcV (by rw[hI.nl];exact hjl)] at h7
    have h8:Sat e w6 (KP p wd n k M++Zz 81 6 Msg.cs v (k.node j).q::Q):=h7
    refine ZaY h8 λw9 h9=>?_
    have h10:Sat e w9 (KP p wd n k M++Q):=h9.selR [_,_,_,_,_,_,_,_] [_,_,_,_,_,_,_] [0,1,2,3,4,5,6] (by decide) rfl
    refine Zt h9 7 rfl (λ_=>Zp) ?_
    have step2:(ZjD (k.node j).q&&decide ((hdM (k.node j).q).key.T<wd.End))=false→Cl prog 31 #[pt p,.int .i64 (j:Int)] w9 λt56 w=>
      bn .neq t56 w λt58 w=>gd t58 true (λk=>k t56 w) w λt60 w=>gd t58 true (λk=>nc t60 w k) w λt61 w=>gd t58 true (λk=>fld 0 t61 w k) w λt62 w=>gd t58 true (λk=>ld1 t62 w k) w λt63 w=>
      gd t58 true (λk=>Cl prog 39 #[t63] w k) w λt64 w=>gd t58 true (λk=>bi .gtr .i64 t64 (Value.int IntKind.i64 0) w k) w λt65 w=>pk t58 t65 (Value.bool false) w λt66 w=>
      Zr t66 (K (Value.bool false) w) (bi .add .i64 (.int .i64 (j:Int)) (Value.int IntKind.i64 1) w λt67 w=>g1 [t67] w):=by
     intro hh
     refine ZbX hjl h10 ?_
     have fin:ZiF wd k j=true→∀{w:World},Sat e w (KP p wd n k M++Q)→bi .add .i64 (.int .i64 (j:Int)) (Value.int IntKind.i64 1) w λt67 w=>g1 [t67] w:=by
      intro hqj w h
      refine Yr (by omega) ?_
      refine hg _ _ _ (by omega) ⟨j+1,by omega,rfl,rfl,λi hi=>?_,h⟩
      by_cases hij:i=j
      ·rw[hij];exact hqj
      ·exact hq i (by omega)
     cases hN:k.node j with
     | slow N=>
      refine ZtL (Zu (Zu (Zu (Zu (Zu (Zu (Yd (Zf (fin ?_ h10)))))))))
      rw[hN] at hh
      unfold ZiF
      rw[hbx,hN]
      exact congrArg (λb=>!b) hh
     | bold N rk tl=>
      refine ZtQ _ (Ze (Ze (Zwz (Ze (Zbd (Zfy hjl hN) λa ha=>Ze (Yt h10 0 rfl ha (v:=pt (M.ms j).1) rfl ?_))))))
      have h11:=Sat.focus h10 j (Yk (F:=λi=>ndH wd n i (k.node i) (M.ms i)) hjl)
      rw[hN] at h11
      have h12:Sat e w9 (ZfN (M.ms j) rk tl::Ya (M.ms j).1 wd j (Zs wd j) N n::Yh ((Zat wd n k M).eraseIdx j)::([Yh (Zar wd k M),BK p wd k M,NK wd k M,XK wd M,GK wd k M,CK wd k M]++Q)):=Sat.split (l':=[_,_]) h11
      refine Ze (ZpL h12.swap (Ze ?_))
      rw[hN] at hh
      have hqn:ZiF wd k j=N.ms.isEmpty:=by
       unfold ZiF
       rw[hbx,hN]
       show (true&&(!_&&_))=_
       rw[show (ZjD N.q&&decide ((hdM N.q).key.T<wd.End))=false from hh]
       rfl
      refine Ztu (λc5=>Yv (Zi (no ?_ h10))) (λc5=>Yv (Zf (fin ?_ h10)))
      ·rw[hqn]
       cases hms:N.ms with
       | nil=>rw[hms] at c5;exact absurd c5 (by decide)
       | cons _ _=>rfl
      ·rw[hqn]
       cases hms:N.ms with
       | nil=>rfl
       | cons _ _=>rw[hms,List.length_cons] at c5;omega
    cases hw:(k.node j).q with
    | nil=>
     rw[hw] at step2
     refine Zle (by decide) (Zu (Zu (Zu (Zu (Zu (Zu (Zu (Zu (Zu (Zu (Yd (Zf (step2 rfl)))))))))))))
    | cons m r=>
     rw[hw] at step2 h9
     refine ZtF (by rw[List.length_cons];omega) (Ze (Ze ?_))
     refine Zw (j:=0) h9 7 rfl (λ_=>Zp) (λ_=>rfl) (x:=m) rfl λa ha=>?_
     refine Ze (Zbd ha λa1 ha1=>Ze (Zbd ha1 λa2 ha2=>Ze (Yt h9 7 rfl ha2 (v:=.int .i64 m.key.T) rfl ?_)))
     refine Ze (Ze (Zwz (Ze (Za (Ze (Zb h9 2 rfl (v:=.int .i64 wd.End) rfl (Ze ?_)))))))
     refine Za7 (λc5=>Yv (Zi (no ?_ h10))) (λc5=>Yv (Zf (step2 ?_)))
     ·have hh:(ZjD (k.node j).q&&decide ((hdM (k.node j).q).key.T<wd.End))=true:=by
       rw[hw]
       show (true&&decide (m.key.T<wd.End))=true
       rw[decide_eq_true c5]
       rfl
      unfold ZiF
      rw[hbx]
      cases hN:k.node j with
      | slow N=>
       rw[hN] at hh
       exact congrArg (λb=>!b) hh
      | bold N _ _=>
       rw[hN] at hh
       show (true&&(!_&&_))=false
       rw[show (ZjD N.q&&decide ((hdM N.q).key.T<wd.End))=true from hh]
       rfl
     ·show (true&&decide (m.key.T<wd.End))=false
      rw[decide_eq_false c5]
      rfl
 ·have ej:j=wd.Feds.length:=by omega
  rw[ej] at hq
  rw[List.all_eq_true.2 λi hi=>hq i (List.mem_range.1 hi)] at hk
  exact hk _ (ZkQ hI h4)
theorem Zjv {x:WdX} (i:Nat) (hi:L[i]?=some S) (hS:Sat e w L) (hr:∀g,S g→ZtG x g) (hs:x.short)
  (hk:∀(X:WdX) w',X.w=x.w→Sat e w' (Zag X::L)→K (.agg X.cs.toArray) w'):Cl prog 49 #[.agg x.cs.toArray] w K:=by
 refine Zj5 ?_
 unfold ZlG
 have hflat:=ZoI i hi hS hr
 refine Yp (cs:=x.cs) hS rfl λb w1 h1=>?_
 rw[ZqI]
 refine Yp (cs:=[.slice none 0 0,.slice none 0 0,.int .i64 0]) h1 rfl λb2 w2 h2=>?_
 refine Za (Zb h2 1 rfl (v:=x.pv) rfl ?_)
 refine ZbR (i+2) (by simpa using hi) (by have:=hs.par;omega) (λ_ _ v h=>by simp[Ye] at h;subst h;rfl) h2 (λg hg=>(hr g hg).par) λv1 w3 h3=>?_
 have f1:=h3.own_cells 0 rfl
 refine Za (Zq h3 2 rfl (vs:=[v1]) f1.1 rfl (Nat.le_of_ble_eq_true rfl) (λc hc=>by rw[List.mem_singleton.1 hc];exact f1.2) (cs':=[v1,x.fv,.int .i64 x.End]) (by rfl) λw4 h4=>?_)
 refine Za (Zb h4 2 rfl (v:=x.fv) rfl ?_)
 refine ZkD (i+3) (by simpa using hi) (by have:=hs.feds;omega) (λf hf=>Zc1 i hi hS λg hg=>(hr g hg).fed f hf) h4 (λg hg=>(hr g hg).feds) λv2 w5 h5=>?_
 have f2:=h5.own_cells 0 rfl
 refine Za (Zq h5 3 rfl (vs:=[v2]) f2.1 rfl (Nat.le_of_ble_eq_true rfl) (λc hc=>by rw[List.mem_singleton.1 hc];exact f2.2) (cs':=[v1,v2,.int .i64 x.End]) (by rfl) λw6 h6=>?_)
 refine Za (Zb h6 3 rfl (v:=v2) rfl ?_)
 refine Zt h6 0 rfl (λ_=>Zp) ?_
 have hfl:=hs.feds
 refine Zdk (λq t17 w=>∃(j:Nat) (dn:List Zao),j≤x.Feds.length∧t17=.int .i64 j∧q=x.Feds.length - j∧dn.length=j∧dn.map Zao.f=(x.Feds.take j).map Zao.f∧
   Sat e w (Zz 46 7 Zao.cs v2 (dn++x.Feds.drop j)::Yh (dn.map Zea)::Zz 3 1 (Ye .i64) v1 x.Parents::blk b2 25 [.slice none 0 0,.slice none 0 0,.int .i64 0]::blk b 25 [v1,v2,.int .i64 x.End]::L)) x.Feds.length
  ⟨0,[],Nat.zero_le _,rfl,rfl,rfl,rfl,?_⟩ ?_
 ·have h7:Sat e w6 (Yh []::Zz 46 7 Zao.cs v2 x.Feds::Zz 3 1 (Ye .i64) v1 x.Parents::blk b2 25 [.slice none 0 0,.slice none 0 0,.int .i64 0]::blk b 25 [v1,v2,.int .i64 x.End]::L):=Sat.join (l':=[]) (h6.selR [_,_,_,_] [_,_,_,_] [0,1,2,3] (by decide) rfl)
  exact h7.swap
 rintro q _ w g1 ⟨j,dn,hj,rfl,rfl,hdl,hdm,h7⟩ hg1
 refine Za7 (λc0=>Zi ?_) (λc0=>Zf ?_)
 case refine_2=>
  have ej:j=x.Feds.length:=by omega
  rw[ej,List.drop_length,List.append_nil] at h7
  rw[ej,List.take_length] at hdm
  refine Zo h7 4 (vs:=[v1,v2,.int .i64 x.End]) rfl (by rfl) rfl ?_
  refine Zq h7 3 rfl (vs:=[v1,v2,.int .i64 x.End]) rfl rfl (Nat.le_of_ble_eq_true rfl) (λc hc=>by
   simp only[List.mem_cons,List.not_mem_nil,or_false] at hc
   rcases hc with rfl | rfl | rfl
   ·exact f1.2
   ·exact f2.2
   ·rfl) (cs':=[v1,v2,.int .i64 x.End]) (by rfl) λw8 h8=>?_
  refine Zo h8 3 (vs:=[v1,v2,.int .i64 x.End]) rfl (by rfl) rfl ?_
  refine hk ⟨v1,x.Parents,v2,dn,x.End⟩ _ (by simp only[WdX.w,hdm]) (Sat.join (l':=[_,_,_]) ?_)
  exact h8.selR [_,_,_,_,_] [_,_,_] [2,0,1] (by decide) rfl
 obtain ⟨fd,hf⟩:=Zk (l:=x.Feds) (j:=j) (by omega)
 have hfm:=List.mem_of_getElem? hf
 have hsf:=hs.fed fd hfm
 have hdr:x.Feds.drop j=fd::x.Feds.drop (j+1):=Zaq hf
 have hget:(dn++x.Feds.drop j)[j]?=some fd:=by rw[hdr,List.getElem?_append_right (by omega),hdl,Nat.sub_self];rfl
 have hi7:(Zz 46 7 Zao.cs v2 (dn++x.Feds.drop j)::Yh (dn.map Zea)::Zz 3 1 (Ye .i64) v1 x.Parents::blk b2 25 [.slice none 0 0,.slice none 0 0,.int .i64 0]::blk b 25 [v1,v2,.int .i64 x.End]::L)[i+5]?=some S:=by simpa using hi
 refine Za (Zb h7 4 rfl (v:=v2) rfl ?_)
 refine ZjI h7 0 rfl hget λbb cc hv2=>?_
 refine ZaY h7 λw8 h8=>?_
 refine Zh (Za (Zaa h8 0 rfl (λ_=>rfl) hv2 hget (u:=fd.pv) rfl ?_))
 refine Zh (Za (Zaa h8 0 rfl (λ_=>rfl) hv2 hget (u:=fd.sv) rfl ?_))
 refine Zh (Za (Zaa h8 0 rfl (λ_=>rfl) hv2 hget (u:=fd.iv) rfl ?_))
 refine Zh (Za (Zaa h8 0 rfl (λ_=>rfl) hv2 hget (u:=fd.rv) rfl ?_))
 have hintf:∀(l:List Int),∀x∈l,∀v∈Ye .i64 x,flat v=true:=λ_ _ _ v h=>by simp[Ye] at h;subst h;rfl
 refine ZbR (i+5) hi7 (by have:=hsf.pubs;omega) (hintf _) h8 (λg hg=>((hr g hg).fed fd hfm).pubs) λa1 w9 h9=>?_
 refine ⟨Zaa h9 1 rfl (λ_=>rfl) hv2 hget (u:=fd.rv) rfl ⟨rfl,rfl⟩,Zaa h9 1 rfl (λ_=>rfl) hv2 hget (u:=fd.iv) rfl ⟨rfl,rfl⟩,Zaa h9 1 rfl (λ_=>rfl) hv2 hget (u:=fd.sv) rfl ⟨rfl,rfl⟩,?_⟩
 refine ZbR (i+6) (by simpa using hi) (by have:=hsf.subs;omega) (hintf _) h9 (λg hg=>((hr g hg).fed fd hfm).subs) λa2 w10 h10=>?_
 refine ⟨Zaa h10 2 rfl (λ_=>rfl) hv2 hget (u:=fd.rv) rfl ⟨rfl,rfl⟩,Zaa h10 2 rfl (λ_=>rfl) hv2 hget (u:=fd.iv) rfl ⟨rfl,rfl⟩,?_⟩
 refine Zde (i+7) (by simpa using hi) (by have:=hsf.init;omega) (λ_ _=>Zg _) h10 (λg hg=>((hr g hg).fed fd hfm).init) λa3 w11 h11=>?_
 refine ⟨Zaa h11 3 rfl (λ_=>rfl) hv2 hget (u:=fd.rv) rfl ⟨rfl,rfl⟩,?_⟩
 refine Zjh (i+8) (by simpa using hi) (by have:=hsf.rules;omega) (Znr i hi hS λg hg=>((hr g hg).fed fd hfm).rules) h11 (λg hg=>((hr g hg).fed fd hfm).rules.s) λa4 w12 h12=>?_
 have q4:=h12.own_cells 0 rfl
 have q3:=h12.own_cells 1 rfl
 have q2:=h12.own_cells 2 rfl
 have q1:=h12.own_cells 3 rfl
 have hset:∀(a c:Zao),((dn++x.Feds.drop j).set j a).set j c=(dn++x.Feds.drop j).set j c:=λa c=>List.set_set _
 have hjl:j<(dn++x.Feds.drop j).length:=(List.getElem?_eq_some_iff.1 hget).1
 have hg1':∀a:Zao,((dn++x.Feds.drop j).set j a)[j]?=some a:=λa=>List.getElem?_set_self hjl
 have hln:∀a:Zao,((dn++x.Feds.drop j).set j a).length=(dn++x.Feds.drop j).length:=λa=>List.length_set
 refine Zh (Za (Zdz h12 4 rfl (λ_=>rfl) hv2 hget (x':={ fd with pv:=a1 }) q1.1 rfl (by decide) (λc hc=>by rw[List.mem_singleton.1 hc];exact q1.2) rfl λw13 h13=>?_))
 refine Zh (Za (Zdz h13 4 rfl (λ_=>rfl) (by rw[hln];exact hv2) (hg1' _) (x':={ fd with pv:=a1,sv:=a2 }) q2.1 rfl (by decide) (λc hc=>by rw[List.mem_singleton.1 hc];exact q2.2) rfl λw14 h14=>?_))
 rw[hset] at h14
 refine Zh (Za (Zdz h14 4 rfl (λ_=>rfl) (by rw[hln];exact hv2) (hg1' _) (x':={ fd with pv:=a1,sv:=a2,iv:=a3 }) q3.1 rfl (by decide) (λc hc=>by rw[List.mem_singleton.1 hc];exact q3.2) rfl λw15 h15=>?_))
 rw[hset] at h15
 refine Zh (Za (Zdz h15 4 rfl (λ_=>rfl) (by rw[hln];exact hv2) (hg1' _) (x':={ fd with pv:=a1,sv:=a2,iv:=a3,rv:=a4 }) q4.1 rfl (by decide) (λc hc=>by rw[List.mem_singleton.1 hc];exact q4.2) rfl λw16 h16=>?_))
 rw[hset] at h16
 clear h8 h9 h10 h11 h12 h13 h14 h15
 generalize hfd':({ fd with pv:=a1,sv:=a2,iv:=a3,rv:=a4 }:Zao)=fd' at h16
 generalize hls:(dn++x.Feds.drop j).set j fd'=ls at h16
 have hlsj:ls[j]?=some fd':=by rw[←hls];exact hg1' _
 have hlsl:v2=.slice (some ⟨bb,0,none⟩) ls.length cc:=by rw[←hls,hln];exact hv2
 have e4:fd'.rv=a4:=by rw[←hfd']
 refine Zh (Za (Zaa h16 4 rfl (λ_=>rfl) hlsl hlsj (u:=a4) (by rw[←hfd'];rfl) ?_))
 refine Zt h16 0 rfl (λ_=>Zp) ?_
 have hrl:=hsf.rules
 refine Zdk (λq t61 w=>∃(n:Nat) (rd:List Yg),n≤fd.Rules.length∧t61=.int .i64 n∧q=fd.Rules.length - n∧rd.length=n∧rd.map Yg.r=(fd.Rules.take n).map Yg.r∧
   Sat e w (Zz 48 4 Yg.cs a4 (rd++fd.Rules.drop n)::Yh (rd.map ZfY)::Zz 102 3 Out.cs a3 fd.Init::Zz 3 1 (Ye .i64) a2 fd.Subs::Zz 3 1 (Ye .i64) a1 fd.Pubs::Zz 46 7 Zao.cs v2 ls::Yh (dn.map Zea)::Zz 3 1 (Ye .i64) v1 x.Parents::blk b2 25 [.slice none 0 0,.slice none 0 0,.int .i64 0]::blk b 25 [v1,v2,.int .i64 x.End]::L)) fd.Rules.length
  ⟨0,[],Nat.zero_le _,rfl,rfl,rfl,rfl,?_⟩ ?_
 ·exact (Sat.join (l':=[]) h16).swap
 rintro q _ w g2 ⟨n,rd,hn,rfl,rfl,hrdl,hrdm,h17⟩ hg2
 refine Za7 (λc1=>Zi ?_) (λc1=>Zf ?_)
 case refine_2=>
  have en:n=fd.Rules.length:=by omega
  rw[en,List.drop_length,List.append_nil] at h17
  rw[en,List.take_length] at hrdm
  refine Yr (by omega) ?_
  have h18:Sat e w (Zea { fd' with Rules:=rd }::Zz 46 7 Zao.cs v2 ls::Yh (dn.map Zea)::Zz 3 1 (Ye .i64) v1 x.Parents::blk b2 25 [.slice none 0 0,.slice none 0 0,.int .i64 0]::blk b 25 [v1,v2,.int .i64 x.End]::L):=by
   refine Sat.join (l':=[_,_,_,_,_]) ?_
   rw[←hfd']
   exact h17.selR [_,_,_,_,_] [_,_,_,_,_] [4,3,2,0,1] (by decide) rfl
  have h19:=ZiX (h18.selR [_,_,_] [_,_,_] [0,2,1] (by decide) rfl)
  refine hg1 _ _ _ (by omega) ⟨j+1,dn++[{ fd' with Rules:=rd }],by omega,rfl,rfl,by simp[hdl],?_,?_⟩
  ·rw[Zx hf,List.map_append,List.map_append,hdm,List.map_singleton,List.map_singleton]
   congr 2
   rw[←hfd']
   simp only[Zao.f,hrdm]
  ·have h20:=(h19.swap).imp (Q:=Zz 46 7 Zao.cs v2 (dn++[{ fd' with Rules:=rd }]++x.Feds.drop (j+1))) λg hg=>ZoX (by
    rw[←hls,hdr,List.set_append_right _ _ (by omega),hdl,Nat.sub_self,List.set_cons_zero]
    simp only[List.map_append,List.map_cons,List.append_assoc,List.singleton_append]
    rfl) hg
   rw[List.map_append]
   exact h20
 obtain ⟨r,hrn⟩:=Zk (l:=fd.Rules) (j:=n) (by omega)
 have hrm:=List.mem_of_getElem? hrn
 have hdr2:fd.Rules.drop n=r::fd.Rules.drop (n+1):=Zaq hrn
 have hget2:(rd++fd.Rules.drop n)[n]?=some r:=by rw[hdr2,List.getElem?_append_right (by omega),hrdl,Nat.sub_self];rfl
 refine ZaY h17 λw18 h18=>?_
 refine Zh (Za (Zaa h18 5 rfl (λ_=>rfl) hlsl hlsj (u:=a4) (by rw[←hfd'];rfl) ?_))
 refine Zh (Za (Zaa h18 5 rfl (λ_=>rfl) hlsl hlsj (u:=a4) (by rw[←hfd'];rfl) ?_))
 refine ZjI h18 0 rfl hget2 λbr cr ha4=>?_
 refine Za (Zaa h18 0 rfl (λ_=>rfl) ha4 hget2 (u:=r.sv) rfl ?_)
 refine Zde (i+10) (by simpa using hi) (by have:=hsf.sends r hrm;omega) (λ_ _=>Zg _) h18 (λg hg=>((hr g hg).fed fd hfm).rules.e r hrm) λa5 w19 h19=>?_
 have q5:=h19.own_cells 0 rfl
 refine ⟨Zaa h19 6 rfl (λ_=>rfl) hlsl hlsj (u:=a4) (by rw[←hfd'];rfl) ⟨rfl,rfl⟩,?_⟩
 refine ZjI h19 1 rfl hget2 λbr' cr' ha4'=>?_
 refine Za (Zdz h19 1 rfl (λ_=>rfl) ha4' hget2 (x':={ r with sv:=a5 }) q5.1 rfl (by decide) (λc hc=>by rw[List.mem_singleton.1 hc];exact q5.2) rfl λw20 h20=>?_)
 refine Yr (by omega) ?_
 have h21:=ZiX (A:=ZfY { r with sv:=a5 }) (h20.selR [_,_,_] [_,_,_] [0,2,1] (by decide) rfl)
 refine hg2 _ _ _ (by omega) ⟨n+1,rd++[{ r with sv:=a5 }],by omega,rfl,rfl,by simp[hrdl],?_,?_⟩
 ·rw[Zx hrn,List.map_append,List.map_append,hrdm]
  rfl
 ·rw[hdr2,List.set_append_right _ _ (by omega),hrdl,Nat.sub_self,List.set_cons_zero] at h21
  rw[List.map_append,List.append_assoc]
  exact h21.swap
def Zhq (wd:Wd) (f:Int):Option Fed:=if 0≤f then (wd.Feds[f.toNat]?).bind λfd=>if fd.Kind=1 then some fd else none else none
def ZdE (l:List Fed):List Int:=l.map λg=>if g.Kind=0 then 0 else -1
theorem Zt8:Zr8 (ZdE []) []:=⟨List.nodup_nil,λj=>by unfold clkAt ZdE;simp[lkA],by simp⟩
theorem ZnN {l:List Int} {x:Int} (j:Int):clkAt (l++[x]) j=if j=l.length then x else clkAt l j:=by
 unfold clkAt
 by_cases h0:0≤j
 ·rw[if_pos h0,if_pos h0,List.getD_eq_getElem?_getD,List.getD_eq_getElem?_getD]
  by_cases h1:j=l.length
  ·rw[if_pos h1,h1,Int.toNat_natCast,List.getElem?_append_right (Nat.le_refl _),Nat.sub_self]
   rfl
  ·rw[if_neg h1]
   rcases Nat.lt_or_ge j.toNat l.length with h2 | h2
   ·rw[List.getElem?_append_left h2]
   ·rw[List.getElem?_append_right h2,List.getElem?_eq_none (l:=l) h2,List.getElem?_eq_none (by simp;omega)]
 ·rw[if_neg h0,if_neg h0,if_neg (by omega)]
theorem ZvR {l:List Fed} {m:List (Int × Int)} {g:Fed} (h:Zr8 (ZdE l) m) (hg:g.Kind=0) (hl:m.length≤900):Zr8 (ZdE (l++[g])) (upA m (l.length:Int) 0):=by
 have e1:ZdE (l++[g])=ZdE l++[0]:=by unfold ZdE;rw[List.map_append,List.map_singleton,if_pos hg]
 have e2:(ZdE l).length=l.length:=by unfold ZdE;rw[List.length_map]
 have hn:lkA m (l.length:Int)=none:=by
  rw[h.lk,←e2]
  have:clkAt (ZdE l) ((ZdE l).length:Int)=-1:=by
   unfold clkAt
   rw[if_pos (by omega),Int.toNat_natCast,List.getD_eq_getElem?_getD,List.getElem?_eq_none (Nat.le_refl _)]
   rfl
  rw[this]
  rfl
 refine ⟨h.u.up _ _,λj=>?_,?_⟩
 ·rw[ZiY h.u,e1,ZnN,e2]
  by_cases hj:j=l.length
  ·rw[if_pos hj,if_pos hj];rfl
  ·rw[if_neg hj,if_neg hj,h.lk j]
 ·unfold upA
  rw[hn]
  simp
  omega
theorem Zxj {l:List Fed} {m:List (Int × Int)} {g:Fed} (h:Zr8 (ZdE l) m) (hg:g.Kind≠0):Zr8 (ZdE (l++[g])) m:=by
 have e1:ZdE (l++[g])=ZdE l++[-1]:=by unfold ZdE;rw[List.map_append,List.map_singleton,if_neg hg]
 refine ⟨h.u,λj=>?_,h.len⟩
 rw[e1,ZnN,h.lk j]
 by_cases hj:j=(ZdE l).length
 ·rw[if_pos hj,hj]
  have:clkAt (ZdE l) ((ZdE l).length:Int)=-1:=by
   unfold clkAt
   rw[if_pos (by omega),Int.toNat_natCast,List.getD_eq_getElem?_getD,List.getElem?_eq_none (Nat.le_refl _)]
   rfl
  rw[this]
 ·rw[if_neg hj]
theorem Zz4 {m:List (Int × Int)} {k x:Int}:(upA m k x).length≤m.length+1:=by
 unfold upA
 split
 ·rw[List.length_map];omega
 ·simp
theorem Ztr {x:WdX} {f:Int} (i:Nat) (hi:L[i]?=some S) (hS:Sat e w L) (hr:∀g,S g→ZtG x g) (hwf:x.wf) (hs:x.short)
  (hbad:(Za4 x.w).2≠0→∀w',Sat e w' L→K (.tuple #[.pointer none,.int .i64 (Za4 x.w).2]) w')
  (harg:(Za4 x.w).2=0→Zhq x.w f=none→∀w',Sat e w' L→K (.tuple #[.pointer none,.int .i64 1]) w')
  (hok:(Za4 x.w).2=0→∀(n:Nat) fd,f=n→x.w.Feds[n]?=some fd→Zhq x.w f=some fd→∀r w',Sat e w' (Ya r x.w n fd (ZiQ x.w) 0::L)→K (.tuple #[.pointer (some ⟨r,0,none⟩),.int .i64 0]) w') :
  Cl prog 19 #[.agg x.cs.toArray,.int .i64 f] w K:=by
 refine Zm5 ?_
 unfold ZrQ
 refine Yp (cs:=x.cs) hS rfl λb w1 h1=>?_
 refine Zo h1 0 (vs:=x.cs) rfl (by rfl) rfl ?_
 refine ZdI (x:=x) (i+1) (by simpa using hi) h1 hr hwf hs λw2 h2=>?_
 refine Zam (Zal ?_)
 refine ZrP (λc1=>Zi (hbad c1 _ h2.drop)) (λc1=>Zf ?_)
 have hwd:=ZfI c1
 have hi2:(blk b 25 x.cs::L)[i+1]?=some S:=by simpa using hi
 have hwl:x.w.Feds.length=x.Feds.length:=by simp[WdX.w]
 by_cases d1:f<0
 ·refine Ztt d1 ?_
  refine Zd (Zd (Zd (Zd (Zd (Yv (Zd (Zd (Zd (Zd (Zd (Zd (Zd (Yv (Zi ?_))))))))))))))
  exact harg c1 (if_neg (by omega)) _ h2.drop
 refine Ze7 d1 (Zj (Zj (Za (Zj (Zb h2 0 rfl (v:=x.fv) rfl (Zj ?_))))))
 refine Zt h2 (i+1) hi2 (λg hg=>(hr g hg).feds) ?_
 by_cases d2:(x.Feds.length:Int)≤f
 ·refine Ze (Zqv (by omega) (Yd (Zd (Zd (Zd (Zd (Zd (Zd (Zd (Yv (Zi ?_)))))))))))
  refine harg c1 ?_ _ h2.drop
  unfold Zhq
  rw[if_pos (by omega),List.getElem?_eq_none (by omega)]
  rfl
 refine Zj (ZnR (by omega) (Yd ?_))
 obtain ⟨n,rfl⟩:∃n:Nat,f=n:=⟨f.toNat,by omega⟩
 obtain ⟨fd,hfd⟩:=Zk (l:=x.Feds) (j:=n) (by omega)
 have hfdm:=List.mem_of_getElem? hfd
 have hwf':x.w.Feds[n]?=some fd.f:=by simp only[WdX.w];rw[List.getElem?_map,hfd];rfl
 have hmay:Zhq x.w n=if fd.Kind=1 then some fd.f else none:=by
  unfold Zhq
  rw[if_pos (by omega),Int.toNat_natCast,hwf']
  rfl
 refine Zj (Za (Zj (Zb h2 0 rfl (v:=x.fv) rfl (Zj (Zj ?_)))))
 refine Zw h2 (i+1) hi2 (λg hg=>(hr g hg).feds) (λ_=>rfl) hfd λp hp=>?_
 refine Zj (Zbd hp λp1 hp1=>Zj (Yt h2 (i+1) hi2 hp1 (v:=.int .i64 fd.Kind) rfl ?_))
 refine Zj (ZrP (λd3=>Yd (Zi (harg c1 (by rw[hmay,if_neg d3]) _ h2.drop))) (λd3=>Yd (Zf ?_)))
 rw[if_pos d3] at hmay
 refine ZaY h2 λw4 h4=>?_
 refine Zo h4 0 (vs:=x.cs) rfl (by rfl) rfl ?_
 refine Za (Zb h4 0 rfl (v:=x.fv) rfl ?_)
 refine Zw h4 (i+1) hi2 (λg hg=>(hr g hg).feds) (λ_=>rfl) hfd λp2 hp2=>?_
 refine Zbd hp2 λp3 hp3=>Yt h4 (i+1) hi2 hp3 (v:=.int .i64 fd.Start) rfl ?_
 refine Za (Zb h4 0 rfl (v:=x.fv) rfl ?_)
 refine Zw h4 (i+1) hi2 (λg hg=>(hr g hg).feds) (λ_=>rfl) hfd λp4 hp4=>?_
 refine Zbd hp4 λp5 hp5=>Yt h4 (i+1) hi2 hp5 (v:=fd.iv) rfl ?_
 refine Zt h4 (i+1) hi2 (λg hg=>((hr g hg).fed fd hfdm).init) ?_
 have hn:=hwd.n
 have fin:∀(X:WdX) (q p g mb:Nat) w',X.w=x.w→Sat e w' (Zag X::IsQ q []::Yf p 0 []::Yo g 0 []::Zaj kI kI mb []::blk b 25 x.cs::L)→
   bld (Zl prog 136) #[(0,3),(3,1),(4,1),(5,1),(6,1),(7,1),(8,1),(9,1),(10,1)] [(0,.agg X.cs.toArray),(1,.int .i64 n),(2,.int .i64 fd.Start),(3,.int .i64 (fd.Init.length:Int)),(4,.pointer (some ⟨q,0,none⟩)),(5,.pointer (some ⟨p,0,none⟩)),(6,.pointer (some ⟨g,0,none⟩)),(7,.map (some mb))] w' λt57 w=>
    al (Value.cells t57) 136 w λt58 w=>fld 1 (.pointer (some ⟨b,0,none⟩)) w λt59 w=>ld1 t59 w λt60 w=>lnS t60 w λt61 w=>lp [(Value.int IntKind.i64 0)] w (b1 λt62 w g1=>bi .lss .i64 t62 t61 w λt63 w=>Zr t63
    (J0 (λw=>bi .add .i64 t62 (Value.int IntKind.i64 1) w λt75 w=>g1 [t75] w) λk2=>ixS 7 t60 t62 w λt65 w=>ldN 7 t65 w λt66 w=>al (Zl prog 46) 46 w λt10 w=>stN 7 t10 t66 w λ_ w=>fld 0 t10 w λt67 w=>ld1 t67 w λt68 w=>bi .eql .i64 t68 (Value.int IntKind.i64 0) w λt69 w=>Zr t69
     (ncP t58<|fld 9 t58 w λt72 w=>ld1 t72 w λt73 w=>upM prog 134 t73 t62 (Value.int IntKind.i64 0) w λ_ w=>k2 w) (k2 w))
    (K (Value.tuple #[t58,(Value.int IntKind.i64 0)]) w)):=by
  intro X q p g mb w' hX h'
  refine Zaf (wcs X n fd.Start fd.Init.length q p g mb (.slice none 0 0)) (by kernel_rfl) ?_
  refine Yp (cs:=wcs X n fd.Start fd.Init.length q p g mb (.slice none 0 0)) h' rfl λr w6 h6=>?_
  refine Za (Zb h6 6 rfl (v:=x.fv) rfl ?_)
  have hi6:(blk r 136 (wcs X n fd.Start fd.Init.length q p g mb (.slice none 0 0))::Zag X::IsQ q []::Yf p 0 []::Yo g 0 []::Zaj kI kI mb []::blk b 25 x.cs::L)[i+7]?=some S:=by simpa using hi
  refine Zt h6 (i+7) hi6 (λg hg=>(hr g hg).feds) ?_
  have hxl:x.Feds.length≤8:=by have:=hn.2;omega
  refine Zdk (λmm t62 w=>∃(j:Nat) (m:List (Int × Int)),j≤x.Feds.length∧t62=.int .i64 j∧mm=x.Feds.length - j∧Zr8 (ZdE ((x.Feds.take j).map Zao.f)) m∧m.length≤j∧Sat e w (Zaj kI kI mb m::BW r X n fd.Start fd.Init.length q p g mb (.slice none 0 0)::Zag X::IsQ q []::Yf p 0 []::Yo g 0 []::blk b 25 x.cs::L)) x.Feds.length
   ⟨0,[],Nat.zero_le _,rfl,rfl,Zt8,Nat.le_refl _,h6.selR [_,_,_,_,_,_,_] [_,_,_,_,_,_,_] [5,0,1,2,3,4,6] (by decide) rfl⟩ ?_
  rintro mm _ w7 g1 ⟨j,m,hj,rfl,rfl,hm,hml,h7⟩ hg1
  have hi7:(Zaj kI kI mb m::BW r X n fd.Start fd.Init.length q p g mb (.slice none 0 0)::Zag X::IsQ q []::Yf p 0 []::Yo g 0 []::blk b 25 x.cs::L)[i+7]?=some S:=by simpa using hi
  refine Za7 (λc=>Zi ?_) (λc=>Zf ?_)
  ·obtain ⟨fj,hfj⟩:=Zk (l:=x.Feds) (j:=j) (by omega)
   have hfjm:=List.mem_of_getElem? hfj
   have htl:((x.Feds.take j).map Zao.f).length=j:=by rw[List.length_map,List.length_take];omega
   have htk:(x.Feds.take (j+1)).map Zao.f=(x.Feds.take j).map Zao.f++[fj.f]:=by rw[Zx hfj,List.map_append];rfl
   refine J0.cut (λw=>∃m',Zr8 (ZdE ((x.Feds.take (j+1)).map Zao.f)) m'∧m'.length≤j+1∧Sat e w (Zaj kI kI mb m'::BW r X n fd.Start fd.Init.length q p g mb (.slice none 0 0)::Zag X::IsQ q []::Yf p 0 []::Yo g 0 []::blk b 25 x.cs::L)) (λk2 hk2=>?_) ?_
   ·refine Zw h7 (i+7) hi7 (λg hg=>(hr g hg).feds) (λ_=>rfl) hfj λa ha=>Ym h7 (i+7) hi7 ha rfl ?_
    rw[ZTN]
    refine Yp (cs:=[.int .i64 0,.int .i64 0,.int .i64 0,.slice none 0 0,.slice none 0 0,.slice none 0 0,.slice none 0 0]) h7 rfl λt10 w8 h8=>?_
    refine Zq h8 0 rfl (vs:=fj.cs) rfl rfl (by simp) (Zc1 i hi hS λg hg=>(hr g hg).fed fj hfjm) (cs':=fj.cs) (by rfl) λw9 h9=>?_
    refine Za (Zb h9 0 rfl (v:=.int .i64 fj.Kind) rfl ?_)
    refine ZoR (λc2=>Zi ?_) (λc2=>Zf ?_)
    ·refine Zh (Za (Zb h9 2 rfl (v:=.map (some mb)) rfl ?_))
     refine ZsG ZTz ZTy hm.u (h9.pick 1 rfl) (j:Int) 0 (vf:=kI) rfl λw10 h10=>?_
     refine hk2 _ ⟨upA m (j:Int) 0,?_,Nat.le_trans Zz4 (by omega),h10.selR [_,_,_,_,_,_,_,_] [_,_,_,_,_,_,_] [0,2,3,4,5,6,7] (by decide) rfl⟩
     rw[htk]
     have:=ZvR (g:=fj.f) hm c2 (by omega)
     rwa [htl] at this
    ·refine hk2 _ ⟨m,?_,by omega,h9.drop⟩
     rw[htk]
     exact Zxj hm c2
   ·rintro w8 ⟨m',hm',hml',h8⟩
    refine Yr (by omega) ?_
    exact hg1 _ _ _ (by omega) ⟨j+1,m',by omega,rfl,rfl,hm',hml',h8⟩
  ·have ej:j=x.Feds.length:=by omega
   rw[ej,List.take_length] at hm
   have hms:Zr8 (ZiQ x.w).clk m:=hm
   have h8:=h7.own_nil 100 7 Zak.cs
   refine hok c1 n fd.f rfl hwf' hmay r _ (ZbQ (N:=ZiQ x.w) (X:=X) (q:=q) (p:=p) (g:=g) (b:=mb) (m:=m) (lv:=.slice none 0 0) ⟨hX,ZxN hX hs,WOk.init hwd hwf' d3,hms⟩ ?_)
   exact h8.selR [_,_,_,_,_,_,_,_] [_,_,_,_,_,_,_] [2,4,5,6,3,1,0] (by decide) rfl
 have o4:∀{l':List HP} {w'} {A:Prop} (j jb:Nat),Sat e w' l'→l'[j]?=some S→l'[jb]?=some (blk b 25 x.cs)→A→
   ((ld1 (.pointer (some p5)) w' (λv' w''=>v'=fd.iv∧w''=w'))∧((ld1 (.pointer (some ⟨b,0+1,none⟩)) w' (λv' w''=>v'=x.fv∧w''=w'))∧((ld1 (.pointer (some p3)) w' (λv' w''=>v'=.int .i64 fd.Start∧w''=w'))∧((ld1 (.pointer (some ⟨b,0+1,none⟩)) w' (λv' w''=>v'=x.fv∧w''=w'))∧A)))):=λj jb h' hj hb hA=>
  ⟨Yt h' j hj hp5 (v:=fd.iv) rfl ⟨rfl,rfl⟩,Zb h' jb hb (v:=x.fv) rfl ⟨rfl,rfl⟩,Yt h' j hj hp3 (v:=.int .i64 fd.Start) rfl ⟨rfl,rfl⟩,Zb h' jb hb (v:=x.fv) rfl ⟨rfl,rfl⟩,hA⟩
 have oN:∀{l':List HP} {w'} (jb:Nat),Sat e w' l'→l'[jb]?=some (blk b 25 x.cs)→ldN 3 (.pointer (some ⟨b,0,none⟩)) w' (λv' w''=>v'=.agg x.cs.toArray∧w''=w'):=λjb h' hb=>Zo h' jb hb (vs:=x.cs) rfl (by rfl) ⟨rfl,rfl⟩
 refine ⟨?_,?_⟩
 ·refine Zjv (x:=x) (i+1) hi2 h4 hr hs λX w5 hX h5=>o4 (i+2) 1 h5 (by simpa using hi) rfl ⟨?_,?_⟩
  ·refine ZoH h5 λq w6 h6=>o4 (i+3) 2 h6 (by simpa using hi) rfl ⟨?_,?_⟩
   ·refine Zgk h6 λp w7 h7=>o4 (i+4) 3 h7 (by simpa using hi) rfl ⟨?_,?_⟩
    ·refine Zd9 h7 λg w8 h8=>o4 (i+5) 4 h8 (by simpa using hi) rfl ?_
     refine Zfx kI kI h8 λmb w9 h9=>o4 (i+6) 5 h9 (by simpa using hi) rfl ⟨oN 5 h9 rfl,?_⟩
     exact fin X q p g mb _ hX (h9.selR [_,_,_,_,_,_] [_,_,_,_,_,_] [4,3,2,1,0,5] (by decide) rfl)
    ·refine Zfx kI kI h7 λmb w8 h8=>o4 (i+5) 4 h8 (by simpa using hi) rfl ⟨oN 4 h8 rfl,?_⟩
     refine Zd9 h8 λg w9 h9=>o4 (i+6) 5 h9 (by simpa using hi) rfl ?_
     exact fin X q p g mb _ hX (h9.selR [_,_,_,_,_,_] [_,_,_,_,_,_] [4,3,2,0,1,5] (by decide) rfl)
   ·refine Zfx kI kI h6 λmb w7 h7=>o4 (i+4) 3 h7 (by simpa using hi) rfl ⟨oN 3 h7 rfl,?_⟩
    refine Zgk h7 λp w8 h8=>o4 (i+5) 4 h8 (by simpa using hi) rfl ?_
    refine Zd9 h8 λg w9 h9=>o4 (i+6) 5 h9 (by simpa using hi) rfl ?_
    exact fin X q p g mb _ hX (h9.selR [_,_,_,_,_,_] [_,_,_,_,_,_] [4,3,1,0,2,5] (by decide) rfl)
  ·refine Zfx kI kI h5 λmb w6 h6=>o4 (i+3) 2 h6 (by simpa using hi) rfl ⟨oN 2 h6 rfl,?_⟩
   refine ZoH h6 λq w7 h7=>o4 (i+4) 3 h7 (by simpa using hi) rfl ?_
   refine Zgk h7 λp w8 h8=>o4 (i+5) 4 h8 (by simpa using hi) rfl ?_
   refine Zd9 h8 λg w9 h9=>o4 (i+6) 5 h9 (by simpa using hi) rfl ?_
   exact fin X q p g mb _ hX (h9.selR [_,_,_,_,_,_] [_,_,_,_,_,_] [4,2,1,0,3,5] (by decide) rfl)
 ·refine Zfx kI kI h4 λmb w5 h5=>o4 (i+2) 1 h5 (by simpa using hi) rfl ⟨oN 1 h5 rfl,?_⟩
  refine Zjv (x:=x) (i+2) (by simpa using hi) h5 hr hs λX w6 hX h6=>o4 (i+3) 2 h6 (by simpa using hi) rfl ?_
  refine ZoH h6 λq w7 h7=>o4 (i+4) 3 h7 (by simpa using hi) rfl ?_
  refine Zgk h7 λp w8 h8=>o4 (i+5) 4 h8 (by simpa using hi) rfl ?_
  refine Zd9 h8 λg w9 h9=>o4 (i+6) 5 h9 (by simpa using hi) rfl ?_
  exact fin X q p g mb _ hX (h9.selR [_,_,_,_,_,_] [_,_,_,_,_,_] [3,2,1,0,4,5] (by decide) rfl)
end Go.Proofs.YtnhaekgogppbiaaGreat
end
