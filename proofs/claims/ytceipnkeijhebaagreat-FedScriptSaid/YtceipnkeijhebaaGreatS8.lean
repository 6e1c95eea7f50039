/- Texts of the proof, joined. Conditions: none. -/
import Derived.Test.YtceipnkeijhebaaGreatS7
section
namespace Go.Proofs.YtceipnkeijhebaaGreat
open Go Go.E
set_option maxRecDepth 100000
variable {e w:World} {L Q R:List HP} {K:KV} {S S2:HP} {wd:Wd} {k:KS} {M:KM} {p n f s:Nat}
def inN (wd:Wd) (a:Int):Prop:=0<=a/\a<wd.Feds.length
instance (wd:Wd) (a:Int):Decidable (inN wd a):=by unfold inN;infer_instance
def ZuO (wd:Wd) (o:Zbs):Prop:=o.Kind<0\/6<o.Kind\/(o.Kind≠4/\¬inN wd o.A)\/(o.Kind=2/\¬inN wd o.B)
instance (wd:Wd) (o:Zbs):Decidable (ZuO wd o):=by unfold ZuO;infer_instance
def doK (wd:Wd) (k:KS) (o:Zbs):Int × KS:=if ZuO wd o then (1,k) else k.do' wd o.Kind.toNat o.A.toNat o.B.toNat
theorem Ze1.doK {k:KS} {s:Nat} (h:Ze1 wd k s) (o:Zbs):Ze1 wd (doK wd k o).2 (s+1):=by
 unfold Go.Proofs.YtceipnkeijhebaaGreat.doK;split
 .exact h.mono<|Nat.le_succ _
 .rename_i hb;refine h.do' _ _ _ (λh4=>?_) λh2=>?_
  .have:inN wd o.A:=Classical.byContradiction λhn=>hb (.inr (.inr (.inl ⟨λh=>h4 (by rw[h];rfl),hn⟩)));unfold inN at this;omega
  .have:inN wd o.B:=Classical.byContradiction λhn=>hb (.inr (.inr (.inr ⟨by
    have h1:¬o.Kind<0:=λh=>hb (.inl h);omega,hn⟩)))
   unfold inN at this;omega
abbrev Zdq (n:Nat) (o:Zbs):Nat:=if o.Kind=0 then n+1 else n
theorem ZrZ {o:Zbs} (hs:s<=1000000) (hn:n<=1000) (hS:Sat e w<|Zby p wd k n s::Q) (hk:∀w',Sat e w' (Zby p wd (doK wd k o).2 (Zdq n o) (s+1)::Q)->K (Iw (doK wd k o).1) w') :
  Cl prog 8 #[pt p,.agg o.cs.toArray] w K:=by
 refine ZhK ?_;unfold Zij;obtain ⟨M,hI,h0⟩:=ZpC hS;have hI':=hI.doK o;refine Yp (cs:=o.cs) h0 rfl λt3 w1 h1=>?_;have h2:Sat e w1 (KP p wd n k M++blk t3 38 o.cs::Q):=h1.sn 8 [1,2,3,4,5,6,7,0];have fin:∀{w:World} {M':KM} {er:Int} {k':KS},doK wd k o=(er,k')->Sat e w (KP p wd (Zdq n o) k' M'++blk t3 38 o.cs::Q)->K (Iw er) w:=by
  intro w M' er k' he h;rw[he] at hk hI';exact hk _<|ZkQ (M:=M') hI'<|h.sn 8 [0,1,2,3,4,5,6]
 have hle:n<=Zdq n o:=by unfold Zdq;split <;> omega
 have bad:ZuO wd o->∀{w:World},Sat e w (KP p wd n k M++blk t3 38 o.cs::Q)->K (Iw 1) w:=λhb _ h=>fin (if_pos hb)<|Zrf hle h;have good:¬ZuO wd o->doK wd k o=k.do' wd o.Kind.toNat o.A.toNat o.B.toNat:=λhb=>if_neg hb;by_cases c1:o.Kind<0
 .exact Za<|Zb h1 0 rfl rfl<|Qltt<|Zd<|Zd<|Zd<|Yv<|Zd<|Zd<|Zd<|Zd<|Zrb<|Zd<|Zd<|Zd<|Zd<|Zd<|Yv<|Zd<|Zd<|Zd<|Zd<|Zrb<|Zd<|Zd<|Zd<|Zd<|Zd<|Yv<|Zi<|bad (.inl c1) h2
 by_cases c2:6<o.Kind
 .exact Za<|Zb h1 0 rfl rfl<|Qltf<|Ze<|Za<|Ze<|Zb h1 0 rfl rfl<|Ze<|Qgtt<|Yd<|Zd<|Zd<|Zd<|Zd<|Zrb<|Zd<|Zd<|Zd<|Zd<|Zd<|Yv<|Zd<|Zd<|Zd<|Zd<|Zrb<|Zd<|Zd<|Zd<|Zd<|Zd<|Yv<|Zi<|bad (.inr (.inl c2)) h2
 by_cases c4:o.Kind=4
 .have hg:=good (by rintro (h | h | h | h) <;> omega);rw[show o.Kind.toNat=4 from by omega] at hg;have hst:Zdq n o=n:=if_neg (by omega);rw[hst] at fin;refine Za<|Zb h1 0 rfl rfl<|Qltf<|Ze<|Za<|Ze<|Zb h1 0 rfl rfl<|Ze<|Qgtf<|Yd<|Ze<|Za<|Ze<|Zb h1 0 rfl rfl<|Ze<|Qnef<|Zj<|Zu<|Zd<|Zd<|Zd<|Zd<|Ze<|Yd<|Yd<|Ze<|Za<|Ze<|Zb h1 0 rfl rfl<|Ze<|Qeqf<|Zj<|Zu<|Zd<|Zd<|Zd<|Zd<|Ze<|Yd<|Yd<|Zf<|Za<|Zb h1 0 rfl rfl<|Qeqf<|Zf<|Qeqf<|Zf<|Qeqf<|Zf<|Qeqf<|Zf<|Qeqt<|Zi<|Zh<|Za ?_;cases hc:k.cut with
  | none=>
   have hcv:(kcs wd k M)[4]?=some Pn:=by unfold kcs;rw[hc];rfl
   refine Zb h1 3 rfl hcv<|Ztj<|Zi<|fin (hg.trans ?_) h2;show k.begin'=_;unfold KS.begin';rw[hc]
  | some c=>
   obtain ⟨_,hco⟩:=hI.cutIs hc;have hcv:(kcs wd k M)[4]?=some (pt M.c):=by unfold kcs;rw[hc];rfl
   refine Zb h1 3 rfl hcv<|ZmP _<|Zf<|Zh<|Za<|Zb h1 3 rfl hcv<|Zqy (by have:=hco.begun;show 0<=c.begun/\c.begun<=1000000;omega) (ZhH hc h2) λw3 h3=>?_;by_cases hu:c.over<c.begun
   .rw[if_pos (show (Zcg (Zai wd) c).over<(Zcg (Zai wd) c).begun from hu)] at h3 ⊢;have h4:=Zf8 (k:=k) c c hc h3;rw[ZoM hc] at h4;refine fin (hg.trans ?_) h4;show k.begin'=_;unfold KS.begin';rw[hc];exact if_pos hu
   .rw[if_neg (show ¬(Zcg (Zai wd) c).over<(Zcg (Zai wd) c).begun from hu)] at h3 ⊢;have h4:=Zf8 (k:=k) { c with begun:=c.begun+1,least:=Inf } c hc h3;refine fin (hg.trans ?_) h4;show k.begin'=_;unfold KS.begin';rw[hc];exact if_neg hu
 .by_cases ca:inN wd o.A
  .obtain ⟨a,hA⟩:∃a:Nat,o.A=a:=⟨o.A.toNat,by unfold inN at ca;omega⟩;have hal:a<wd.Feds.length:=by unfold inN at ca;omega
   have hat:o.A.toNat=a:=by omega
   by_cases c2':o.Kind=2
   .by_cases cb:inN wd o.B
    .obtain ⟨b,hB⟩:∃b:Nat,o.B=b:=⟨o.B.toNat,by unfold inN at cb;omega⟩;have hbl:b<wd.Feds.length:=by unfold inN at cb;omega
     have hg:=good (by rintro (h | h | h | h);omega;omega;exact h.2 ca;exact h.2 cb);rw[show o.Kind.toNat=2 from by omega,hat,show o.B.toNat=b from by omega] at hg;have hst:Zdq n o=n:=if_neg (by omega);rw[hst] at fin;refine Za<|Zb h1 0 rfl rfl<|Qltf<|Ze<|Za<|Ze<|Zb h1 0 rfl rfl<|Ze<|Qgtf<|Yd<|Ze<|Za<|Ze<|Zb h1 0 rfl rfl<|Ze<|Qnet<|Zj<|Ze<|Ze<|Za<|Ze<|Zb h1 0 rfl rfl<|Ze<|Zdx h2 ?_;rw[decide_eq_true (show 0<=o.A/\o.A<(wd.Feds.length:Int) from ca)];refine Ze<|ZaJ<|Ze<|Yv<|Yd<|Ze<|Za<|Ze<|Zb h1 0 rfl rfl<|Ze<|Qeqt<|Zj<|Ze<|Ze<|Za<|Ze<|Zb h1 0 rfl rfl<|Ze<|Zdx h2 ?_;rw[decide_eq_true (show 0<=o.B/\o.B<(wd.Feds.length:Int) from cb)];refine Ze<|ZaJ<|Ze<|Yv<|Yd<|Zf<|Za<|Zb h1 0 rfl rfl<|Qeqf<|Zf<|Qeqf<|Zf<|Qeqt<|Zi<|Za<|Zb h1 0 rfl rfl<|Za<|Zb h1 0 rfl rfl ?_;rw[hA,hB];exact Zoi hal hbl hI hs h2 λM' w3 h3=>fin hg h3
    .refine Za<|Zb h1 0 rfl rfl<|Qltf<|Ze<|Za<|Ze<|Zb h1 0 rfl rfl<|Ze<|Qgtf<|Yd<|Ze<|Za<|Ze<|Zb h1 0 rfl rfl<|Ze<|Qnet<|Zj<|Ze<|Ze<|Za<|Ze<|Zb h1 0 rfl rfl<|Ze<|Zdx h2 ?_;rw[decide_eq_true (show 0<=o.A/\o.A<(wd.Feds.length:Int) from ca)];refine Ze<|ZaJ<|Ze<|Yv<|Yd<|Ze<|Za<|Ze<|Zb h1 0 rfl rfl<|Ze<|Qeqt<|Zj<|Ze<|Ze<|Za<|Ze<|Zb h1 0 rfl rfl<|Ze<|Zdx h2 ?_;rw[decide_eq_false (show ¬(0<=o.B/\o.B<(wd.Feds.length:Int)) from cb)];exact Ze<|Zch<|Ze<|Yv<|Yd<|Zi<|bad (.inr (.inr (.inr ⟨c2',cb⟩))) h2
   .have hg:=good (by rintro (h | h | h | h);omega;omega;exact h.2 ca;exact c2' h.1);rw[hat] at hg;have front:∀{K:KV},K Bt w1->Cl prog 37 #[pt p,Iw o.A] w1 K:=λh=>Zdx h2 (by
     rw[decide_eq_true (show 0<=o.A/\o.A<(wd.Feds.length:Int) from ca)];exact h)
    rcases (show o.Kind=0\/o.Kind=1\/o.Kind=3\/o.Kind=5\/o.Kind=6 from by omega) with c | c | c | c | c
    .rw[show o.Kind.toNat=0 from by omega] at hg;have hst:Zdq n o=n+1:=if_pos c;rw[hst] at fin;refine Za<|Zb h1 0 rfl rfl<|Qltf<|Ze<|Za<|Ze<|Zb h1 0 rfl rfl<|Ze<|Qgtf<|Yd<|Ze<|Za<|Ze<|Zb h1 0 rfl rfl<|Ze<|Qnet<|Zj<|Ze<|Ze<|Za<|Ze<|Zb h1 0 rfl rfl<|Ze<|front<|Ze<|ZaJ<|Ze<|Yv<|Yd<|Ze<|Za<|Ze<|Zb h1 0 rfl rfl<|Ze<|Qeqf<|Zj<|Zu<|Zd<|Zd<|Zd<|Zd<|Ze<|Yd<|Yd<|Zf<|Za<|Zb h1 0 rfl rfl<|Qeqt<|Zi<|Za<|Zb h1 0 rfl rfl ?_;rw[hA];exact Zti hal hI hs hn h2 λM' w3 h3=>fin hg h3
    .rw[show o.Kind.toNat=1 from by omega] at hg;have hst:Zdq n o=n:=if_neg (by omega);rw[hst] at fin;refine Za<|Zb h1 0 rfl rfl<|Qltf<|Ze<|Za<|Ze<|Zb h1 0 rfl rfl<|Ze<|Qgtf<|Yd<|Ze<|Za<|Ze<|Zb h1 0 rfl rfl<|Ze<|Qnet<|Zj<|Ze<|Ze<|Za<|Ze<|Zb h1 0 rfl rfl<|Ze<|front<|Ze<|ZaJ<|Ze<|Yv<|Yd<|Ze<|Za<|Ze<|Zb h1 0 rfl rfl<|Ze<|Qeqf<|Zj<|Zu<|Zd<|Zd<|Zd<|Zd<|Ze<|Yd<|Yd<|Zf<|Za<|Zb h1 0 rfl rfl<|Qeqf<|Zf<|Qeqt<|Zi<|Za<|Zb h1 0 rfl rfl ?_;rw[hA];exact ZqM hal hI hs h2 λM' w3 h3=>fin hg h3
    .rw[show o.Kind.toNat=3 from by omega] at hg;have hst:Zdq n o=n:=if_neg (by omega);rw[hst] at fin;refine Za<|Zb h1 0 rfl rfl<|Qltf<|Ze<|Za<|Ze<|Zb h1 0 rfl rfl<|Ze<|Qgtf<|Yd<|Ze<|Za<|Ze<|Zb h1 0 rfl rfl<|Ze<|Qnet<|Zj<|Ze<|Ze<|Za<|Ze<|Zb h1 0 rfl rfl<|Ze<|front<|Ze<|ZaJ<|Ze<|Yv<|Yd<|Ze<|Za<|Ze<|Zb h1 0 rfl rfl<|Ze<|Qeqf<|Zj<|Zu<|Zd<|Zd<|Zd<|Zd<|Ze<|Yd<|Yd<|Zf<|Za<|Zb h1 0 rfl rfl<|Qeqf<|Zf<|Qeqf<|Zf<|Qeqf<|Zf<|Qeqt<|Zi<|Za<|Zb h1 0 rfl rfl ?_;rw[hA];exact ZsQ hal hI h2 λM' w3 h3=>fin hg h3
    .rw[show o.Kind.toNat=5 from by omega] at hg;have hst:Zdq n o=n:=if_neg (by omega);rw[hst] at fin;refine Za<|Zb h1 0 rfl rfl<|Qltf<|Ze<|Za<|Ze<|Zb h1 0 rfl rfl<|Ze<|Qgtf<|Yd<|Ze<|Za<|Ze<|Zb h1 0 rfl rfl<|Ze<|Qnet<|Zj<|Ze<|Ze<|Za<|Ze<|Zb h1 0 rfl rfl<|Ze<|front<|Ze<|ZaJ<|Ze<|Yv<|Yd<|Ze<|Za<|Ze<|Zb h1 0 rfl rfl<|Ze<|Qeqf<|Zj<|Zu<|Zd<|Zd<|Zd<|Zd<|Ze<|Yd<|Yd<|Zf<|Za<|Zb h1 0 rfl rfl<|Qeqf<|Zf<|Qeqf<|Zf<|Qeqf<|Zf<|Qeqf<|Zf<|Qeqf<|Zf<|Za<|Zb h1 0 rfl rfl ?_;rw[hA];refine ZbX hal h2 ?_;cases hN:k.node a with
     | slow N=>
      refine Ztj<|Zi<|fin (hg.trans ?_) h2;show k.turn a=_;unfold KS.turn;rw[hN]
     | bold N rk tl=>
      refine ZmP _<|Zf<|Za<|Zb h1 0 rfl rfl<|Qeqt<|Zi<|Zh<|Za ?_;have hbf:(k.node a).isBold=true:=by rw[hN];rfl
      obtain ⟨c',hc,hco⟩:=Zll hI hal hbf;have hrk:rk<Zai wd:=by have:=hI.rank a hal hbf;rw[hN] at this;exact this
      have hb8:=Zk9 hI.may;have hcv:(kcs wd k M)[4]?=some (pt M.c):=by unfold kcs;rw[hc];rfl
      refine Zb h2.drew 2 rfl hcv<|Zh<|Zbd (Zfy hal hN) λa' ha'=>Yt h2.drew 0 rfl ha' (v:=Iw (rk:Int)) rfl<|Ztb (by omega) (by show (rk:Int)<(Zai wd:Int);omega) (ZhH hc h2.drew) λw3 h3=>?_;rw[Zvu (by rw[hco.t];exact hrk)] at h3;have h4:=Zf8 (k:=k) _ c' hc h3;by_cases hu:¬c'.over<c'.begun\/c'.t rk=c'.begun
      .rw[if_pos hu,ZoM hc] at h4;have e1:(Zcg (Zai wd) c').turnE rk=130:=if_pos hu;rw[e1];refine fin (hg.trans ?_) h4;show k.turn a=_;unfold KS.turn;rw[hN,hc];exact if_pos hu
      .rw[if_neg hu] at h4;have e1:(Zcg (Zai wd) c').turnE rk=0:=if_neg hu;rw[e1];refine fin (hg.trans ?_) h4;show k.turn a=_;unfold KS.turn;rw[hN,hc];exact if_neg hu
    .rw[show o.Kind.toNat=6 from by omega] at hg;have hst:Zdq n o=n:=if_neg (by omega);rw[hst] at fin;refine Za<|Zb h1 0 rfl rfl<|Qltf<|Ze<|Za<|Ze<|Zb h1 0 rfl rfl<|Ze<|Qgtf<|Yd<|Ze<|Za<|Ze<|Zb h1 0 rfl rfl<|Ze<|Qnet<|Zj<|Ze<|Ze<|Za<|Ze<|Zb h1 0 rfl rfl<|Ze<|front<|Ze<|ZaJ<|Ze<|Yv<|Yd<|Ze<|Za<|Ze<|Zb h1 0 rfl rfl<|Ze<|Qeqf<|Zj<|Zu<|Zd<|Zd<|Zd<|Zd<|Ze<|Yd<|Yd<|Zf<|Za<|Zb h1 0 rfl rfl<|Qeqf<|Zf<|Qeqf<|Zf<|Qeqf<|Zf<|Qeqf<|Zf<|Qeqf<|Zf<|Za<|Zb h1 0 rfl rfl ?_;rw[hA];refine ZbX hal h2 ?_;cases hN:k.node a with
     | slow N=>
      refine Ztj<|Zi<|fin (hg.trans ?_) h2;show k.report wd a=_;unfold KS.report;rw[hN]
     | bold N rk tl=>
      refine ZmP _<|Zf<|Za<|Zb h1 0 rfl rfl<|Qeqf<|Zf<|Za<|Zb h1 0 rfl rfl ?_;rw[hA];exact Zo5 hal hN hI hs hn h2 λM' w3 h3=>fin hg h3
  .refine Za<|Zb h1 0 rfl rfl<|Qltf<|Ze<|Za<|Ze<|Zb h1 0 rfl rfl<|Ze<|Qgtf<|Yd<|Ze<|Za<|Ze<|Zb h1 0 rfl rfl<|Ze<|Qnet<|Zj<|Ze<|Ze<|Za<|Ze<|Zb h1 0 rfl rfl<|Ze<|Zdx h2 ?_;rw[decide_eq_false (show ¬(0<=o.A/\o.A<(wd.Feds.length:Int)) from ca)];exact Ze<|Zch<|Ze<|Yv<|Yd<|Zd<|Zd<|Zd<|Zd<|Zrb<|Zd<|Zd<|Zd<|Zd<|Zd<|Yv<|Zi<|bad (.inr (.inr (.inl ⟨c4,ca⟩))) h2
instance (n a b:Int) (x:Zn):Decidable (Zut n a b x):=inferInstanceAs<|Decidable<|_\/_
def ZY9 (n room:Int) (Q:Nat->Nat->List Zn) (a b:Int) (x:Zn):Int:=if Zut n a b x then 1 else if ((Q a.toNat b.toNat).length:Int)=room then 2 else 0
def Z06 (n room:Int) (Q:Nat->Nat->List Zn) (a b:Int) (x:Zn):Nat->Nat->List Zn:=if ZY9 n room Q a b x=0 then ZvY Q a.toNat b.toNat (Q a.toNat b.toNat++[x]) else Q
def ZX7 (n:Int) (Q:Nat->Nat->List Zn) (a b:Int):Bool:=decide (okL n a b)&&!(Q a.toNat b.toNat).isEmpty
def ZYf (n:Int) (Q:Nat->Nat->List Zn) (a b:Int):Zn:=if ZX7 n Q a b=true then (Q a.toNat b.toNat).headD Zn.zero else Zn.zero
def ZYL (n:Int) (Q:Nat->Nat->List Zn) (a b:Int):Nat->Nat->List Zn:=if ZX7 n Q a b=true then ZvY Q a.toNat b.toNat (Q a.toNat b.toNat).tail else Q
theorem ZZY {n room:Int} {Q:Nat->Nat->List Zn} {a b:Int} {x:Zn} (h:ZY9 n room Q a b x≠0):Z06 n room Q a b x=Q:=if_neg h
theorem Z08 {n:Int} {Q:Nat->Nat->List Zn} {a b:Int} (h:ZX7 n Q a b=false):ZYL n Q a b=Q:=if_neg (by rw[h];decide)
theorem Z1T {n:Int} {Q:Nat->Nat->List Zn} {c d:Nat} (h:ZX7 n Q c d=true):Q c d=ZYf n Q c d::ZYL n Q c d c d:=by
 unfold ZYf ZYL;rw[if_pos h,if_pos h];unfold ZX7 at h;rw[Int.toNat_natCast,Int.toNat_natCast] at h ⊢;unfold ZvY;rw[if_pos ⟨rfl,rfl⟩];cases hq:Q c d with
 | nil=>rw[hq] at h;simp at h
 | cons x q=>rfl
def ZYI (n:Nat) (Q:Nat->Nat->List Zn):List (List Zn):=(List.range<|n*n).map λi=>Q (i / n)<|i % n
theorem ZYk (n:Nat) (Q:Nat->Nat->List Zn):(ZYI n Q).length=n*n:=by simp[ZYI]
theorem Z0a {n a b:Nat} (ha:a<n) (hb:b<n):a*n+b<n*n:=by
 have h1:a*n+n<=n*n:=by rw[<-Nat.succ_mul];exact Nat.mul_le_mul_right n ha
 omega
theorem Z0s {n a b:Nat} (hb:b<n):(a*n+b) / n=a/\(a*n+b) % n=b:=by
 constructor
 .rw[Nat.mul_comm,Nat.mul_add_div (by omega),Nat.div_eq_of_lt hb,Nat.add_zero]
 .rw[Nat.mul_comm,Nat.mul_add_mod,Nat.mod_eq_of_lt hb]
theorem ZYt {n a b:Nat} (Q:Nat->Nat->List Zn) (ha:a<n) (hb:b<n):(ZYI n Q)[a*n+b]?=some (Q a b):=by
 unfold ZYI;rw[List.getElem?_map,List.getElem?_range<|Z0a ha hb];simp only[Option.map_some,(Z0s hb).1,(Z0s hb).2]
theorem Z1R {n a b:Nat} (Q:Nat->Nat->List Zn) (q:List Zn) (ha:a<n) (hb:b<n):ZYI n (ZvY Q a b q)=(ZYI n Q).set (a*n+b) q:=by
 apply List.ext_getElem?;intro i;by_cases hi:i<n*n
 .by_cases hia:a*n+b=i
  .subst hia;rw[List.getElem?_set_self (by rw[ZYk];exact hi),ZYt _ ha hb];exact congrArg some<|if_pos ⟨rfl,rfl⟩
  .rw[List.getElem?_set_ne hia];unfold ZYI;rw[List.getElem?_map,List.getElem?_map,List.getElem?_range hi];simp only[Option.map_some];congr 1;refine if_neg λh=>hia ?_;rw[<-h.1,<-h.2,Nat.mul_comm];exact Nat.div_add_mod i n
 .rw[List.getElem?_eq_none (by rw[ZYk];omega),List.getElem?_eq_none (by rw[List.length_set,ZYk];omega)]
theorem Z1E {α:Type} (g:Nat->List α) (p:Nat):∀q,fl g (p+q)=fl g p++fl (λb=>g<|p+b) q
 | 0=>by simp[fl]
 | q+1=>by rw[<-Nat.add_assoc,ZjZ,Z1E g p q,ZjZ,List.append_assoc]
theorem ZZB {α:Type} {f g:Nat->List α}:∀{n:Nat},(∀i,i<n->f i=g i)->fl f n=fl g n
 | 0,_=>rfl
 | n+1,h=>by rw[ZjZ,ZjZ,ZZB (n:=n) λi hi=>h i (by omega),h n (by omega)]
theorem Z1I {α:Type} (g:Nat->List α) (n:Nat):∀m,fl g (m*n)=fl (λa=>fl (λb=>g<|a*n+b) n) m
 | 0=>by simp[fl]
 | m+1=>by rw[Nat.succ_mul,Z1E,Z1I g n m,ZjZ]
theorem Z0w (n:Nat) (Q:Nat->Nat->List Zn):(ZYI n Q).flatten=ZpJ n Q:=by
 have h1:(ZYI n Q).flatten=fl (λi=>Q (i / n)<|i % n) (n*n):=by
  unfold ZYI fl;rw[List.flatMap_def]
 rw[h1,Z1I];unfold ZpJ ZrF;refine ZZB λa _=>ZZB λb hb=>?_;rw[(Z0s hb).1,(Z0s hb).2]
def ZY0 (vs:List Value) (pg:List<|List Zn):List HP:=List.zipWith (λv l=>Zz 88 8 Zn.cs v l) vs pg
abbrev Z1e (v:Value):List Value:=[v]
theorem ZYw {vs:List Value} {pg:List<|List Zn} {p:Nat} {v:Value} {l:List Zn} (hv:vs[p]?=some v) (hl:pg[p]?=some l):(ZY0 vs pg)[p]?=some (Zz 88 8 Zn.cs v l):=by
 unfold ZY0;rw[List.getElem?_zipWith,hv,hl]
theorem Z0U {vs:List Value} {pg:List<|List Zn} {p:Nat} {v:Value} {l:List Zn} (hv:p<vs.length) (hl:p<pg.length):(ZY0 vs pg).set p (Zz 88 8 Zn.cs v l)=ZY0 (vs.set p v) (pg.set p l):=by
 unfold ZY0;apply List.ext_getElem?;intro i;rw[List.getElem?_zipWith];by_cases h:p=i
 .subst h;rw[List.getElem?_set_self (by rw[List.length_zipWith];omega),List.getElem?_set_self hv,List.getElem?_set_self hl]
 .rw[List.getElem?_set_ne h,List.getElem?_set_ne h,List.getElem?_set_ne h,List.getElem?_zipWith]
def ZYR (n:Nat) (room:Int) (Q:Nat->Nat->List Zn) (vs:List Value):Prop:=vs.length=n*n/\1<=n/\n<=8/\1<=room/\room<=16/\∀a b,a<n->b<n->((Q a b).length:Int)<=room
def ZVw (r n:Nat) (room:Int) (Q:Nat->Nat->List Zn):HP:=hex λp:Value × List Value=>Yh [pur<|ZYR n room Q p.2,blk r 170 [Iw n,Iw room,p.1],Zz 46 1 Z1e p.1 p.2,Yh<|ZY0 p.2<|ZYI n Q]
theorem ZX0 {r n:Nat} {room:Int} {Q:Nat->Nat->List Zn} (h:Sat e w<|ZVw r n room Q::R):∃V vs,ZYR n room Q vs/\Sat e w (blk r 170 [Iw n,Iw room,V]::Zz 46 1 Z1e V vs::Yh (ZY0 vs<|ZYI n Q)::R):=by
 obtain ⟨p,h0⟩:=h.ex;obtain ⟨h1,h2⟩:=Sat.pure h0.split;exact ⟨p.1,p.2,h1,h2⟩
theorem Z0J {r n:Nat} {room:Int} {Q:Nat->Nat->List Zn} {V:Value} {vs:List Value} (h1:ZYR n room Q vs) (h:Sat e w<|blk r 170 [Iw n,Iw room,V]::Zz 46 1 Z1e V vs::Yh (ZY0 vs<|ZYI n Q)::R):Sat e w (ZVw r n room Q::R):=
 .mk_ex (V,vs) (.join (l':=[_,_,_,_]) (.mk_pure h1 h))
theorem ZYN {r n:Nat} {room:Int} {Q:Nat->Nat->List Zn} {i:Nat} {q:List Zn} (h:Sat e w<|ZVw r n room Q::R) (hq:(ZYI n Q)[i]?=some q) :
  ∃V vs v,ZYR n room Q vs/\vs[i]?=some v/\Sat e w (blk r 170 [Iw n,Iw room,V]::Zz 46 1 Z1e V vs::Zz 88 8 Zn.cs v q::R):=by
 obtain ⟨V,vs,h1,h2⟩:=ZX0 h;have hi:i<vs.length:=by
  have:=(List.getElem?_eq_some_iff.1 hq).1;rw[ZYk] at this;rw[h1.1];exact this
 obtain ⟨v,hv⟩:=Zk (l:=vs) hi;have h3:=(h2.pick 2 rfl).focus i<|ZYw hv hq;exact ⟨V,vs,v,h1,hv,h3.sn 4 [2,3,0]⟩
theorem ZYD {r n:Nat} {room a b:Int} {V:Value} (hS:Sat e w<|blk r 170 [Iw n,Iw room,V]::R) (hk:K (.bool<|decide<|okL n a b) w):Cl prog 163 #[pt r,Iw a,Iw b] w K:=by
 refine ZXU ?_;unfold ZXC;by_cases c1:0<=a
 .refine Zqv c1<|Ze<|Ze<|Ze<|Zh<|Ze<|Za<|Ze<|Zb hS 0 rfl rfl ?_;by_cases c2:a<n
  .refine Ze<|Ztt c2<|Yv<|Ze<|Ze ?_;by_cases c3:0<=b
   .refine Zqv c3<|Yv<|Ze<|Ze<|Ze<|Zh<|Ze<|Za<|Ze<|Zb hS 0 rfl rfl ?_;by_cases c4:b<n
    .refine Ze<|Ztt c4<|Yv<|Ze<|Ze<|Ze ?_;by_cases c5:a=b
     .rw[decide_eq_false (show ¬okL n a b by unfold okL;omega)] at hk;refine ZoP c5<|Yv hk
     .rw[decide_eq_true (show okL n a b by unfold okL;omega)] at hk;refine Zng c5<|Yv hk
    .refine Ze<|Ze7 c4 ?_;rw[decide_eq_false (show ¬okL n a b by unfold okL;omega)] at hk;exact Yv<|Zu<|Zu<|Zd<|Yd hk
   .refine ZnR c3 ?_;rw[decide_eq_false (show ¬okL n a b by unfold okL;omega)] at hk;exact Yv<|Zu<|Zu<|Zd<|Zd<|Zd<|Zd<|Yd<|Zu<|Zu<|Zd<|Yd hk
  .refine Ze<|Ze7 c2 ?_;rw[decide_eq_false (show ¬okL n a b by unfold okL;omega)] at hk;exact Yv<|Zu<|Zd<|Yd<|Zu<|Zu<|Zd<|Zd<|Zd<|Zd<|Yd<|Zu<|Zu<|Zd<|Yd hk
 .refine ZnR c1 ?_;rw[decide_eq_false (show ¬okL n a b by unfold okL;omega)] at hk;exact Zu<|Zu<|Zd<|Zd<|Zd<|Zd<|Yd<|Zu<|Zd<|Yd<|Zu<|Zu<|Zd<|Zd<|Zd<|Zd<|Yd<|Zu<|Zu<|Zd<|Yd hk
theorem Z1s {n:Nat} {Q:Nat->Nat->List Zn} (hn:n<=8) (h:∀a b,a<n->b<n->(Q a b).length<=16):(ZpJ n Q).length<=1024:=by
 have h1:∀a,a<n->(ZrF n Q a).length<=n*16:=λa ha=>Zux (Q a) λb hb=>h a b ha hb;have h2:=Zux (ZrF n Q) h1;have h4:n*(n*16)<=8*(8*16):=Nat.mul_le_mul hn<|Nat.mul_le_mul_right 16 hn;unfold ZpJ;omega
theorem ZYR.all {n:Nat} {room:Int} {Q:Nat->Nat->List Zn} {vs:List Value} (h:ZYR n room Q vs):(ZpJ n Q).length<=1024:=
 Z1s h.2.2.1 λa b ha hb=>by have:=h.2.2.2.2.2 a b ha hb;have:=h.2.2.2.2.1;omega
theorem ixb {n a b:Nat} (ha:a<n) (hb:b<n) (hn:n<=8):-9223372036854775808<=(a:Int)*n/\(a:Int)*n<=9223372036854775807/\-9223372036854775808<=(a:Int)*n+b/\(a:Int)*n+b<=9223372036854775807/\((a:Int)*n+b)=((a*n+b:Nat):Int):=by
 have h1:=Z0a ha hb;have h2:n*n<=8*8:=Nat.mul_le_mul hn hn;have h3:((a*n+b:Nat):Int)=(a:Int)*n+b:=by rw[Int.natCast_add,Int.natCast_mul]
 have h4:((a*n:Nat):Int)=(a:Int)*n:=Int.natCast_mul a n;omega
theorem ZZr {n a b:Int} (h:okL n a b):∃c d:Nat,a=c/\b=d:=⟨a.toNat,b.toNat,by have:=h.1;omega,by have:=h.2.1;omega⟩
theorem ZZW (v:Value) (h:flat v=true):∀c∈Z1e v,flat c=true:=λc hc=>by rw[List.mem_singleton.1 hc];exact h
theorem ZYJ {r n:Nat} {room a b:Int} {Q:Nat->Nat->List Zn} (hS:Sat e w<|ZVw r n room Q::R) (hk:∀w',Sat e w' (ZVw r n room Q::R)->K (Iw<|if okL n a b then room - (Q a.toNat b.toNat).length else 0) w') :
  Cl prog 106 #[pt r,Iw a,Iw b] w K:=by
 refine ZXI ?_;unfold ZWO;obtain ⟨V,vs,hok,h1⟩:=ZX0 hS;refine ZYD h1 ?_;by_cases ho:okL n a b
 .rw[decide_eq_true ho];rw[if_pos ho] at hk;obtain ⟨c,d,rfl,rfl⟩:=ZZr ho;obtain ⟨o1,o2,o3,o4,o5⟩:=ho;have hc:c<n:=by omega
  have hd:d<n:=by omega
  refine ZaJ<|Zf<|ZaY hS λw2 h2=>?_;obtain ⟨V,vs,v,hok,hv,h3⟩:=ZYN h2<|ZYt Q hc hd;obtain ⟨x1,x2,x3,x4,x5⟩:=ixb hc hd hok.2.2.1;have hl:=hok.2.2.2.2.2 c d hc hd;have hr:=hok.2.2.2.2.1;refine Zh<|Za<|Zb h3 0 rfl rfl<|Zh<|Za<|Zb h3 0 rfl rfl<|Zh<|Za<|Zb h3 0 rfl rfl<|ZGn x1 x2<|ZcD x3 x4 ?_;rw[x5];exact Qix h3 1 rfl hv λp hp=>Yt h3 1 rfl hp (v:=v) rfl<|Qln h3 2 rfl<|Qsubs<|hk _ h2
 .rw[decide_eq_false ho];rw[if_neg ho] at hk;exact Zch<|Zi<|hk _ hS
theorem ZYu {r n:Nat} {room a b:Int} {Q:Nat->Nat->List Zn} (hS:Sat e w<|ZVw r n room Q::R) (hk:∀w',Sat e w' (ZVw r n room Q::R)->K (.tuple #[.agg (ZYf n Q a b).cs.toArray,.bool<|ZX7 n Q a b]) w') :
  Cl prog 110 #[pt r,Iw a,Iw b] w K:=by
 refine ZXw ?_;unfold ZWv;rw[ZWS];refine Yp (cs:=Zn.zero.cs) hS rfl λt w1 h1=>ZaY h1 λw2 h2=>?_;obtain ⟨V,vs,hok,h3⟩:=ZX0 h2.swap;refine ZYD h3 ?_;have hend:ZX7 n Q a b=false->(∀w',Sat e w' (blk t 88 Zn.zero.cs::ZVw r n room Q::R)->bld (Zl prog 88) #[(0,1),(1,6),(7,1)] [] w' λt31 w=>stN 8 (pt t) t31 w λ_ w=>ldN 8 (pt t) w λr0 _=>K (.tuple #[r0,Bf]) w):=by
  intro hB w' h';refine Zaf Zn.zero.cs (by kernel_rfl) ?_;refine Zq h' 0 rfl (vs:=Zn.zero.cs) rfl rfl (by decide) (Zg _) (cs':=Zn.zero.cs) (by kernel_rfl) λw3 h3=>?_;refine Zo h3 0 (vs:=Zn.zero.cs) rfl (by rfl) rfl ?_;have:=hk _ h3.drop;unfold ZYf at this;rw[hB,if_neg (by decide)] at this;exact this
 rw[ZWS] at hend;by_cases ho:okL n a b
 .rw[decide_eq_true ho];obtain ⟨c,d,rfl,rfl⟩:=ZZr ho;have ho':=ho;obtain ⟨o1,o2,o3,o4,o5⟩:=ho;have hc:c<n:=by omega
  have hd:d<n:=by omega
  obtain ⟨V,vs,v,hok,hv,h3⟩:=ZYN h2.swap<|ZYt Q hc hd;obtain ⟨x1,x2,x3,x4,x5⟩:=ixb hc hd hok.2.2.1;refine ZaJ<|Zj<|Zj<|Zh<|Zj<|Za<|Zj<|Zb h3 0 rfl rfl<|Zj<|Zj<|Zj<|Zh<|Zj<|Za<|Zj<|Zb h3 0 rfl rfl<|Zj<|ZGn x1 x2<|Zj<|Zj<|ZcD x3 x4 ?_;rw[x5];refine Zj<|Qix h3 1 rfl hv λp hp=>Zj<|Yt h3 1 rfl hp (v:=v) rfl<|Zj<|Qln h3 2 rfl ?_;cases hq:Q c d with
  | nil=>
   have hB:ZX7 n Q c d=false:=by unfold ZX7;rw[Int.toNat_natCast,Int.toNat_natCast,hq];simp
   exact Zj (Znq rfl<|Yd<|Zi<|hend hB _ h2)
  | cons y q=>
   have hB:ZX7 n Q c d=true:=by unfold ZX7;rw[Int.toNat_natCast,Int.toNat_natCast,hq];simp[ho']
   refine Zj<|Zd8 (by simp;omega) ?_;refine Yd<|Zf<|ZaY h2 λw5 h5=>?_;obtain ⟨V,vs,v,hok,hv,h6⟩:=ZYN h5.swap<|ZYt Q hc hd;refine Zh<|Za<|Zb h6 0 rfl rfl<|Zh<|Za<|Zb h6 0 rfl rfl<|ZGn x1 x2<|ZcD x3 x4 ?_;rw[x5];refine Qix h6 1 rfl hv λp hp=>Yt h6 1 rfl hp (v:=v) rfl<|Qix (j:=0) h6 2 rfl (x:=y) (by rw[hq];rfl) λp hp=>?_;refine Ym h6 2 rfl hp rfl<|Zq h5 0 rfl (vs:=y.cs) rfl rfl (by decide) (Zg _) (cs':=y.cs) (by kernel_rfl) λw7 h7=>?_;refine Zo h7 0 (vs:=y.cs) rfl (by rfl) rfl ?_;have:=hk _ h7.drop;unfold ZYf at this;rw[hB,if_pos rfl,Int.toNat_natCast,Int.toNat_natCast,hq] at this;exact this
 .rw[decide_eq_false ho];have hB:ZX7 n Q a b=false:=by unfold ZX7;rw[decide_eq_false ho];rfl
  exact Zch<|Zd<|Zd<|Zd<|Zd<|Zd<|Zd<|Zd<|Zd<|Zd<|Zd<|Zd<|Zd<|Zd<|Zd<|Zd<|Zd<|Yv<|Zi<|hend hB _ h2
theorem ZZk {r n:Nat} {room:Int} {Q:Nat->Nat->List Zn} {c d:Nat} {V v v':Value} {vs:List Value} {q:List Zn} (hc:c<n) (hd:d<n) (hok:ZYR n room Q vs) (hq:(q.length:Int)<=room) (hv:vs[c*n+d]?=some v)
  (h:Sat e w<|blk r 170 [Iw n,Iw room,V]::Zz 46 1 Z1e V (vs.set (c*n+d) v')::Zz 88 8 Zn.cs v' q::Yh ((ZY0 vs<|ZYI n Q).eraseIdx<|c*n+d)::R) :
  Sat e w (ZVw r n room (ZvY Q c d q)::R):=by
 have hi:=(List.getElem?_eq_some_iff.1 hv).1;have h1:=h.selR [_,_,_,_] [_,_,_,_] [2,3,0,1] (by decide) rfl;have h2:=h1.unfocus _<|ZYw hv<|ZYt Q hc hd;rw[Z0U hi (by rw[ZYk];exact Z0a hc hd),<-Z1R Q q hc hd] at h2;refine Z0J ⟨by rw[List.length_set];exact hok.1,hok.2.1,hok.2.2.1,hok.2.2.2.1,hok.2.2.2.2.1,λa b ha hb=>?_⟩<|h2.selR [_,_,_] [_,_,_] [1,2,0] (by decide) rfl;unfold ZvY;split
 .exact hq
 .exact hok.2.2.2.2.2 a b ha hb
theorem ZZQ {r n:Nat} {room a b:Int} {Q:Nat->Nat->List Zn} (hS:Sat e w<|ZVw r n room Q::R) (hk:∀w',Sat e w' (ZVw r n room (ZYL n Q a b)::R)->K (.tuple #[.agg (ZYf n Q a b).cs.toArray,.bool<|ZX7 n Q a b]) w') :
  Cl prog 113 #[pt r,Iw a,Iw b] w K:=by
 refine ZXL ?_;unfold ZWK;rw[ZWS];refine Yp (cs:=Zn.zero.cs) hS rfl λt w1 h1=>ZYu h1.swap λw2 h2=>Zam<|Zal<|Yp (cs:=Zn.zero.cs) h2 rfl λu w3 h3=>Zq h3 0 rfl (vs:=(ZYf n Q a b).cs) rfl rfl (by decide) (Zg _) (cs':=(ZYf n Q a b).cs) (by rfl) λw4 h4=>?_;refine J0.cut (λw=>Sat e w<|blk u 88 (ZYf n Q a b).cs::ZVw r n room (ZYL n Q a b)::blk t 88 Zn.zero.cs::R) (λk1 hcut=>?_)<|λw5 h5=>?_
 .cases hB:ZX7 n Q a b with
  | false=>
   rw[Z08 hB] at hcut;exact Zf (hcut _ h4)
  | true=>
   refine Zi ?_;have ho:okL n a b:=by unfold ZX7 at hB;rw[Bool.and_eq_true,decide_eq_true_eq] at hB;exact hB.1
   obtain ⟨c,d,rfl,rfl⟩:=ZZr ho;obtain ⟨o1,o2,o3,o4,o5⟩:=ho;have hc:c<n:=by omega
   have hd:d<n:=by omega
   have hrec:=Z1T hB;generalize ZYf n Q c d=y at hrec h4 hcut ⊢;have hQ':ZYL n Q c d=ZvY Q c d (ZYL n Q c d c d):=by
    unfold ZYL;rw[if_pos hB,Int.toNat_natCast,Int.toNat_natCast];congr 1;exact (if_pos ⟨rfl,rfl⟩).symm
   rw[hQ'] at hcut;generalize ZYL n Q c d c d=q at hrec hcut;refine Zw3 h4 Zn.cs λnv w5 h5=>ZaY h5 λw6 h6=>?_;obtain ⟨V,vs,hok,h7⟩:=ZX0<|h6.pick 2 rfl;obtain ⟨v,hv⟩:=Zk (l:=vs) (j:=c*n+d) (by rw[hok.1];exact Z0a hc hd);have h8:=(h7.pick 2 rfl).focus _<|ZYw hv<|ZYt Q hc hd;obtain ⟨x1,x2,x3,x4,x5⟩:=ixb hc hd hok.2.2.1;have hl:=hok.2.2.2.2.2 c d hc hd;have hr16:=hok.2.2.2.2.1;rw[hrec] at h8 hl;simp only[List.length_cons] at hl;refine Zh<|Za<|Zb h8 2 rfl rfl<|Zh<|Za<|Zb h8 2 rfl rfl<|ZGn x1 x2<|ZcD x3 x4<|Zh<|Za<|Zb h8 2 rfl rfl<|Zh<|Za<|Zb h8 2 rfl rfl<|ZGn x1 x2<|ZcD x3 x4 ?_;rw[x5];refine Qix h8 3 rfl hv λp hp=>Yt h8 3 rfl hp (v:=v) rfl<|Zox (lo:=1) h8 0 rfl (λ_=>Zp) (λ_=>rfl) (by simp) λsv hsv=>?_;have h9:=h8.sn 7 [4,0,1,2,3,5,6];refine Zeo ZW8 ZW8.und (λ_=>rfl) (λ_=>Zg _) h9 hsv (by simp only[List.drop_succ_cons,List.drop_zero,List.length_nil];omega) λnv' w10 h10=>?_;have hfl:=h10.own_cells 0 rfl;refine ⟨Zb h10 3 rfl rfl ⟨rfl,rfl⟩,Zb h10 3 rfl rfl ⟨rfl,rfl⟩,ZdJ h10 4 rfl (λ_=>rfl) (by rw[hok.1];exact Z0a hc hd) (x:=nv') hfl.1 (ZZW _ hfl.2) λw11 h11=>hcut _ ?_⟩;have h12:=ZZk (v':=nv') (q:=q) hc hd hok (by omega) hv<|h11.sn 7 [3,4,0,2,5,6];exact h12.sn 3 [1,0,2]
 .refine Zo h5 0 (vs:=(ZYf n Q a b).cs) rfl (by rfl) rfl ?_;refine Zq h5 2 rfl (vs:=(ZYf n Q a b).cs) rfl rfl (by decide) (Zg _) (cs':=(ZYf n Q a b).cs) (by rfl) λw6 h6=>?_;refine Zo h6 2 (vs:=(ZYf n Q a b).cs) rfl (by rfl) rfl ?_;exact hk _<|h6.sn 3 [1]
theorem ZZD {α:Type} (l:List<|List α) (i:Nat):(l.take i).flatten.length<=l.flatten.length:=by
 have h:l.flatten=(l.take i).flatten++(l.drop i).flatten:=by rw[<-List.flatten_append,List.take_append_drop]
 rw[h,List.length_append];omega
theorem Z1x {r n:Nat} {room:Int} {Q:Nat->Nat->List Zn} {i:Nat} {q:List Zn} (h:Sat e w<|ZVw r n room Q::R) (hq:(ZYI n Q)[i]?=some q):i<n*n/\q.length<=16:=by
 obtain ⟨V,vs,hok,_⟩:=ZX0 h;have hi:=(List.getElem?_eq_some_iff.1 hq).1;rw[ZYk] at hi;refine ⟨hi,?_⟩;unfold ZYI at hq;rw[List.getElem?_map,List.getElem?_range hi] at hq;simp only[Option.map_some,Option.some.injEq] at hq;have hn:=hok.2.1;have h1:=hok.2.2.2.2.2 (i / n) (i % n) (by rw[Nat.div_lt_iff_lt_mul (by omega)];exact hi)<|Nat.mod_lt _ (by omega);rw[hq] at h1;have:=hok.2.2.2.2.1;omega
theorem ZYj {r n:Nat} {room colour:Int} {Q:Nat->Nat->List Zn} (hS:Sat e w<|ZVw r n room Q::R) (hk:∀w',Sat e w' (ZVw r n room Q::R)->K (Iw<|Zpr colour<|ZpJ n Q) w') :
  Cl prog 59 #[pt r,Iw colour] w K:=by
 refine ZWQ ?_;unfold ZVW;obtain ⟨_,_,hok0,_⟩:=ZX0 hS;have hall:=hok0.all;have hn8:=hok0.2.2.1;have hnn:n*n<=8*8:=Nat.mul_le_mul hn8 hn8;refine ZjF (λq t5 t6 w=>∃i:Nat,i<=n*n/\t6=Iw i/\t5=Iw (Zpr colour ((ZYI n Q).take i).flatten)/\q=n*n - i/\Sat e w (ZVw r n room Q::R)) (n*n) ⟨0,Nat.zero_le _,rfl,rfl,rfl,hS⟩ ?_;rintro q _ _ w g1 ⟨i,hi,rfl,rfl,rfl,h1⟩ hg;obtain ⟨V,vs,hok,h2⟩:=ZX0 h1;refine Zh<|Za<|Zb h2 0 rfl rfl<|Qln h2 1 rfl ?_;rw[hok.1];refine Za7 (λc1=>Zi ?_)<|λc1=>Zf ?_
 .obtain ⟨q,hq⟩:=Zk (l:=ZYI n Q) (j:=i) (by rw[ZYk];omega);obtain ⟨_,hq16⟩:=Z1x h1 hq;have hb:∀k,Zpr colour (((ZYI n Q).take i).flatten++q.take k)<=2048:=by
   intro k;refine Nat.le_trans (ZqW _ _) ?_;rw[List.length_append,List.length_take];have:((ZYI n Q).take i).flatten.length<=1024:=by
    refine Nat.le_trans ?_ hall;rw[<-Z0w];exact ZZD _ _
   omega
  refine ZjF (λm t5 t7 w=>∃k:Nat,k<=q.length/\t7=Iw k/\t5=Iw (Zpr colour<|((ZYI n Q).take i).flatten++q.take k)/\m=q.length - k/\Sat e w (ZVw r n room Q::R)) q.length ⟨0,Nat.zero_le _,rfl,by simp,rfl,h1⟩ ?_;rintro m _ _ w g2 ⟨k,hk',rfl,rfl,rfl,h3⟩ hg2;obtain ⟨V,vs,v,hok,hv,h4⟩:=ZYN h3 hq;refine Zh<|Za<|Zb h4 0 rfl rfl<|Qix h4 1 rfl hv λp hp=>Yt h4 1 rfl hp (v:=v) rfl<|Qln h4 2 rfl<|Za7 (λc2=>Zi ?_)<|λc2=>Zf ?_
  .obtain ⟨x,hx⟩:=Zk (l:=q) (j:=k) (by omega);have hbk:=hb k;refine J1.cut (λt5 w=>t5=Iw (Zpr colour<|((ZYI n Q).take i).flatten++q.take (k+1))/\Sat e w (ZVw r n room Q::R)) (λk3 hcut=>?_) ?_
   .rw[Zx hx,<-List.append_assoc,Zmg] at hcut;refine Zh<|Za<|Zb h4 0 rfl rfl<|Qix h4 1 rfl hv λp hp=>Yt h4 1 rfl hp (v:=v) rfl<|Qix h4 2 rfl hx λp hp=>Zbd hp λp1 hp1=>Yt h4 2 rfl hp1 (v:=Iw x.Kind) rfl<|ZrP (λc3=>?_)<|λc3=>?_
    .refine Ze<|Ze<|Zwz<|Ze<|Za<|Ze<|Zb h4 0 rfl rfl<|Ze<|Ze<|Qix h4 1 rfl hv λp hp=>Ze<|Yt h4 1 rfl hp (v:=v) rfl<|Ze<|Ze<|Qix h4 2 rfl hx λp hp=>Ze<|Zbd hp λp1 hp1=>Ze<|Yt h4 2 rfl hp1 (v:=Iw x.Colour) rfl<|Ze<|Ze<|ZoR (λc4=>?_)<|λc4=>?_
     .refine Yv<|Zi<|Qincs<|hcut _ _ ⟨?_,h3⟩;rw[if_pos ⟨c3,c4⟩]
     .refine Yv<|Zf<|hcut _ _ ⟨?_,h3⟩;rw[if_neg λh=>c4 h.2];rfl
    .refine Zu<|Zd<|Zd<|Zd<|Zu<|Zd<|Zd<|Zu<|Zd<|Zd<|Zd<|Zu<|Zd<|Yd<|Zf<|hcut _ _ ⟨?_,h3⟩;rw[if_neg λh=>h.1 c3];rfl
   .rintro _ w ⟨rfl,h5⟩;exact Qincs<|hg2 _ _ _ _ (by omega) ⟨k+1,by omega,rfl,rfl,rfl,h5⟩
  .have ek:k=q.length:=by omega
   subst ek;refine Qincs<|hg _ _ _ _ (by omega) ⟨i+1,by omega,rfl,?_,rfl,h3⟩;rw[Zx hq,List.flatten_append,List.take_length];simp
 .have ei:i=n*n:=by omega
  subst ei;rw[List.take_of_length_le (by rw[ZYk];omega),Z0w];exact hk _ h1
theorem Z0N {a b:Int} {A:Option Addr} {m c:Nat}:Instr.fill ((#[(0,1),(1,1),(2,1)]:Array<|Nat × Nat)[·]?) (Zl prog 170) [(0,Iw a),(1,Iw b),(2,.slice A m c)]=some [Iw a,Iw b,.slice A m c].toArray:=by kernel_rfl
theorem Z0d {n:Nat} {room:Int} (h1:1<=n) (h2:n<=8) (h3:1<=room) (h4:room<=16) (hS:Sat e w R)
  (hk:∀r w',Sat e w' (ZVw r n room (λ_ _=>[])::R)->K (.tuple #[pt r,Iw 0]) w'):Cl prog 32 #[Iw n,Iw room] w K:=by
 refine ZMX ?_;unfold ZMT;have hnn:n*n<=8*8:=Nat.mul_le_mul h2 h2;have hc:((n*n:Nat):Int)=(n:Int)*n:=Int.natCast_mul n n;refine Qltf<|Zj<|Ze<|Qgtf<|Yd<|Zj<|Ze<|Qltf<|Yd<|Zj<|Ze<|Qgtf<|Yd<|Zf<|ZGn (by omega) (by omega) ?_;rw[<-hc];refine Zyg Z1X (n:=n*n) (by omega) hS Z1e (λ_=>rfl) Sn (by rw[ZTN]) λV w1 h5=>?_;refine Zaf [Iw n,Iw room,V] ?_ ?_
 .obtain ⟨A,c,rfl,_⟩:=h5.shape 0 rfl<|λ_=>Zp;exact Z0N
 refine Yp (cs:=[Iw n,Iw room,V]) h5 rfl λr w2 h6=>hk _ _<|Z0J ⟨by simp,h1,h2,h3,h4,λa b _ _=>by simp;omega⟩ (?_:Sat e w2<|blk r 170 [Iw n,Iw room,V]::Zz 46 1 Z1e V (List.replicate (n*n) Sn)::Yh (ZY0 (List.replicate (n*n) Sn)<|ZYI n<|λ_ _=>[])::R);have hrow:ZYI n (λ_ _=>[])=List.replicate (n*n) []:=by
  unfold ZYI;apply List.ext_getElem
  .simp
  .intro i h1 h2;simp
 rw[hrow];have key:∀m,Sat e w2 (blk r 170 [Iw n,Iw room,V]::Zz 46 1 Z1e V (List.replicate (n*n) Sn)::R)->Sat e w2 (ZY0 (List.replicate m Sn) (List.replicate m [])++(blk r 170 [Iw n,Iw room,V]::Zz 46 1 Z1e V (List.replicate (n*n) Sn)::R)):=by
  intro m;induction m with
  | zero=>exact λh=>h
  | succ m ih=>exact λh=>(ih h).own_nil 88 8 Zn.cs
 exact (Sat.join<|key (n*n) h6).sn 3 [1,2,0]
def Z2l (n room:Int):Prop:=n<1\/8<n\/room<1\/16<room
theorem ZZA {n room:Int} (h:Z2l n room) (hk:K (.tuple #[Pn,Iw 1]) w):Cl prog 32 #[Iw n,Iw room] w K:=by
 refine ZMX ?_;unfold ZMT;unfold Z2l at h;by_cases c1:n<1
 .exact Qltt<|Zd<|Zd<|Yv<|Zd<|Zd<|Yv<|Zd<|Zd<|Yv<|Zi hk
 .by_cases c2:8<n
  .exact Qltf<|Zj<|Ze<|Qgtt<|Yd<|Zd<|Zd<|Yv<|Zd<|Zd<|Yv<|Zi hk
  .by_cases c3:room<1
   .exact Qltf<|Zj<|Ze<|Qgtf<|Yd<|Zj<|Ze<|Qltt<|Yd<|Zd<|Zd<|Yv<|Zi hk
   .exact Qltf<|Zj<|Ze<|Qgtf<|Yd<|Zj<|Ze<|Qltf<|Yd<|Zj<|Ze<|Qgtt<|Yd<|Zi hk
theorem ZZK {r n:Nat} {room a b:Int} {Q:Nat->Nat->List Zn} {x:Zn} (hS:Sat e w<|ZVw r n room Q::R) (hk:∀w',Sat e w' (ZVw r n room (Z06 n room Q a b x)::R)->K (Iw<|ZY9 n room Q a b x) w') :
  Cl prog 109 #[pt r,Iw a,Iw b,.agg x.cs.toArray] w K:=by
 refine ZXK ?_;unfold ZWJ;refine Yp (cs:=x.cs) hS rfl λt w1 h1=>?_;obtain ⟨V,vs,hok,h2⟩:=ZX0 h1.swap;refine ZYD h2 ?_;have hbad:Zut n a b x->K (Iw 1) w1:=by
  intro hb;have e1:ZY9 n room Q a b x=1:=if_pos hb;have:=hk w1;rw[e1,ZZY (by rw[e1];decide)] at this;exact this h1.drop
 by_cases ho:okL n a b
 .rw[decide_eq_true ho];refine ZaJ<|Ze<|Za<|Ze<|Zb h1 0 rfl (v:=Iw x.Kind) rfl ?_;by_cases c1:x.Kind<0
  .exact Ze<|Qltt<|Yd<|Zd<|Zd<|Zd<|Yv<|Zd<|Zd<|Zd<|Yv<|Zd<|Zd<|Zd<|Yv<|Zi<|hbad (.inr (.inl c1))
  refine Zj<|Ze7 c1<|Yd<|Ze<|Za<|Ze<|Zb h1 0 rfl (v:=Iw x.Kind) rfl ?_;by_cases c2:2<x.Kind
  .exact Ze<|Qgtt<|Yd<|Zd<|Zd<|Zd<|Yv<|Zd<|Zd<|Zd<|Yv<|Zi<|hbad (.inr (.inr (.inl c2)))
  refine Zj<|Zle c2<|Yd<|Ze<|Za<|Ze<|Zb h1 0 rfl (v:=Iw x.Colour) rfl ?_;by_cases c3:x.Colour<0
  .exact Ze<|Qltt<|Yd<|Zd<|Zd<|Zd<|Yv<|Zi<|hbad (.inr (.inr (.inr<|by omega)))
  refine Zj<|Ze7 c3<|Yd<|Ze<|Za<|Ze<|Zb h1 0 rfl (v:=Iw x.Colour) rfl ?_;by_cases c4:1<x.Colour
  .exact Ze<|Qgtt<|Yd<|Zi<|hbad (.inr (.inr (.inr<|by omega)))
  refine Zj<|Zle c4<|Yd<|Zf ?_;have hb:¬Zut n a b x:=by
   rintro (h | h | h | h)
   .exact h ho
   .exact c1 h
   .exact c2 h
   .omega
  obtain ⟨c,d,rfl,rfl⟩:=ZZr ho;have ho':=ho;obtain ⟨o1,o2,o3,o4,o5⟩:=ho;have hc:c<n:=by omega
  have hd:d<n:=by omega
  refine ZYJ h1.swap λw2 h2=>?_;rw[if_pos ho',Int.toNat_natCast,Int.toNat_natCast];have hl:=hok.2.2.2.2.2 c d hc hd;by_cases hfull:((Q c d).length:Int)=room
  .refine Qeqt ?_;have e1:ZY9 n room Q c d x=2:=by unfold ZY9;rw[if_neg hb,Int.toNat_natCast,Int.toNat_natCast,if_pos hfull]
   have:=hk w2;rw[e1,ZZY (by rw[e1];decide)] at this;exact Zi<|this h2.swap.drop
  .refine Qeqf<|Zf ?_;have e1:ZY9 n room Q c d x=0:=by unfold ZY9;rw[if_neg hb,Int.toNat_natCast,Int.toNat_natCast,if_neg hfull]
   have e2:Z06 n room Q c d x=ZvY Q c d (Q c d++[x]):=by unfold Z06;rw[if_pos e1,Int.toNat_natCast,Int.toNat_natCast]
   rw[e1,e2] at hk;generalize hq0:Q c d=q at hk hl hfull;refine Zw3 h2 Zn.cs λnv w5 h5=>ZaY h5 λw6 h6=>?_;obtain ⟨V,vs,hok,h7⟩:=ZX0 h6.swap;obtain ⟨v,hv⟩:=Zk (l:=vs) (j:=c*n+d) (by rw[hok.1];exact Z0a hc hd);have h8:=(h7.pick 2 rfl).focus _<|ZYw hv<|ZYt Q hc hd;obtain ⟨x1,x2,x3,x4,x5⟩:=ixb hc hd hok.2.2.1;have hr16:=hok.2.2.2.2.1;rw[hq0] at h8;refine Zh<|Za<|Zb h8 2 rfl rfl<|Zh<|Za<|Zb h8 2 rfl rfl<|ZGn x1 x2<|ZcD x3 x4 ?_;rw[x5];refine Qix h8 3 rfl hv λp hp=>Yt h8 3 rfl hp (v:=v) rfl ?_;have h9:=h8.sn 6 [4,0,1,2,3,5];refine Zeo ZW8 ZW8.und (λ_=>rfl) (λ_=>Zg _) h9 (λ_=>Zp) (by simp only[List.length_nil];omega) λnv' w10 h10=>?_;rw[List.nil_append] at h10;refine ZaY h10 λw11 h11=>Zh<|Za<|Zb h11 3 rfl rfl<|Zh<|Za<|Zb h11 3 rfl rfl<|ZGn x1 x2<|ZcD x3 x4 ?_;rw[x5];refine Zo h11 5 (vs:=x.cs) rfl (by rfl) rfl ?_;refine ZwC (vs:=x.cs) rfl rfl h11 λbb w12 h12=>⟨Zb h12 4 rfl rfl ⟨rfl,rfl⟩,Zb h12 4 rfl rfl ⟨rfl,rfl⟩,Zeo ZW8 ZW8.und (λ_=>rfl) (λ_=>Zg _) h12.swap (Zfu<|Nat.le_refl _) (by simp only[List.length_singleton];omega) λnv2 w13 h13=>?_⟩;have hfl:=h13.own_cells 0 rfl;exact ⟨Zb h13 4 rfl rfl ⟨rfl,rfl⟩,Zb h13 4 rfl rfl ⟨rfl,rfl⟩,ZdJ h13 5 rfl (λ_=>rfl) (by rw[hok.1];exact Z0a hc hd) (x:=nv2) hfl.1 (ZZW _ hfl.2) λw14 h14=>hk _<|ZZk (v':=nv2) (q:=q++[x]) hc hd hok (by simp;omega) hv<|h14.sn 7 [4,5,0,3]⟩
 .rw[decide_eq_false ho];exact Zch<|Zd<|Zd<|Zd<|Yv<|Zd<|Zd<|Zd<|Yv<|Zd<|Zd<|Zd<|Yv<|Zd<|Zd<|Zd<|Yv<|Zi<|hbad (.inl ho)
structure NRV where
 g:Nat
 q:Nat
 lv:Value
def nrs (x:WdX) (f:Int) (N:ND) (g q:Nat) (lv:Value):List Value:=[x.pv,x.fv,Iw x.End,Iw f,Iw N.st,Iw N.sent,pt g,pt q,lv]
def ZY6 (n:Nat) (x:WdX) (f:Nat) (N:ND) (k:Nat):HP:=hex λp:NRV=>Yh [pur<|NOk x.w f N k,blk n 123<|nrs x f N p.g p.q p.lv,ZWe p.g N.clk,ZZf p.q N.q,Zz 129 7 Zak.cs p.lv N.log]
theorem ZZv {n f k:Nat} {x:WdX} {N:ND} (h:Sat e w<|ZY6 n x f N k::Q):∃g q lv,NOk x.w f N k/\Sat e w (blk n 123 (nrs x f N g q lv)::ZWe g N.clk::ZZf q N.q::Zz 129 7 Zak.cs lv N.log::Q):=by
 obtain ⟨p,h0⟩:=h.ex;exact ⟨p.g,p.q,p.lv,Sat.pure h0.split⟩
theorem ZZa {n f k:Nat} {x:WdX} {N:ND} {g q:Nat} {lv:Value} (hp:NOk x.w f N k) (h:Sat e w<|blk n 123 (nrs x f N g q lv)::ZWe g N.clk::ZZf q N.q::Zz 129 7 Zak.cs lv N.log::Q):Sat e w (ZY6 n x f N k::Q):=
 .mk_ex ⟨g,q,lv⟩ (.join (l':=[_,_,_,_,_]) (.mk_pure hp h))
theorem ZZ5 {x:WdX} {f:Int} (i:Nat) (hi:L[i]?=some S) (hS:Sat e w L) (hr:∀g,S g->ZtG x g) (hs:x.short)
  (hbad:(Za4 x.w).2≠0->∀w',Sat e w' L->K (.tuple #[Pn,Iw (Za4 x.w).2]) w')
  (harg:(Za4 x.w).2=0->Zh3 x.w f=none->∀w',Sat e w' L->K (.tuple #[Pn,Iw 1]) w')
  (hok:(Za4 x.w).2=0->∀(n:Nat) fd,f=n->x.w.Feds[n]?=some fd->Zh3 x.w f=some fd->∀r w',Sat e w' (ZY6 r x n (ZoV x.w.Feds.length n fd) 0::L)->K (.tuple #[pt r,Iw 0]) w') :
  Cl prog 33 #[.agg x.cs.toArray,Iw f] w K:=by
 refine ZMY ?_;unfold ZMP;refine Yp (cs:=x.cs) hS rfl λb w1 h1=>Zo h1 0 (vs:=x.cs) rfl (by rfl) rfl ?_;refine ZKG (x:=x) (i+1) hi h1 hr hs λw2 h2=>Zam<|Zal<|ZrP (λc1=>Zi<|hbad c1 _ h2.drop)<|λc1=>Zf ?_;have hwd:=ZfI c1;have hi2:(blk b 25 x.cs::L)[i+1]?=some S:=hi;have hwl:x.w.Feds.length=x.Feds.length:=by simp[WdX.w]
 by_cases d1:f<0
 .exact Qltt<|Zd<|Zd<|Zd<|Zd<|Zd<|Yv<|Zd<|Zd<|Zd<|Zd<|Zd<|Zd<|Zd<|Yv<|Zi<|harg c1 (if_neg<|by omega) _ h2.drop
 refine Ze7 d1<|Zj<|Zj<|Za<|Zj<|Zb h2 0 rfl (v:=x.fv) rfl<|Zj<|Zt h2 (i+1) hi2 (λ_ h=>(hr _ h).feds) ?_;by_cases d2:(x.Feds.length:Int)<=f
 .refine Ze<|Qget<|Yd<|Zd<|Zd<|Zd<|Zd<|Zd<|Zd<|Zd<|Yv<|Zi<|harg c1 ?_ _ h2.drop;unfold Zh3;rw[if_pos (by omega),List.getElem?_eq_none (by omega)];rfl
 refine Zj<|Qgef<|Yd ?_;obtain ⟨n,rfl⟩:∃n:Nat,f=n:=⟨f.toNat,by omega⟩;obtain ⟨fd,hfd⟩:=Zk (l:=x.Feds) (j:=n) (by omega);have hfdm:=List.mem_of_getElem? hfd;have hwf':x.w.Feds[n]?=some fd.f:=by simp only[WdX.w];rw[List.getElem?_map,hfd];rfl
 have hmay:Zh3 x.w n=if fd.Kind=0 then some fd.f else none:=by
  unfold Zh3;rw[if_pos (by omega),Int.toNat_natCast,hwf'];rfl
 refine Zj<|Za<|Zj<|Zb h2 0 rfl (v:=x.fv) rfl<|Zj<|Zj<|Zw h2 (i+1) hi2 (λ_ h=>(hr _ h).feds) (λ_=>rfl) hfd λp hp=>Zj<|Zbd hp λp1 hp1=>Zj<|Yt h2 (i+1) hi2 hp1 (v:=Iw fd.Kind) rfl<|Zj<|ZrP (λd3=>Yd<|Zi<|harg c1 (by rw[hmay,if_neg d3]) _ h2.drop)<|λd3=>Yd<|Zf ?_;rw[if_pos d3] at hmay;refine Za<|Zb h2 0 rfl (v:=x.fv) rfl<|Zt h2 (i+1) hi2 (λ_ h=>(hr _ h).feds) ?_;have hn:=hwd.n;refine Z0c (n:=x.Feds.length) (self:=n) (by omega) (by omega) (by omega) (by omega) h2 λg w3 h3=>?_;refine Zam<|Zal<|ZaY h3 λw4 h4=>?_;have hi4:(ZWe g ⟨List.replicate x.Feds.length 0,n,0⟩::blk b 25 x.cs::L)[i+2]?=some S:=hi;refine Zo h4 1 (vs:=x.cs) rfl (by rfl) rfl ?_;refine Za<|Zb h4 1 rfl (v:=x.fv) rfl<|Zw h4 (i+2) hi4 (λ_ h=>(hr _ h).feds) (λ_=>rfl) hfd λp2 hp2=>Zbd hp2 λp3 hp3=>Yt h4 (i+2) hi4 hp3 (v:=Iw fd.Start) rfl<|Za<|Zb h4 1 rfl (v:=x.fv) rfl<|Zw h4 (i+2) hi4 (λ_ h=>(hr _ h).feds) (λ_=>rfl) hfd λp4 hp4=>Zbd hp4 λp5 hp5=>Yt h4 (i+2) hi4 hp5 (v:=fd.iv) rfl<|Zt h4 (i+2) hi4 (λg hg=>((hr g hg).fed fd hfdm).init)<|Z1p h4 λq w5 h5=>?_;have hi5:(ZZf q []::ZWe g ⟨List.replicate x.Feds.length 0,n,0⟩::blk b 25 x.cs::L)[i+3]?=some S:=hi;refine ⟨Yt h5 (i+3) hi5 hp5 (v:=fd.iv) rfl ⟨rfl,rfl⟩,Zb h5 2 rfl (v:=x.fv) rfl ⟨rfl,rfl⟩,Yt h5 (i+3) hi5 hp3 (v:=Iw fd.Start) rfl ⟨rfl,rfl⟩,Zb h5 2 rfl (v:=x.fv) rfl ⟨rfl,rfl⟩,Zo h5 2 (vs:=x.cs) rfl (by rfl) rfl ⟨rfl,rfl⟩,?_⟩;refine Zaf (nrs x n (ZoV x.w.Feds.length n fd.f) g q Sn) (by kernel_rfl) ?_;refine Yp (cs:=nrs x n (ZoV x.w.Feds.length n fd.f) g q Sn) h5 rfl λr w6 h6=>?_;have hinit:=hwd.init fd.f<|List.mem_of_getElem? hwf';have hil:fd.Init.length<=4:=hinit.1;refine hok c1 n fd.f rfl hwf' hmay r _<|ZZa (g:=g) (q:=q) (lv:=Sn) ⟨hwd,by omega,by simp[ZoV],rfl,⟨by simp[ZoV],by show (fd.Init.length:Int)<=_;omega⟩,Nat.le_refl _⟩ ?_;have h7:=h6.own_nil 129 7 Zak.cs;rw[hwl];exact h7.sn 5 [1,3,2,0]
variable {k:Nat} {x:WdX} {N:ND}
theorem Z2m (h:NOk x.w f N k):N.clk.L.length<=1000000:=by
 have h1:=h.len;have h2:=h.may.n.2;omega
theorem Z04 {j:Int} {i:Zn} (hS:Sat e w<|ZY6 n x f N k::Q) (hk:∀w',Sat e w' (ZY6 n x f (Zd0 N j i) k::Q)->K (Iw<|hearE N j i) w') :
  Cl prog 111 #[pt n,Iw j,.agg i.cs.toArray] w K:=by
 refine ZXo ?_;unfold ZWh;refine Yp (cs:=i.cs) hS rfl λb w1 h1=>Za<|Zb h1 0 rfl (v:=Iw i.Kind) rfl ?_;obtain ⟨g,q,lv,hX,h2⟩:=ZZv h1.swap;refine ZoR (λc1=>Zi ?_)<|λc1=>Zf ?_
 .refine ZaY h2 λw3 h3=>Zh<|Za<|Zb h3 0 rfl (v:=pt g) rfl<|Za<|Za<|Za<|Zb h3 4 rfl (v:=Iw i.m.key.T) rfl<|ZZS h3.swap λw3 h3=>?_;have e1:hearE N j i=N.clk.hearE j i.m.key.T:=if_pos c1;have e2:Zd0 N j i=⟨N.clk.hear j i.m.key.T,N.q,N.st,N.sent,N.log⟩:=if_pos c1;rw[e1,e2] at hk;exact hk _<|ZZa (g:=g) (q:=q) (lv:=lv) ⟨hX.may,hX.hf,by show (N.clk.hear j i.m.key.T).L.length=_;rw[Clk.hear_len];exact hX.len,by show (N.clk.hear j i.m.key.T).self=_;rw[Clk.hear_self];exact hX.self,hX.sent,hX.log⟩<|h3.sn 5 [1,0,2,3]
 have e1:hearE N j i=if i.Kind=0 then (if N.clk.at' j<0 then 1 else if i.m.key.T<N.clk.at' j then 110 else ZdT 64 N.q i.m) else 130:=if_neg c1
 have e2:Zd0 N j i=if i.Kind=0/\¬N.clk.at' j<0/\¬i.m.key.T<N.clk.at' j then ⟨N.clk,ZfX N.q i.m,N.st,N.sent,N.log⟩ else N:=if_neg c1
 have hsame:∀w',Sat e w' (blk n 123 (nrs x f N g q lv)::ZWe g N.clk::ZZf q N.q::Zz 129 7 Zak.cs lv N.log::blk b 88 i.cs::Q)->Sat e w' (ZY6 n x f N k::Q):=λw' h'=>(ZZa hX h').swap.drop;refine ZoR (λc2=>Zi ?_)<|λc2=>Zf ?_
 .refine Zh<|Za<|Zb h2 0 rfl (v:=pt g) rfl<|ZZm h2.swap λw3 h3=>Za7 (λc3=>Zi ?_)<|λc3=>Zf ?_
  .rw[e1,e2,if_pos c2,if_pos c3,if_neg<|λh=>h.2.1 c3] at hk;exact hk _<|hsame _ h3.swap
  refine ZaY h3 λw4 h4=>Za<|Za<|Za<|Zb h4 4 rfl (v:=Iw i.m.key.T) rfl<|Zh<|Za<|Zb h4 1 rfl (v:=pt g) rfl<|ZZm h4 λw5 h5=>⟨Zb h5 4 rfl (v:=Iw i.m.key.T) rfl ⟨rfl,rfl⟩,Za7 (λc4=>Zi ?_)<|λc4=>Zf ?_⟩
  .rw[e1,e2,if_pos c2,if_neg c3,if_pos c4,if_neg<|λh=>h.2.2 c4] at hk;exact hk _<|hsame _ h5.swap
  rw[e1,e2,if_pos c2,if_neg c3,if_neg c4,if_pos ⟨c2,c3,c4⟩] at hk;refine ZaY h5.swap λw6 h6=>Zh<|Za<|Zb h6 0 rfl (v:=pt q) rfl<|Za<|Zo h6 4 (vs:=i.m.cs) rfl (by rfl) rfl ?_;refine Z0Q (x:=i.m) (h6.pick 2 rfl) λw7 h7=>?_;have h8:=ZZa (N:=⟨N.clk,ZfX N.q i.m,N.st,N.sent,N.log⟩) (g:=g) (q:=q) (lv:=lv) ⟨hX.may,hX.hf,hX.len,hX.self,hX.sent,hX.log⟩<|h7.sn 4 [1,2,0,3];exact hk _ h8.swap.drop
 .rw[e1,e2,if_neg c2,if_neg<|λh=>c2 h.1] at hk;exact hk _<|hsame _ h2
theorem Z0C (hS:Sat e w<|ZY6 n x f N k::Q) (hk:∀w',Sat e w' (ZY6 n x f N k::Q)->K (Iw N.clk.bound) w'):Cl prog 202 #[pt n] w K:=by
 refine ZW6 ?_;unfold ZV2;obtain ⟨g,q,lv,hX,h2⟩:=ZZv hS;refine Zh<|Za<|Zb h2 0 rfl (v:=pt g) rfl<|ZYx (Z2m hX) h2.swap λw3 h3=>hk _<|ZZa hX h3.swap
theorem ZZN (hS:Sat e w<|ZY6 n x f N k::Q) (hk:∀v w',Sat e w' (Zz 85 6 Msg.cs v N.q::ZY6 n x f N k::Q)->K v w'):Cl prog 60 #[pt n] w K:=by
 refine ZWI ?_;unfold ZVG;obtain ⟨g,q,lv,hX,h2⟩:=ZZv hS;refine Zh<|Za<|Zb h2 0 rfl (v:=pt q) rfl<|Z0R (h2.pick 2 rfl) λv w3 h3=>?_;have h4:=ZZa hX<|h3.sn 5 [2,3,1,4,0];exact hk _ _ h4.swap
theorem Z1v (hk0:k<=1000) (hS:Sat e w<|ZY6 n x f N k::Q) (hk:∀v w',Sat e w' (Zz 129 7 Zak.cs v N.log::ZY6 n x f N k::Q)->K v w'):Cl prog 63 #[pt n] w K:=by
 refine ZXF ?_;unfold ZWM;obtain ⟨g,q,lv,hX,h2⟩:=ZZv hS;have hlog:=hX.log;refine Zw3 h2 Zak.cs λv0 w3 h3=>Zh<|Za<|Zb h3 1 rfl (v:=lv) rfl<|Zeo ZVt ZUE (f:=Zak.cs) (m:=N.log) (λ_=>rfl) (λ_=>Zg _) (h3.sn 5 [0,4,1,2,3]) (λ_=>Zp) (by simp;omega) λv' w4 h4=>?_;rw[List.nil_append] at h4;have h5:=ZZa hX<|h4.sn 5 [2,3,4,1,0];exact hk _ _ h5.swap
theorem Z0K (hS:Sat e w<|ZY6 n x f N k::Q) (hk:∀w',Sat e w' (ZY6 n x f N k::Q)->K (.bool<|Zh8 x.w N) w'):Cl prog 157 #[pt n] w K:=by
 refine ZXz ?_;unfold ZWy;obtain ⟨g,q,lv,hX,h2⟩:=ZZv hS;refine Zh<|Za<|Zb h2 0 rfl (v:=pt q) rfl<|ZZl (h2.pick 2 rfl) λw3 h3=>Zam<|Zal ?_;rw[ZOc];have h3':=ZZa hX<|h3.sn 4 [1,2,0,3];refine Yp (cs:=Msg.zero.cs) h3' rfl λb2 w4 h4=>Zq h4 0 rfl (vs:=(hdM N.q).cs) rfl rfl (by decide) (Zg _) (cs':=(hdM N.q).cs) (by rfl) λw5 h5=>?_
 replace h5:Sat e w5 (blk b2 85 (hdM N.q).cs::ZY6 n x f N k::Q):=h5
 refine ZaY h5 λw6 h6=>?_;have hEnd:x.w.End=x.End:=rfl;cases hq:ZjD N.q with
 | false=>
  have hs:Zh8 x.w N=false:=by unfold Zh8;rw[hq];rfl
  rw[hs] at hk;exact Zu (Zu<|Zu<|Zu<|Zu<|Zu<|Zu<|Zu<|Zu<|Yd<|Zu<|Zu<|Zu<|Zu<|Zu<|⟨Zu ⟨rfl,rfl⟩,Zu<|Yd<|hk _ h6.drop⟩)
 | true=>
  have hs:Zh8 x.w N=decide ((hdM N.q).key.T<min x.w.End N.clk.bound):=by unfold Zh8;rw[hq];rfl
  rw[hs] at hk;obtain ⟨g',q',lv',hX',h7⟩:=ZZv h6.swap;refine Ze<|Za<|Ze<|Za<|Ze<|Zb h6 0 rfl (v:=Iw (hdM N.q).key.T) rfl<|Ze<|Ze<|Zwz<|Ze<|Za<|Ze<|Za<|Ze<|Zb h7 0 rfl (v:=Iw x.End) rfl<|Ze<|Za7 (λd1=>?_)<|λd1=>?_
  .refine Yv<|Ze<|Za<|Ze<|Za<|Ze<|Zb h6 0 rfl (v:=Iw (hdM N.q).key.T) rfl<|Ze<|Ze<|Z0C h6.swap λw7 h8=>⟨Ze<|Zb h8 1 rfl (v:=Iw (hdM N.q).key.T) rfl ⟨rfl,rfl⟩,Ze<|ZwL<|Yv ?_⟩;have:=hk _ h8.swap.drop;rwa [show decide ((hdM N.q).key.T<min x.w.End N.clk.bound)=decide ((hdM N.q).key.T<N.clk.bound) from by rw[Bool.eq_iff_iff,decide_eq_true_iff,decide_eq_true_iff];omega] at this
  .refine Yv<|Zu<|Zu<|Zu<|Zu<|Zu<|⟨Zu ⟨rfl,rfl⟩,Zu<|Yd ?_⟩;have:=hk _ h6.drop;rwa [show decide ((hdM N.q).key.T<min x.w.End N.clk.bound)=false from by rw[decide_eq_false_iff_not];omega] at this
theorem Z1a {fd:Fed} (hk0:k<=1000) (hfd:x.w.Feds[f]?=some fd) (i:Nat) (hi:Q[i]?=some S) (hS:Sat e w<|ZY6 n x f N k::Q) (hr:∀g,S g->ZtG x g) (hs':x.short)
  (hno:Zh8 x.w N=false->∀w',Sat e w' (ZY6 n x f N k::Q)->K (.tuple #[.agg Zak.zero.cs.toArray,Sn,Iw 150]) w')
  (hyes:Zh8 x.w N=true->∀v w',Sat e w' (Zz 85 6 Msg.cs v (Zo7 x.w f fd N)::ZY6 n x f (Zmn fd N) (k+1)::Q)->K (.tuple #[.agg (ZmU fd N).cs.toArray,v,Iw 0]) w') :
  Cl prog 102 #[pt n] w K:=by
 refine ZXu ?_;unfold ZWz;rw[ZYc,ZOc];refine Yp (cs:=Zak.zero.cs) hS rfl λt2 w1 h1=>Z0K h1.swap λw2 h2=>?_;cases hs:Zh8 x.w N with
 | false=>
  refine Zch<|Zi<|Zaf Zak.zero.cs (by kernel_rfl) ?_;refine Zq h2 1 rfl (vs:=Zak.zero.cs) rfl rfl (by decide) (Zg _) (cs':=Zak.zero.cs) (by kernel_rfl) λw3 h3=>?_;refine Zo h3 1 (vs:=Zak.zero.cs) rfl (by rfl) rfl ?_;exact hno hs _ h3.swap.drop
 | true=>
  refine ZaJ<|Zf ?_;obtain ⟨g,q,lv,hN,h3⟩:=ZZv h2;have hXl:x.Feds.length=x.w.Feds.length:=by simp[WdX.w]
  have hf:=hN.hf;obtain ⟨fx,hfx⟩:=Zk (l:=x.Feds) (j:=f) (by omega);have hfxm:=List.mem_of_getElem? hfx;obtain rfl:fd=fx.f:=by
   have h0:x.w.Feds[f]?=some fx.f:=by simp only[WdX.w];rw[List.getElem?_map,hfx];rfl
   rw[h0] at hfd;exact (Option.some.inj hfd).symm
  have hsf:=hs'.fed fx hfxm;refine Zh<|Za<|Zb h3 0 rfl (v:=pt q) rfl<|Z1i (h3.pick 2 rfl) λw4 h4=>Zam<|Zal<|Yp (cs:=Msg.zero.cs) h4 rfl λt5 w5 h5=>?_;obtain ⟨m,hm⟩:∃m,m=hdM N.q:=⟨_,rfl⟩;rw[<-hm];refine Zq h5 0 rfl (vs:=m.cs) rfl rfl (by decide) (Zg _) (cs':=m.cs) (by rfl) λw6 h6=>?_
  replace h6:Sat e w6 (blk t5 85 m.cs::ZZf q N.q.tail::blk n 123 (nrs x f N g q lv)::ZWe g N.clk::Zz 129 7 Zak.cs lv N.log::blk t2 129 Zak.zero.cs::Q):=h6
  refine ZaY h6 λw7 h7=>Zh (Za<|Za<|Zb h7 2 rfl (v:=x.fv) rfl<|Zh<|Za<|Zb h7 2 rfl (v:=Iw f) rfl<|Zw h7 (i+6) hi (λ_ h=>(hr _ h).feds) (λ_=>rfl) hfx λp hp=>Zbd hp λp1 hp1=>Yt h7 (i+6) hi hp1 (v:=fx.rv) rfl<|Zh<|Za<|Zb h7 2 rfl (v:=Iw N.st) rfl<|Za<|Zb h7 0 rfl (v:=Iw m.Class) rfl<|ZLd (l:=fx.Rules) (s:=N.st) (c:=m.Class) (h7.pick (i+6) hi) (λg hg=>((hr g hg).fed fx hfxm).rules) hsf.rules hsf.sends λov w8 h8=>?_)
  replace h8:=Sat.unpick (i+6) hi h8
  obtain ⟨so,hso⟩:∃so,so=ZuU fx.f N:=⟨_,rfl⟩;have hso2:ZbY (fx.Rules.map Yg.r) N.st m.Class=so:=by rw[hso,hm];rfl
  rw[hso2] at h8 ⊢;have houts:=ZlA hN.may (List.mem_of_getElem? hfd) N.st m.Class;rw[show ZbY fx.f.Rules N.st m.Class=so from hso2] at houts;refine Zam (Zal<|Zh<|Za<|Zq h8 3 rfl (vs:=Yi [so.1]) rfl rfl (Nat.le_of_ble_eq_true rfl) (Zg _) (cs':=nrs x f ⟨N.clk,N.q,so.1,N.sent,N.log⟩ g q lv) (by rfl) λw9 h9=>?_)
  replace h9:Sat e w9 (Zz 133 3 Out.cs ov so.2::blk t5 85 m.cs::ZZf q N.q.tail::blk n 123 (nrs x f ⟨N.clk,N.q,so.1,N.sent,N.log⟩ g q lv)::ZWe g N.clk::Zz 129 7 Zak.cs lv N.log::blk t2 129 Zak.zero.cs::Q):=h9
  refine ZaY h9 λw10 h10=>Zh<|Za<|Zo h10 3 (vs:=x.cs) rfl (by rfl) rfl ?_;refine Zh<|Za<|Zb h10 3 rfl (v:=Iw f) rfl<|Zh<|Za<|Zb h10 3 rfl (v:=Iw N.sent) rfl<|Za<|Za<|Zb h10 1 rfl (v:=Iw m.key.T) rfl<|Za<|Zb h10 1 rfl (v:=Iw m.Body) rfl ?_;have hsu:=hN.sent;refine ZKz (x:=x) (outs:=so.2) (i+7) 0 hi rfl h10 hr (λ_=>Zp) hs' hN.may.tree (λo ho=>(houts.2 o ho).1) (by omega) ⟨hsu.1,by omega⟩ λmv w11 h11=>?_;have hsp:Zau x.w.Parents x.w.Feds f N.sent m.key.T m.Body so.2=Zo7 x.w f fx.f N:=by rw[hso,hm];rfl
  rw[hsp] at h11;generalize hout:Zo7 x.w f fx.f N=ms at h11 hyes;refine Zh<|Za<|Zb h11 4 rfl (v:=Iw N.sent) rfl<|Qln h11 1 rfl<|Qadds<|Zh<|Za<|Zq h11 4 rfl (vs:=Yi [N.sent+so.2.length]) rfl rfl (Nat.le_of_ble_eq_true rfl) (Zg _) (cs':=nrs x f ⟨N.clk,N.q,so.1,N.sent+so.2.length,N.log⟩ g q lv) (by rfl) λw12 h12=>?_;refine Zo h12 2 (vs:=m.cs) rfl (by rfl) rfl ?_;refine Zaf (⟨m,so.1⟩:Zak).cs (by kernel_rfl) ?_;refine Yp (cs:=Zak.zero.cs) h12 rfl λt10 w13 h13=>Zq h13 0 rfl (vs:=(⟨m,so.1⟩:Zak).cs) rfl rfl (Nat.le_of_ble_eq_true rfl) (Zg _) (cs':=(⟨m,so.1⟩:Zak).cs) (by rfl) λw14 h14=>?_
  replace h14:Sat e w14 (blk t10 129 (⟨m,so.1⟩:Zak).cs::Zz 85 6 Msg.cs mv ms::Zz 133 3 Out.cs ov so.2::blk t5 85 m.cs::ZZf q N.q.tail::blk n 123 (nrs x f ⟨N.clk,N.q,so.1,N.sent+so.2.length,N.log⟩ g q lv)::ZWe g N.clk::Zz 129 7 Zak.cs lv N.log::blk t2 129 Zak.zero.cs::Q):=h14
  refine ZaY h14 λw15 h15=>Zh<|Za<|Zb h15 5 rfl (v:=lv) rfl<|Zo h15 0 (vs:=(⟨m,so.1⟩:Zak).cs) rfl (by rfl) rfl ?_;refine ZwC (vs:=(⟨m,so.1⟩:Zak).cs) rfl rfl h15 λbb w16 h16=>⟨Zb h16 6 rfl (v:=lv) rfl ⟨rfl,rfl⟩,?_⟩;have hlog:=hN.log;refine Zeo ZVt ZVt.und (f:=Zak.cs) (l:=N.log) (m:=[⟨m,so.1⟩]) (λ_=>rfl) (λ_=>Zg _) (h16.sn 10 [8,0,1,2,3,4,5,6,7,9]) (Zfu (f:=Zak.cs) (x:=⟨m,so.1⟩)<|Nat.le_refl _) (by simp;omega) λlv' w17 h17=>?_;have q2:=h17.own_cells 0 rfl;refine Zh<|Za<|Zq h17 7 rfl (vs:=[lv']) q2.1 rfl (Nat.le_of_ble_eq_true rfl) (λc hc=>by rw[List.mem_singleton.1 hc];exact q2.2) (cs':=nrs x f ⟨N.clk,N.q,so.1,N.sent+so.2.length,N.log⟩ g q lv') (by rfl) λw18 h18=>?_;refine Zo h18 2 (vs:=(⟨m,so.1⟩:Zak).cs) rfl (by rfl) rfl ?_;refine Zq h18 9 rfl (vs:=(⟨m,so.1⟩:Zak).cs) rfl rfl (Nat.le_of_ble_eq_true rfl) (Zg _) (cs':=(⟨m,so.1⟩:Zak).cs) (by rfl) λw19 h19=>?_;refine Zo h19 9 (vs:=(⟨m,so.1⟩:Zak).cs) rfl (by rfl) rfl ?_;have hd:ZmU fx.f N=⟨m,so.1⟩:=by unfold ZmU;rw[<-hso,<-hm]
  have hst:Zmn fx.f N=⟨N.clk,N.q.tail,so.1,N.sent+so.2.length,N.log++[⟨m,so.1⟩]⟩:=by unfold Zmn;rw[hd,<-hso]
  rw[hd,hst] at hyes;have h20:=ZZa (n:=n) (f:=f) (k:=k+1) (x:=x) (N:=⟨N.clk,N.q.tail,so.1,N.sent+so.2.length,N.log++[⟨m,so.1⟩]⟩) (g:=g) (q:=q) (lv:=lv') ⟨hN.may,hN.hf,hN.len,hN.self,⟨by show 0<=N.sent+_;omega,by show N.sent+(so.2.length:Int)<=_;omega⟩,by show (N.log++[_]).length<=_;rw[List.length_append,List.length_singleton];omega⟩
   (h19.sn 10 [7,8,6,0,3])
  exact hyes hs mv _<|h20.sn 2 [1,0]
theorem Z02 {fd:Fed} (hfd:x.w.Feds[f]?=some fd) (i:Nat) (hi:Q[i]?=some S) (hS:Sat e w<|ZY6 n x f N k::Q) (hr:∀g,S g->ZtG x g)
  (hk:∀w',Sat e w' (ZY6 n x f (ZiG fd N) k::Q)->K (.tuple #[Iw (ZiG fd N).clk.told,.bool<|N.clk.tellB (Zcd N) fd.Look]) w') :
  Cl prog 115 #[pt n] w K:=by
 refine ZXh ?_;unfold ZWk;obtain ⟨g,q,lv,hN,h2⟩:=ZZv hS;have hXl:x.Feds.length=x.w.Feds.length:=by simp[WdX.w]
 have hf:=hN.hf;obtain ⟨fx,hfx⟩:=Zk (l:=x.Feds) (j:=f) (by omega);have hfxm:=List.mem_of_getElem? hfx;obtain rfl:fd=fx.f:=by
  have h0:x.w.Feds[f]?=some fx.f:=by simp only[WdX.w];rw[List.getElem?_map,hfx];rfl
  rw[h0] at hfd;exact (Option.some.inj hfd).symm
 refine Zh<|Za<|Zb h2 0 rfl (v:=pt q) rfl<|ZZl (h2.pick 2 rfl) λw3 h3=>Zam<|Zal ?_;rw[ZOc];refine Yp (cs:=Msg.zero.cs) h3 rfl λb2 w4 h4=>Zq h4 0 rfl (vs:=(hdM N.q).cs) rfl rfl (by decide) (Zg _) (cs':=(hdM N.q).cs) (by rfl) λw5 h5=>?_;refine J1.cut (λt4 w=>t4=Iw (Zcd N)/\Sat e w (blk b2 85 (hdM N.q).cs::ZZf q N.q::blk n 123 (nrs x f N g q lv)::ZWe g N.clk::Zz 129 7 Zak.cs lv N.log::Q)) (λk1 hcut=>?_) ?_
 .cases hq:ZjD N.q with
  | false=>
   refine Zf<|hcut _ _ ⟨?_,h5⟩;unfold Zcd;rw[if_neg (by rw[hq];simp)];rfl
  | true=>
   refine Zi<|Za<|Za<|Zb h5 0 rfl (v:=Iw (hdM N.q).key.T) rfl<|hcut _ _ ⟨?_,h5⟩;unfold Zcd;rw[if_pos hq]
 .rintro _ w6 ⟨rfl,h6⟩;refine ZaY h6 λw7 h7=>Zh<|Za<|Zb h7 2 rfl (v:=pt g) rfl<|Zh<|Za<|Za<|Zb h7 2 rfl (v:=x.fv) rfl<|Zh<|Za<|Zb h7 2 rfl (v:=Iw f) rfl<|Zw h7 (i+5) hi (λ_ h=>(hr _ h).feds) (λ_=>rfl) hfx λp hp=>Zbd hp λp1 hp1=>Yt h7 (i+5) hi hp1 (v:=Iw fx.Look) rfl<|ZZG (Z2m hN) (h7.pick 3 rfl) λw8 h8=>Zam<|Zal ?_;have ht:=Clk.tell_len N.clk (Zcd N) fx.f.Look;exact hk _<|ZZa (N:=ZiG fx.f N) (g:=g) (q:=q) (lv:=lv) ⟨hN.may,hN.hf,by show (N.clk.tell (Zcd N) fx.f.Look).L.length=_;rw[ht.1];exact hN.len,by show (N.clk.tell (Zcd N) fx.f.Look).self=_;rw[ht.2];exact hN.self,hN.sent,hN.log⟩<|h8.sn 5 [3,0,2,4]
variable {fd:Fed} {N:WN}
theorem ZZo {q:Nat} {room:Int} {l:List Msg} (hS:Sat e w<|ZNs q room l::R) (hk:∀w',Sat e w' (ZNs q room l::R)->K (.tuple #[.agg (hdM l).cs.toArray,.bool<|ZjD l]) w'):Cl prog 160 #[pt q] w K:=by
 cases l with
 | nil=>exact ZXq hS hk
 | cons x r=>exact ZYb (x:=x) rfl hS hk
theorem Z1r {q:Nat} {room:Int} {l:List Msg} (hu:Upk l) (hl:l.length<=1000) (hS:Sat e w<|ZNs q room l::R) (hk:∀w',Sat e w' (ZNs q room l.tail::R)->K (.tuple #[.agg (hdM l).cs.toArray,.bool<|ZjD l]) w'):Cl prog 158 #[pt q] w K:=by
 cases l with
 | nil=>exact ZYo hS hk
 | cons x r=>
  refine ZYY (x:=x) hl rfl hS λw2 h2=>?_;rw[ZZn hu] at h2;exact hk _ h2
def rws (x:WdX) (f st sent:Int) (q p g:Nat) (cv lv:Value):List Value:=[x.pv,x.fv,Iw x.End,Iw f,Iw st,Iw sent,pt q,pt p,pt g,cv,lv]
abbrev BR (n:Nat) (x:WdX) (f st sent:Int) (q p g:Nat) (cv lv:Value):HP:=blk n 127<|rws x f st sent q p g cv lv
abbrev DN (v:Value) (l:List Int):HP:=Zz 3 1 (Ye .i64) v l
structure RV where
 q:Nat
 p:Nat
 g:Nat
 cv:Value
 lv:Value
def ZYz (n:Nat) (x:WdX) (f:Nat) (fd:Fed) (N:WN) (k:Nat):HP:=hex λv:RV=>Yh [pur<|WOk x.w f fd N k,BR n x f (N.now fd).1 (N.now fd).2 v.q v.p v.g v.cv v.lv,ZNs v.q 64 N.q,ZVv v.p N.fl<|N.past x.w f fd,ZM8 v.g N.fl<|Yq x.w<|N.past x.w f fd,DN v.cv N.clk,DD v.lv<|N.log x.w f fd]
theorem ZYB (h:Sat e w<|ZYz n x f fd N k::Q):∃q p g cv lv,WOk x.w f fd N k/\Sat e w (BR n x f (N.now fd).1 (N.now fd).2 q p g cv lv::ZNs q 64 N.q::ZVv p N.fl (N.past x.w f fd)::ZM8 g N.fl (Yq x.w<|N.past x.w f fd)::DN cv N.clk::DD lv (N.log x.w f fd)::Q):=by
 obtain ⟨v,h0⟩:=h.ex;exact ⟨v.q,v.p,v.g,v.cv,v.lv,Sat.pure h0.split⟩
theorem ZYg {q p g:Nat} {cv lv:Value} (hp:WOk x.w f fd N k) (h:Sat e w<|BR n x f (N.now fd).1 (N.now fd).2 q p g cv lv::ZNs q 64 N.q::ZVv p N.fl (N.past x.w f fd)::ZM8 g N.fl (Yq x.w<|N.past x.w f fd)::DN cv N.clk::DD lv (N.log x.w f fd)::Q):Sat e w (ZYz n x f fd N k::Q):=
 .mk_ex ⟨q,p,g,cv,lv⟩ (.join (l':=[_,_,_,_,_,_,_]) (.mk_pure hp h))
theorem Z18 (i:Nat) (h:Sat e w L) (hi:L[i]?=some (ZYz n x f fd N k)):WOk x.w f fd N k:=by
 obtain ⟨q,p,g,cv,lv,hX,_⟩:=ZYB<|h.pick i hi;exact hX
theorem Z2n (h:WOk x.w f fd N k):∃fx:Zao,x.Feds[f]?=some fx/\fx.f=fd:=by
 have h1:=h.hfd;simp only[WdX.w] at h1;rw[List.getElem?_map] at h1;exact Option.map_eq_some_iff.1 h1
theorem Z1d:x.Feds.length=x.w.Feds.length:=by simp[WdX.w]
theorem Z0F (hS:Sat e w<|ZYz n x f fd N k::Q) (hk:K (Iw (N.ms.length:Int)) w):Cl prog 62 #[pt n] w K:=by
 refine ZW9 ?_;unfold ZV0;obtain ⟨q,p,g,cv,lv,hX,h1⟩:=ZYB hS;refine Zh<|Za<|Zb h1 0 rfl (v:=pt p) rfl ?_;obtain ⟨pv,xs,hp,h2⟩:=ZWq<|h1.pick 2 rfl;refine Zh<|Za<|Zb h2 0 rfl (v:=pv) rfl<|Qln h2 1 rfl ?_;rw[show (xs.length:Int)=N.ms.length from by
  have:(N.past x.w f fd).length=N.ms.length:=ZbA ..;rw[<-this,<-hp.1,List.length_map]]
 exact hk
theorem ZZX (hS:Sat e w<|ZYz n x f fd N k::Q) (hk:∀v w',Sat e w' (Zz 85 6 Msg.cs v N.q::ZYz n x f fd N k::Q)->K v w'):Cl prog 61 #[pt n] w K:=by
 refine ZWF ?_;unfold ZVM;obtain ⟨q,p,g,cv,lv,hX,h1⟩:=ZYB hS;refine Zh<|Za<|Zb h1 0 rfl (v:=pt q) rfl<|ZYG (by have:=hX.ql;omega) (h1.pick 1 rfl) λv w3 h3=>?_;have h4:=ZYg hX<|h3.sn 7 [2,1,3,4,5,6,0];exact hk _ _ h4.swap
theorem Z1D (hk0:k<=1000) (hS:Sat e w<|ZYz n x f fd N k::Q) (hk:∀v w',Sat e w' (DD v (N.log x.w f fd)::ZYz n x f fd N k::Q)->K v w'):Cl prog 64 #[pt n] w K:=by
 refine ZXJ ?_;unfold ZWP;obtain ⟨q,p,g,cv,lv,hX,h1⟩:=ZYB hS;have hl:=ZAT hX;refine Zw3 h1 Zak.cs λt4 w2 h2=>Zh<|Za<|Zb h2 1 rfl (v:=lv) rfl<|Zeo ZVt ZVt.und (f:=Zak.cs) (m:=N.log x.w f fd) (λ_=>rfl) (λ_=>Zg _) (h2.sn 7 [0,6,1,2,3,4,5]) (λ_=>Zp) (by simp;omega) λv w3 h3=>?_;rw[List.nil_append] at h3;have h4:=ZYg hX<|h3.sn 7 [2,3,4,5,6,1,0];exact hk _ _ h4.swap
theorem ZZ2 (i:Nat) (hi:Q[i]?=some S) (hr:∀g,S g->ZtG x g) (hS:Sat e w<|ZYz n x f fd N k::Q) (hk:∀w',Sat e w' (ZYz n x f fd N k::Q)->K (Iw<|Za6 fd N) w'):Cl prog 116 #[pt n] w K:=by
 refine ZWG<|ZaY hS λw1 h0=>?_;obtain ⟨q,p,g,cv,lv,hX,h1⟩:=ZYB h0;obtain ⟨fx,hfx,rfl⟩:=Z2n hX;refine Zh<|Za<|Zb h1 0 rfl (v:=pt p) rfl ?_;obtain ⟨pv,xs,hp,h2⟩:=ZWq<|h1.pick 2 rfl;exact Zh<|Za<|Zb h2 0 rfl (v:=Iw N.fl) rfl<|Zh<|Za<|Za<|Zb h1 0 rfl (v:=x.fv) rfl<|Zh<|Za<|Zb h1 0 rfl (v:=Iw f) rfl<|Zw h1 (i+6) hi (λ_ h=>(hr _ h).feds) (λ_=>rfl) hfx λa ha=>Zbd ha λa1 ha1=>Yt h1 (i+6) hi ha1 (v:=Iw fx.Look) rfl<|ZLe<|hk _ h0
theorem ZZe (hS:Sat e w<|ZYz n x f fd N k::Q) (hk:∀w',Sat e w' (ZYz n x f fd N k::Q)->K (Iw<|ZcM N) w'):Cl prog 118 #[pt n] w K:=by
 refine ZW3 ?_;unfold ZV1;obtain ⟨q,p,g,cv,lv,hX,h1⟩:=ZYB hS;have hcl:N.clk.length<=1000:=by have:=hX.clen;have:=hX.may.n.2;omega
 refine Zw3 h1 (Ye .i64) λt7 w2 h2=>Zh<|Za<|Zb h2 1 rfl (v:=pt q) rfl<|ZZo (h2.pick 2 rfl) λw3 h3=>Zam<|Zal ?_;rw[ZOc];refine Yp (cs:=Msg.zero.cs) h3 rfl λt4 w4 h4=>Zq h4 0 rfl (vs:=(hdM N.q).cs) rfl rfl (by decide) (Zg _) (cs':=(hdM N.q).cs) (by rfl) λw5 h5=>?_
 replace h5:Sat e w5 (blk t4 85 (hdM N.q).cs::ZNs q 64 N.q::DN t7 []::BR n x f (N.now fd).1 (N.now fd).2 q p g cv lv::ZVv p N.fl (N.past x.w f fd)::ZM8 g N.fl (Yq x.w<|N.past x.w f fd)::DN cv N.clk::DD lv (N.log x.w f fd)::Q):=h5
 obtain ⟨hd,hhd⟩:∃hd,hd=(if ZjD N.q=true then [(hdM N.q).key.T] else []):=⟨_,rfl⟩;have hhl:hd.length<=1:=by rw[hhd];split <;> simp
 refine J1.cut (λt3 w=>Sat e w<|DN t3 hd::ZNs q 64 N.q::BR n x f (N.now fd).1 (N.now fd).2 q p g cv lv::ZVv p N.fl (N.past x.w f fd)::ZM8 g N.fl (Yq x.w<|N.past x.w f fd)::DN cv N.clk::DD lv (N.log x.w f fd)::Q) (λk1 hk1=>?_)<|λt3 w6 h6=>?_
 .cases hq:ZjD N.q with
  | false=>
   rw[hq,if_neg (by decide)] at hhd;refine Zf<|hk1 _ _ ?_;rw[hhd];exact h5.sn 8 [2,1,3,4,5,6,7]
  | true=>
   rw[hq,if_pos rfl] at hhd;refine Zi<|Za<|Za<|Zb h5 0 rfl (v:=Iw (hdM N.q).key.T) rfl<|Zj7 Zvs (f:=Ye .i64) (λ_=>rfl) Zmu (h5.pick 2 rfl) (x:=(hdM N.q).key.T) rfl (by simp) λv' w6 h6=>?_;refine hk1 _ _ ?_;rw[hhd];exact h6.sn 8 [0,2,3,4,5,6,7]
 refine ZjF (λmm t3 t6 w=>∃j:Nat,j<=N.clk.length/\t6=Iw j/\mm=N.clk.length - j/\Sat e w (DN t3 (hd++(N.clk.take j).filter λt=>decide<|0<=t)::ZNs q 64 N.q::BR n x f (N.now fd).1 (N.now fd).2 q p g cv lv::ZVv p N.fl (N.past x.w f fd)::ZM8 g N.fl (Yq x.w<|N.past x.w f fd)::DN cv N.clk::DD lv (N.log x.w f fd)::Q)) N.clk.length
  ⟨0,Nat.zero_le _,rfl,rfl,by rw[List.take_zero,List.filter_nil,List.append_nil];exact h6⟩ ?_
 rintro mm t3' _ w g2 ⟨j,hj,rfl,rfl,h7⟩ hg2;refine Zh<|Za<|Zb h7 2 rfl (v:=cv) rfl<|Qln h7 5 rfl<|Za7 (λc=>Zi ?_)<|λc=>Zf ?_
 .obtain ⟨t,ht⟩:=Zk (l:=N.clk) (j:=j) (by omega);have hfs:=Zdw (p:=λt:Int=>decide<|0<=t) ht;have hfl:=List.length_filter_le (λt:Int=>decide<|0<=t)<|N.clk.take j;rw[List.length_take] at hfl;refine J1.cut (λt3 w=>Sat e w<|DN t3 (hd++(N.clk.take<|j+1).filter λt=>decide<|0<=t)::ZNs q 64 N.q::BR n x f (N.now fd).1 (N.now fd).2 q p g cv lv::ZVv p N.fl (N.past x.w f fd)::ZM8 g N.fl (Yq x.w<|N.past x.w f fd)::DN cv N.clk::DD lv (N.log x.w f fd)::Q) (λk3 hk3=>?_)<|λt3 w8 h8=>?_
  .refine Zh<|Za<|Zb h7 2 rfl (v:=cv) rfl<|Qix h7 5 rfl ht λa ha=>Yt h7 5 rfl ha (v:=Iw t) rfl<|Zu5 (λc1=>Zi ?_)<|λc1=>Zf ?_
   .refine Zh<|Za<|Zb h7 2 rfl (v:=cv) rfl<|Qix h7 5 rfl ht λa ha=>Yt h7 5 rfl ha (v:=Iw t) rfl<|Zj7 Zvs (f:=Ye .i64) (λ_=>rfl) Zmu h7 (x:=t) rfl (by rw[List.length_append];omega) λv' w8 h8=>?_;refine hk3 _ _ ?_;rw[hfs,if_pos<|decide_eq_true c1,<-List.append_assoc];exact h8
   .refine hk3 _ _ ?_;rw[hfs,if_neg (by rw[decide_eq_false c1];decide),List.append_nil];exact h7
  .exact Qincs<|hg2 _ _ _ _ (by omega) ⟨j+1,by omega,rfl,rfl,h8⟩
 .have ej:j=N.clk.length:=by omega
  rw[ej,List.take_length] at h7;have hfl:=List.length_filter_le (λt:Int=>decide<|0<=t) N.clk;refine ZX9 h7 (λ_=>Zp) (by rw[List.length_append];omega) λw8 h8=>?_;rw[hhd];exact hk _<|ZYg hX<|h8.sn 7 [2,1,3,4,5,6]
theorem Z0y {st sent fl:Int} {q p g:Nat} {cv lv:Value} {l:List En} {key:Key} (hS:Sat e w<|BR n x f st sent q p g cv lv::ZVv p fl l::Q)
  (hk:∀w',Sat e w' (BR n x f st sent q p g cv lv::ZVv p fl l::Q)->K (.tuple #[Iw ((Zqh key l).length:Int),.bool<|l.any λy=>decide<|y.m.key=key]) w'):Cl prog 168 #[pt n,.agg key.cs.toArray] w K:=by
 refine ZWT ?_;unfold ZVR;obtain ⟨pv,xs,hp,h0⟩:=ZWq hS.swap;have hxl:xs.length=l.length:=by rw[<-hp.1,List.length_map]
 have hl64:=hp.2.len;refine Yp (cs:=key.cs) h0 rfl λb w1 h1=>?_;refine ZIw (λmm t6 t7 t8 w=>∃j:Nat,j<=l.length/\t8=Iw j/\mm=l.length - j/\t6=Iw ((Zqh key<|l.take j).length:Int)/\t7=.bool ((l.take j).any λy=>decide<|y.m.key=key)/\Sat e w (blk b 83 key.cs::PB p fl pv::DER pv xs::Yh (xs.map ZcP)::BR n x f st sent q p g cv lv::Q)) l.length
  ⟨0,Nat.zero_le _,rfl,rfl,rfl,rfl,h1⟩ ?_
 rintro mm _ _ _ w g1 ⟨j,hj,rfl,rfl,rfl,rfl,h2⟩ hg1;refine Zh<|Za<|Zb h2 4 rfl (v:=pt p) rfl<|Zh<|Za<|Zb h2 1 rfl (v:=pv) rfl<|Qln h2 2 rfl<|Za7 (λc=>Zi ?_)<|λc=>Zf ?_
 .obtain ⟨y,hy⟩:=Zk (l:=xs) (j:=j) (by omega);have hye:l[j]?=some y.e:=by rw[<-hp.1,List.getElem?_map,hy];rfl
  have hts:=Zx hye;have hgl:(Zqh key<|l.take j).length<=64:=Nat.le_trans (List.length_filter_le _ _) (by rw[List.length_take];omega);refine ZaY h2 λw3 h3=>Zh<|Za<|Zb h3 4 rfl (v:=pt p) rfl<|Zh<|Za<|Zb h3 1 rfl (v:=pv) rfl<|Qix h3 2 rfl hy λa ha=>Zbd ha λa1 ha1=>Zbd ha1 λa2 ha2=>Zn0 h3 2 rfl ha2 (us:=y.m.key.cs) rfl rfl<|Zo h3 0 (vs:=key.cs) rfl (by rfl) rfl ?_;refine ZLj h3 λw4 h4=>?_;have hany:((l.take<|j+1).any λy=>decide<|y.m.key=key)=(((l.take j).any λy=>decide<|y.m.key=key) || decide (y.m.key=key)):=by rw[hts,List.any_append];simp[EnX.e]
  have fin:∀(w':World),Sat e w' (blk b 83 key.cs::PB p fl pv::DER pv xs::Yh (xs.map ZcP)::BR n x f st sent q p g cv lv::Q)->
    gd (.bool<|(l.take j).any λy=>decide<|y.m.key=key) false (λk=>k (Iw<|ZeU y.m.key key) w') w' λt42 w=>gd (.bool<|(l.take j).any λy=>decide<|y.m.key=key) false (λk=>bi .eql .i64 t42 (Iw 0) w k) w λt43 w=>
    pk (.bool<|(l.take j).any λy=>decide<|y.m.key=key) Bt t43 w λt44 w=>bi .add .i64 (Iw (j:Int)) (Iw 1) w λt21 w=>g1 [Iw ((Zqh key<|l.take<|j+1).length:Int),t44,t21] w:=by
   intro w' h5;cases ha:(l.take j).any λy=>decide (y.m.key=key) with
   | true=>
    exact Zd (Zd<|Yv<|Qincs<|hg1 _ _ _ _ _ (by omega) ⟨j+1,by omega,rfl,rfl,rfl,by rw[hany,ha];rfl,h5⟩)
   | false=>
    refine Zj<|Zj<|ZBD<|Yd<|Qincs<|hg1 _ _ _ _ _ (by omega) ⟨j+1,by omega,rfl,rfl,rfl,?_,h5⟩;rw[hany,ha,Bool.false_or];congr 1;rw[decide_eq_decide];exact Zyv
  refine Zu5 (λc1=>?_)<|λc1=>?_
  .have hg:Zqh key (l.take<|j+1)=Zqh key (l.take j)++[y.e]:=by
    unfold Zqh;rw[hts,List.filter_append,List.filter_cons,List.filter_nil,if_pos (by rw[decide_eq_false (show ¬Zv y.e.m.key key from λh=>by have h1:ZeU y.m.key key<0:=Zav.2 h;omega)];rfl)]
   refine J1.cut (λt w'=>t=Iw ((Zqh key<|l.take<|j+1).length:Int)/\w'=w4) (λk2 hk2=>?_) (λt w' ⟨h1,h2⟩=>by rw[h1,h2];exact fin w4 h4);refine Zi<|Qincs<|hk2 _ _ ⟨?_,rfl⟩;rw[hg,List.length_append];rfl
  .have hg:Zqh key (l.take<|j+1)=Zqh key (l.take j):=by
    unfold Zqh;rw[hts,List.filter_append,List.filter_cons,List.filter_nil,if_neg (by rw[decide_eq_true (show Zv y.e.m.key key from (Zav.1 (by omega):Zv y.m.key key))];decide),List.append_nil]
   refine J1.cut (λt w'=>t=Iw ((Zqh key<|l.take<|j+1).length:Int)/\w'=w4) (λk2 hk2=>?_) (λt w' ⟨h1,h2⟩=>by rw[h1,h2];exact fin w4 h4);exact Zf<|hk2 _ _ ⟨by rw[hg],rfl⟩
 .have ej:j=l.length:=by omega
  rw[ej,List.take_length];refine hk _ ?_;have h3:=ZYv (l:=l) hp<|h2.sn 5 [1,2,3,4];exact h3.swap
theorem Z0I {st sent:Int} {q p g:Nat} {cv lv:Value} {l:List Msg} {key:Key} (hl:l.length<=1000) (hS:Sat e w<|BR n x f st sent q p g cv lv::ZNs q 64 l::Q)
  (hk:∀w',Sat e w' (BR n x f st sent q p g cv lv::ZNs q 64 l::Q)->K (.bool<|ZeQ key l) w'):Cl prog 169 #[pt n,.agg key.cs.toArray] w K:=by
 refine ZW1 ?_;unfold ZV6;obtain ⟨qv,h0⟩:=ZYW hS.swap;refine Yp (cs:=key.cs) h0 rfl λb w1 h1=>?_;have done:∀w' bb,ZeQ key l=bb->Sat e w' (blk b 83 key.cs::blk q 233 [Iw 64,qv]::Zz 85 6 Msg.cs qv l::BR n x f st sent q p g cv lv::Q)->K (.bool bb) w':=λw' bb hb h=>by
  rw[<-hb];exact hk _<|(ZNr h.drop).swap
 refine Zdk (λmm t5 w=>∃j:Nat,j<=l.length/\t5=Iw j/\mm=l.length - j/\(∀y∈l.take j,y.key≠key)/\Sat e w (blk b 83 key.cs::blk q 233 [Iw 64,qv]::Zz 85 6 Msg.cs qv l::BR n x f st sent q p g cv lv::Q)) l.length ⟨0,Nat.zero_le _,rfl,rfl,by simp,h1⟩ ?_;rintro mm _ w g1 ⟨j,hj,rfl,rfl,hno,h2⟩ hg1;refine Zh<|Za<|Zb h2 3 rfl (v:=pt q) rfl<|Zh<|Za<|Zb h2 1 rfl (v:=qv) rfl<|Qln h2 2 rfl<|Za7 (λc=>Zi ?_)<|λc=>Zf ?_
 .obtain ⟨y,hy⟩:=Zk (l:=l) (j:=j) (by omega);refine ZaY h2 λw3 h3=>Zh<|Za<|Zb h3 3 rfl (v:=pt q) rfl<|Zh<|Za<|Zb h3 1 rfl (v:=qv) rfl<|Qix h3 2 rfl hy λa ha=>Zbd ha λa1 ha1=>Zn0 h3 2 rfl ha1 (us:=y.key.cs) rfl rfl<|Zo h3 0 (vs:=key.cs) rfl (by rfl) rfl ?_;refine ZFS (ns:=y.key.ns) (ms:=key.ns) ZYS ZYT ZZi (by decide) rfl ?_;rw[Key.eq_ns];by_cases d:y.key=key
  .rw[decide_eq_true d];exact Zi<|done _ _ (Zgl.2 ⟨y,List.mem_of_getElem? hy,d⟩) h3
  .rw[decide_eq_false d];refine Zf<|Qincs<|hg1 _ _ _ (by omega) ⟨j+1,by omega,rfl,rfl,λz hz=>?_,h3⟩;rw[Zx hy] at hz;rcases List.mem_append.1 hz with hz | hz
   .exact hno z hz
   .rw[List.mem_singleton.1 hz];exact d
 .have ej:j=l.length:=by omega
  rw[ej,List.take_length] at hno;exact done _ _ (ZuS.2 hno) h2
theorem Zjv {x:WdX} (i:Nat) (hi:L[i]?=some S) (hS:Sat e w L) (hr:∀g,S g->ZtG x g) (hs:x.short)
  (hk:∀(X:WdX) w',X.w=x.w->Sat e w' (Zag X::L)->K (.agg X.cs.toArray) w'):Cl prog 75 #[.agg x.cs.toArray] w K:=by
 refine Zj5 ?_;unfold ZlG;have hflat:=ZoI i hi hS hr;refine Yp (cs:=x.cs) hS rfl λb w1 h1=>?_;rw[ZqI];refine Yp (cs:=[Sn,Sn,Iw 0]) h1 rfl λb2 w2 h2=>Za<|Zb h2 1 rfl (v:=x.pv) rfl<|ZbR (i+2) hi (by have:=hs.par;omega) (λ_ _ v h=>by simp[Ye] at h;subst h;rfl) h2 (λ_ h=>(hr _ h).par) λv1 w3 h3=>?_;have f1:=h3.own_cells 0 rfl;refine Za<|Zq h3 2 rfl (vs:=[v1]) f1.1 rfl (Nat.le_of_ble_eq_true rfl) (λc hc=>by rw[List.mem_singleton.1 hc];exact f1.2) (cs':=[v1,x.fv,Iw x.End]) (by rfl) λw4 h4=>?_;refine Za<|Zb h4 2 rfl (v:=x.fv) rfl<|ZkD (i+3) hi (by have:=hs.feds;omega) (λf hf=>Zc1 i hi hS λg hg=>(hr g hg).fed f hf) h4 (λ_ h=>(hr _ h).feds) λv2 w5 h5=>?_;have f2:=h5.own_cells 0 rfl;refine Za<|Zq h5 3 rfl (vs:=[v2]) f2.1 rfl (Nat.le_of_ble_eq_true rfl) (λc hc=>by rw[List.mem_singleton.1 hc];exact f2.2) (cs':=[v1,v2,Iw x.End]) (by rfl) λw6 h6=>?_;refine Za<|Zb h6 3 rfl (v:=v2) rfl<|Qln h6 0 rfl ?_;have hfl:=hs.feds;refine Zdk (λq t17 w=>∃(j:Nat) (dn:List Zao),j<=x.Feds.length/\t17=Iw j/\q=x.Feds.length - j/\dn.length=j/\dn.map Zao.f=(x.Feds.take j).map Zao.f/\
   Sat e w (Zz 52 7 Zao.cs v2 (dn++x.Feds.drop j)::Yh (dn.map Zea)::Zz 3 1 (Ye .i64) v1 x.Parents::blk b2 25 [Sn,Sn,Iw 0]::blk b 25 [v1,v2,Iw x.End]::L)) x.Feds.length
  ⟨0,[],Nat.zero_le _,rfl,rfl,rfl,rfl,?_⟩ ?_
 .have h7:Sat e w6 (Yh []::Zz 52 7 Zao.cs v2 x.Feds::Zz 3 1 (Ye .i64) v1 x.Parents::blk b2 25 [Sn,Sn,Iw 0]::blk b 25 [v1,v2,Iw x.End]::L):=Sat.join (l':=[])<|h6.sn 4 [0,1,2,3];exact h7.swap
 rintro q _ w g1 ⟨j,dn,hj,rfl,rfl,hdl,hdm,h7⟩ hg1;refine Za7 (λc0=>Zi ?_)<|λc0=>Zf ?_
 case refine_2=>
  have ej:j=x.Feds.length:=by omega
  rw[ej,List.drop_length,List.append_nil] at h7;rw[ej,List.take_length] at hdm;refine Zo h7 4 (vs:=[v1,v2,Iw x.End]) rfl (by rfl) rfl ?_;refine Zq h7 3 rfl (vs:=[v1,v2,Iw x.End]) rfl rfl (Nat.le_of_ble_eq_true rfl) (λc hc=>by
   simp only[List.mem_cons,List.not_mem_nil,or_false] at hc;rcases hc with rfl | rfl | rfl
   .exact f1.2
   .exact f2.2
   .rfl) (cs':=[v1,v2,Iw x.End]) (by rfl) λw8 h8=>?_
  refine Zo h8 3 (vs:=[v1,v2,Iw x.End]) rfl (by rfl) rfl ?_;exact hk ⟨v1,x.Parents,v2,dn,x.End⟩ _ (by simp only[WdX.w,hdm])<|Sat.join (l':=[_,_,_])<|h8.sn 5 [2,0,1]
 obtain ⟨fd,hf⟩:=Zk (l:=x.Feds) (j:=j) (by omega);have hfm:=List.mem_of_getElem? hf;have hsf:=hs.fed fd hfm;have hdr:x.Feds.drop j=fd::x.Feds.drop (j+1):=Zaq hf;have hget:(dn++x.Feds.drop j)[j]?=some fd:=by rw[hdr,List.getElem?_append_right (by omega),hdl,Nat.sub_self];rfl
 have hi7:(Zz 52 7 Zao.cs v2 (dn++x.Feds.drop j)::Yh (dn.map Zea)::Zz 3 1 (Ye .i64) v1 x.Parents::blk b2 25 [Sn,Sn,Iw 0]::blk b 25 [v1,v2,Iw x.End]::L)[i+5]?=some S:=hi;refine Za<|Zb h7 4 rfl (v:=v2) rfl<|ZjI h7 0 rfl hget λbb cc hv2=>ZaY h7 λw8 h8=>Zh<|Za<|Zaa h8 0 rfl (λ_=>rfl) hv2 hget (u:=fd.pv) rfl<|Zh<|Za<|Zaa h8 0 rfl (λ_=>rfl) hv2 hget (u:=fd.sv) rfl<|Zh<|Za<|Zaa h8 0 rfl (λ_=>rfl) hv2 hget (u:=fd.iv) rfl<|Zh<|Za<|Zaa h8 0 rfl (λ_=>rfl) hv2 hget (u:=fd.rv) rfl ?_;have hintf:∀(l:List Int),∀x∈l,∀v∈Ye .i64 x,flat v=true:=λ_ _ _ v h=>by simp[Ye] at h;subst h;rfl
 refine ZbR (i+5) hi7 (by have:=hsf.pubs;omega) (hintf _) h8 (λg hg=>((hr g hg).fed fd hfm).pubs) λa1 w9 h9=>⟨Zaa h9 1 rfl (λ_=>rfl) hv2 hget (u:=fd.rv) rfl ⟨rfl,rfl⟩,Zaa h9 1 rfl (λ_=>rfl) hv2 hget (u:=fd.iv) rfl ⟨rfl,rfl⟩,Zaa h9 1 rfl (λ_=>rfl) hv2 hget (u:=fd.sv) rfl ⟨rfl,rfl⟩,ZbR (i+6) hi (by have:=hsf.subs;omega) (hintf _) h9 (λg hg=>((hr g hg).fed fd hfm).subs) λa2 w10 h10=>⟨Zaa h10 2 rfl (λ_=>rfl) hv2 hget (u:=fd.rv) rfl ⟨rfl,rfl⟩,Zaa h10 2 rfl (λ_=>rfl) hv2 hget (u:=fd.iv) rfl ⟨rfl,rfl⟩,Zde (i+7) hi (by have:=hsf.init;omega) (λ_ _=>Zg _) h10 (λg hg=>((hr g hg).fed fd hfm).init) λa3 w11 h11=>⟨Zaa h11 3 rfl (λ_=>rfl) hv2 hget (u:=fd.rv) rfl ⟨rfl,rfl⟩,Zjh (i+8) hi (by have:=hsf.rules;omega) (Znr i hi hS λg hg=>((hr g hg).fed fd hfm).rules) h11 (λg hg=>((hr g hg).fed fd hfm).rules.s) λa4 w12 h12=>?_⟩⟩⟩;have q4:=h12.own_cells 0 rfl;have q3:=h12.own_cells 1 rfl;have q2:=h12.own_cells 2 rfl;have q1:=h12.own_cells 3 rfl;have hset:∀(a c:Zao),((dn++x.Feds.drop j).set j a).set j c=(dn++x.Feds.drop j).set j c:=λa c=>List.set_set _;have hjl:j<(dn++x.Feds.drop j).length:=(List.getElem?_eq_some_iff.1 hget).1;have hg1':∀a:Zao,((dn++x.Feds.drop j).set j a)[j]?=some a:=λa=>List.getElem?_set_self hjl;have hln:∀a:Zao,((dn++x.Feds.drop j).set j a).length=(dn++x.Feds.drop j).length:=λa=>List.length_set;refine Zh<|Za<|Zdz h12 4 rfl (λ_=>rfl) hv2 hget (x':={ fd with pv:=a1 }) q1.1 rfl (by decide) (λc hc=>by rw[List.mem_singleton.1 hc];exact q1.2) rfl λw13 h13=>?_;refine Zh<|Za<|Zdz h13 4 rfl (λ_=>rfl) (by rw[hln];exact hv2) (hg1' _) (x':={ fd with pv:=a1,sv:=a2 }) q2.1 rfl (by decide) (λc hc=>by rw[List.mem_singleton.1 hc];exact q2.2) rfl λw14 h14=>?_;rw[hset] at h14;refine Zh<|Za<|Zdz h14 4 rfl (λ_=>rfl) (by rw[hln];exact hv2) (hg1' _) (x':={ fd with pv:=a1,sv:=a2,iv:=a3 }) q3.1 rfl (by decide) (λc hc=>by rw[List.mem_singleton.1 hc];exact q3.2) rfl λw15 h15=>?_;rw[hset] at h15;refine Zh<|Za<|Zdz h15 4 rfl (λ_=>rfl) (by rw[hln];exact hv2) (hg1' _) (x':={ fd with pv:=a1,sv:=a2,iv:=a3,rv:=a4 }) q4.1 rfl (by decide) (λc hc=>by rw[List.mem_singleton.1 hc];exact q4.2) rfl λw16 h16=>?_;rw[hset] at h16;clear h8 h9 h10 h11 h12 h13 h14 h15;generalize hfd':({ fd with pv:=a1,sv:=a2,iv:=a3,rv:=a4 }:Zao)=fd' at h16;generalize hls:(dn++x.Feds.drop j).set j fd'=ls at h16;have hlsj:ls[j]?=some fd':=by rw[<-hls];exact hg1' _
 have hlsl:v2=.slice (some ⟨bb,0,none⟩) ls.length cc:=by rw[<-hls,hln];exact hv2
 have e4:fd'.rv=a4:=by rw[<-hfd']
 refine Zh<|Za<|Zaa h16 4 rfl (λ_=>rfl) hlsl hlsj (u:=a4) (by rw[<-hfd'];rfl) ?_;refine Qln h16 0 rfl ?_;have hrl:=hsf.rules;refine Zdk (λq t61 w=>∃(n:Nat) (rd:List Yg),n<=fd.Rules.length/\t61=Iw n/\q=fd.Rules.length - n/\rd.length=n/\rd.map Yg.r=(fd.Rules.take n).map Yg.r/\
   Sat e w (Zz 54 4 Yg.cs a4 (rd++fd.Rules.drop n)::Yh (rd.map ZfY)::Zz 133 3 Out.cs a3 fd.Init::Zz 3 1 (Ye .i64) a2 fd.Subs::Zz 3 1 (Ye .i64) a1 fd.Pubs::Zz 52 7 Zao.cs v2 ls::Yh (dn.map Zea)::Zz 3 1 (Ye .i64) v1 x.Parents::blk b2 25 [Sn,Sn,Iw 0]::blk b 25 [v1,v2,Iw x.End]::L)) fd.Rules.length
  ⟨0,[],Nat.zero_le _,rfl,rfl,rfl,rfl,?_⟩ ?_
 .exact (Sat.join (l':=[]) h16).swap
 rintro q _ w g2 ⟨n,rd,hn,rfl,rfl,hrdl,hrdm,h17⟩ hg2;refine Za7 (λc1=>Zi ?_)<|λc1=>Zf ?_
 case refine_2=>
  have en:n=fd.Rules.length:=by omega
  rw[en,List.drop_length,List.append_nil] at h17;rw[en,List.take_length] at hrdm;refine Qincs ?_;have h18:Sat e w (Zea { fd' with Rules:=rd }::Zz 52 7 Zao.cs v2 ls::Yh (dn.map Zea)::Zz 3 1 (Ye .i64) v1 x.Parents::blk b2 25 [Sn,Sn,Iw 0]::blk b 25 [v1,v2,Iw x.End]::L):=by
   refine Sat.join (l':=[_,_,_,_,_]) ?_;rw[<-hfd'];exact h17.sn 5 [4,3,2,0,1]
  have h19:=ZiX<|h18.sn 3 [0,2,1];refine hg1 _ _ _ (by omega) ⟨j+1,dn++[{ fd' with Rules:=rd }],by omega,rfl,rfl,by simp[hdl],?_,?_⟩
  .rw[Zx hf,List.map_append,List.map_append,hdm,List.map_singleton,List.map_singleton];congr 2;rw[<-hfd'];simp only[Zao.f,hrdm]
  .have h20:=(h19.swap).imp (Q:=Zz 52 7 Zao.cs v2<|dn++[{ fd' with Rules:=rd }]++x.Feds.drop (j+1)) λg hg=>ZoX (by
    rw[<-hls,hdr,List.set_append_right _ _ (by omega),hdl,Nat.sub_self,List.set_cons_zero];simp only[List.map_append,List.map_cons,List.append_assoc,List.singleton_append];rfl) hg
   rw[List.map_append];exact h20
 obtain ⟨r,hrn⟩:=Zk (l:=fd.Rules) (j:=n) (by omega);have hrm:=List.mem_of_getElem? hrn;have hdr2:fd.Rules.drop n=r::fd.Rules.drop (n+1):=Zaq hrn;have hget2:(rd++fd.Rules.drop n)[n]?=some r:=by rw[hdr2,List.getElem?_append_right (by omega),hrdl,Nat.sub_self];rfl
 refine ZaY h17 λw18 h18=>Zh<|Za<|Zaa h18 5 rfl (λ_=>rfl) hlsl hlsj (u:=a4) (by rw[<-hfd'];rfl) ?_;refine Zh<|Za<|Zaa h18 5 rfl (λ_=>rfl) hlsl hlsj (u:=a4) (by rw[<-hfd'];rfl) ?_;refine ZjI h18 0 rfl hget2 λbr cr ha4=>Za<|Zaa h18 0 rfl (λ_=>rfl) ha4 hget2 (u:=r.sv) rfl<|Zde (i+10) hi (by have:=hsf.sends r hrm;omega) (λ_ _=>Zg _) h18 (λg hg=>((hr g hg).fed fd hfm).rules.e r hrm) λa5 w19 h19=>?_;have q5:=h19.own_cells 0 rfl;refine ⟨Zaa h19 6 rfl (λ_=>rfl) hlsl hlsj (u:=a4) (by rw[<-hfd'];rfl) ⟨rfl,rfl⟩,?_⟩;refine ZjI h19 1 rfl hget2 λbr' cr' ha4'=>Za<|Zdz h19 1 rfl (λ_=>rfl) ha4' hget2 (x':={ r with sv:=a5 }) q5.1 rfl (by decide) (λc hc=>by rw[List.mem_singleton.1 hc];exact q5.2) rfl λw20 h20=>?_;refine Qincs ?_;have h21:=ZiX (A:=ZfY { r with sv:=a5 })<|h20.sn 3 [0,2,1];refine hg2 _ _ _ (by omega) ⟨n+1,rd++[{ r with sv:=a5 }],by omega,rfl,rfl,by simp[hrdl],?_,?_⟩
 .rw[Zx hrn,List.map_append,List.map_append,hrdm];rfl
 .rw[hdr2,List.set_append_right _ _ (by omega),hrdl,Nat.sub_self,List.set_cons_zero] at h21;rw[List.map_append,List.append_assoc];exact h21.swap
def Zhq (wd:Wd) (f:Int):Option Fed:=if 0<=f then (wd.Feds[f.toNat]?).bind λfd=>if fd.Kind=1 then some fd else none else none
def ZdE (l:List Fed):List Int:=l.map λg=>if g.Kind=0 then 0 else -1
theorem Zt8:Zr8 (ZdE []) []:=⟨List.nodup_nil,λj=>by unfold Zc9 ZdE;simp[lkA],by simp⟩
theorem ZnN {l:List Int} {x:Int} (j:Int):Zc9 (l++[x]) j=if j=l.length then x else Zc9 l j:=by
 unfold Zc9;by_cases h0:0<=j
 .rw[if_pos h0,if_pos h0,List.getD_eq_getElem?_getD,List.getD_eq_getElem?_getD];by_cases h1:j=l.length
  .rw[if_pos h1,h1,Int.toNat_natCast,List.getElem?_append_right<|Nat.le_refl _,Nat.sub_self];rfl
  .rw[if_neg h1];rcases Nat.lt_or_ge j.toNat l.length with h2 | h2
   .rw[List.getElem?_append_left h2]
   .rw[List.getElem?_append_right h2,List.getElem?_eq_none (l:=l) h2,List.getElem?_eq_none (by simp;omega)]
 .rw[if_neg h0,if_neg h0,if_neg (by omega)]
theorem ZvR {l:List Fed} {m:List<|Int × Int} {g:Fed} (h:Zr8 (ZdE l) m) (hg:g.Kind=0) (hl:m.length<=900):Zr8 (ZdE<|l++[g]) (upA m (l.length:Int) 0):=by
 have e1:ZdE (l++[g])=ZdE l++[0]:=by unfold ZdE;rw[List.map_append,List.map_singleton,if_pos hg]
 have e2:(ZdE l).length=l.length:=by unfold ZdE;rw[List.length_map]
 have hn:lkA m (l.length:Int)=none:=by
  rw[h.lk,<-e2];have:Zc9 (ZdE l) ((ZdE l).length:Int)=-1:=by
   unfold Zc9;rw[if_pos (by omega),Int.toNat_natCast,List.getD_eq_getElem?_getD,List.getElem?_eq_none<|Nat.le_refl _];rfl
  rw[this];rfl
 refine ⟨h.u.up _ _,λj=>?_,?_⟩
 .rw[ZiY h.u,e1,ZnN,e2];by_cases hj:j=l.length
  .rw[if_pos hj,if_pos hj];rfl
  .rw[if_neg hj,if_neg hj,h.lk j]
 .unfold upA;rw[hn];simp;omega
theorem Zxj {l:List Fed} {m:List<|Int × Int} {g:Fed} (h:Zr8 (ZdE l) m) (hg:g.Kind≠0):Zr8 (ZdE<|l++[g]) m:=by
 have e1:ZdE (l++[g])=ZdE l++[-1]:=by unfold ZdE;rw[List.map_append,List.map_singleton,if_neg hg]
 refine ⟨h.u,λj=>?_,h.len⟩;rw[e1,ZnN,h.lk j];by_cases hj:j=(ZdE l).length
 .rw[if_pos hj,hj];have:Zc9 (ZdE l) ((ZdE l).length:Int)=-1:=by
   unfold Zc9;rw[if_pos (by omega),Int.toNat_natCast,List.getD_eq_getElem?_getD,List.getElem?_eq_none<|Nat.le_refl _];rfl
  rw[this]
 .rw[if_neg hj]
theorem Zz4 {m:List<|Int × Int} {k x:Int}:(upA m k x).length<=m.length+1:=by
 unfold upA;split
 .rw[List.length_map];omega
 .simp
theorem Ztr {x:WdX} {f:Int} (i:Nat) (hi:L[i]?=some S) (hS:Sat e w L) (hr:∀g,S g->ZtG x g) (hwf:x.wf) (hs:x.short)
  (hbad:(Za4 x.w).2≠0->∀w',Sat e w' L->K (.tuple #[Pn,Iw (Za4 x.w).2]) w')
  (harg:(Za4 x.w).2=0->Zhq x.w f=none->∀w',Sat e w' L->K (.tuple #[Pn,Iw 1]) w')
  (hok:(Za4 x.w).2=0->∀(n:Nat) fd,f=n->x.w.Feds[n]?=some fd->Zhq x.w f=some fd->∀r w',Sat e w' (Ya r x.w n fd (ZiQ x.w) 0::L)->K (.tuple #[pt r,Iw 0]) w') :
  Cl prog 27 #[.agg x.cs.toArray,Iw f] w K:=by
 refine Zm5 ?_;unfold ZrQ;refine Yp (cs:=x.cs) hS rfl λb w1 h1=>Zo h1 0 (vs:=x.cs) rfl (by rfl) rfl ?_;refine ZdI (x:=x) (i+1) hi h1 hr hwf hs λw2 h2=>Zam<|Zal<|ZrP (λc1=>Zi<|hbad c1 _ h2.drop)<|λc1=>Zf ?_;have hwd:=ZfI c1;have hi2:(blk b 25 x.cs::L)[i+1]?=some S:=hi;have hwl:x.w.Feds.length=x.Feds.length:=by simp[WdX.w]
 by_cases d1:f<0
 .exact Ztt d1<|Zd<|Zd<|Zd<|Zd<|Zd<|Yv<|Zd<|Zd<|Zd<|Zd<|Zd<|Zd<|Zd<|Yv<|Zi<|harg c1 (if_neg<|by omega) _ h2.drop
 refine Ze7 d1<|Zj<|Zj<|Za<|Zj<|Zb h2 0 rfl (v:=x.fv) rfl<|Zj<|Zt h2 (i+1) hi2 (λ_ h=>(hr _ h).feds) ?_;by_cases d2:(x.Feds.length:Int)<=f
 .refine Ze<|Qget<|Yd<|Zd<|Zd<|Zd<|Zd<|Zd<|Zd<|Zd<|Yv<|Zi<|harg c1 ?_ _ h2.drop;unfold Zhq;rw[if_pos (by omega),List.getElem?_eq_none (by omega)];rfl
 refine Zj<|Qgef<|Yd ?_;obtain ⟨n,rfl⟩:∃n:Nat,f=n:=⟨f.toNat,by omega⟩;obtain ⟨fd,hfd⟩:=Zk (l:=x.Feds) (j:=n) (by omega);have hfdm:=List.mem_of_getElem? hfd;have hwf':x.w.Feds[n]?=some fd.f:=by simp only[WdX.w];rw[List.getElem?_map,hfd];rfl
 have hmay:Zhq x.w n=if fd.Kind=1 then some fd.f else none:=by
  unfold Zhq;rw[if_pos (by omega),Int.toNat_natCast,hwf'];rfl
 refine Zj<|Za<|Zj<|Zb h2 0 rfl (v:=x.fv) rfl<|Zj<|Zj<|Zw h2 (i+1) hi2 (λ_ h=>(hr _ h).feds) (λ_=>rfl) hfd λp hp=>Zj<|Zbd hp λp1 hp1=>Zj<|Yt h2 (i+1) hi2 hp1 (v:=Iw fd.Kind) rfl<|Zj<|ZrP (λd3=>Yd<|Zi<|harg c1 (by rw[hmay,if_neg d3]) _ h2.drop)<|λd3=>Yd<|Zf ?_;rw[if_pos d3] at hmay;refine ZaY h2 λw4 h4=>Zo h4 0 (vs:=x.cs) rfl (by rfl) rfl ?_;refine Za<|Zb h4 0 rfl (v:=x.fv) rfl<|Zw h4 (i+1) hi2 (λ_ h=>(hr _ h).feds) (λ_=>rfl) hfd λp2 hp2=>Zbd hp2 λp3 hp3=>Yt h4 (i+1) hi2 hp3 (v:=Iw fd.Start) rfl<|Za<|Zb h4 0 rfl (v:=x.fv) rfl<|Zw h4 (i+1) hi2 (λ_ h=>(hr _ h).feds) (λ_=>rfl) hfd λp4 hp4=>Zbd hp4 λp5 hp5=>Yt h4 (i+1) hi2 hp5 (v:=fd.iv) rfl<|Zt h4 (i+1) hi2 (λg hg=>((hr g hg).fed fd hfdm).init) ?_;have hn:=hwd.n;have fin:∀(X:WdX) (q p g mb:Nat) w',X.w=x.w->Sat e w' (Zag X::IsQ q []::Yf p 0 []::Yo g 0 []::Zaj kI kI mb []::blk b 25 x.cs::L)->
   bld (Zl prog 162) #[(0,3),(3,1),(4,1),(5,1),(6,1),(7,1),(8,1),(9,1),(10,1)] [(0,.agg X.cs.toArray),(1,Iw n),(2,Iw fd.Start),(3,Iw (fd.Init.length:Int)),(4,pt q),(5,pt p),(6,pt g),(7,.map<|some mb)] w' λt57 w=>
    al (Value.cells t57) 162 w λt58 w=>fld 1 (pt b) w λt59 w=>ld1 t59 w λt60 w=>lnS t60 w λt61 w=>lp [Iw 0] w (b1 λt62 w g1=>bi .lss .i64 t62 t61 w λt63 w=>Zr t63
    (J0 (λw=>bi .add .i64 t62 (Iw 1) w λt75 w=>g1 [t75] w) λk2=>ixS 7 t60 t62 w λt65 w=>ldN 7 t65 w λt66 w=>al (Zl prog 52) 52 w λt10 w=>stN 7 t10 t66 w λ_ w=>fld 0 t10 w λt67 w=>ld1 t67 w λt68 w=>bi .eql .i64 t68 (Iw 0) w λt69 w=>Zr t69
     (ncP t58<|fld 9 t58 w λt72 w=>ld1 t72 w λt73 w=>upM prog 160 t73 t62 (Iw 0) w λ_ w=>k2 w) (k2 w))
    (K (Value.tuple #[t58,Iw 0]) w)):=by
  intro X q p g mb w' hX h';refine Zaf (wcs X n fd.Start fd.Init.length q p g mb Sn) (by kernel_rfl) ?_;refine Yp (cs:=wcs X n fd.Start fd.Init.length q p g mb Sn) h' rfl λr w6 h6=>Za<|Zb h6 6 rfl (v:=x.fv) rfl ?_;have hi6:(blk r 162 (wcs X n fd.Start fd.Init.length q p g mb Sn)::Zag X::IsQ q []::Yf p 0 []::Yo g 0 []::Zaj kI kI mb []::blk b 25 x.cs::L)[i+7]?=some S:=hi;refine Zt h6 (i+7) hi6 (λ_ h=>(hr _ h).feds) ?_;have hxl:x.Feds.length<=8:=by have:=hn.2;omega
  refine Zdk (λmm t62 w=>∃(j:Nat) (m:List<|Int × Int),j<=x.Feds.length/\t62=Iw j/\mm=x.Feds.length - j/\Zr8 (ZdE<|(x.Feds.take j).map Zao.f) m/\m.length<=j/\Sat e w (Zaj kI kI mb m::BW r X n fd.Start fd.Init.length q p g mb Sn::Zag X::IsQ q []::Yf p 0 []::Yo g 0 []::blk b 25 x.cs::L)) x.Feds.length
   ⟨0,[],Nat.zero_le _,rfl,rfl,Zt8,Nat.le_refl _,h6.sn 7 [5,0,1,2,3,4,6]⟩ ?_
  rintro mm _ w7 g1 ⟨j,m,hj,rfl,rfl,hm,hml,h7⟩ hg1;have hi7:(Zaj kI kI mb m::BW r X n fd.Start fd.Init.length q p g mb Sn::Zag X::IsQ q []::Yf p 0 []::Yo g 0 []::blk b 25 x.cs::L)[i+7]?=some S:=hi;refine Za7 (λc=>Zi ?_)<|λc=>Zf ?_
  .obtain ⟨fj,hfj⟩:=Zk (l:=x.Feds) (j:=j) (by omega);have hfjm:=List.mem_of_getElem? hfj;have htl:((x.Feds.take j).map Zao.f).length=j:=by rw[List.length_map,List.length_take];omega
   have htk:(x.Feds.take<|j+1).map Zao.f=(x.Feds.take j).map Zao.f++[fj.f]:=by rw[Zx hfj,List.map_append];rfl
   refine J0.cut (λw=>∃m',Zr8 (ZdE<|(x.Feds.take<|j+1).map Zao.f) m'/\m'.length<=j+1/\Sat e w (Zaj kI kI mb m'::BW r X n fd.Start fd.Init.length q p g mb Sn::Zag X::IsQ q []::Yf p 0 []::Yo g 0 []::blk b 25 x.cs::L)) (λk2 hk2=>?_) ?_
   .refine Zw h7 (i+7) hi7 (λ_ h=>(hr _ h).feds) (λ_=>rfl) hfj λa ha=>Ym h7 (i+7) hi7 ha rfl ?_;rw[ZYE];refine Yp (cs:=[Iw 0,Iw 0,Iw 0,Sn,Sn,Sn,Sn]) h7 rfl λt10 w8 h8=>Zq h8 0 rfl (vs:=fj.cs) rfl rfl (by simp) (Zc1 i hi hS λg hg=>(hr g hg).fed fj hfjm) (cs':=fj.cs) (by rfl) λw9 h9=>?_;refine Za<|Zb h9 0 rfl (v:=Iw fj.Kind) rfl<|ZoR (λc2=>Zi ?_)<|λc2=>Zf ?_
    .refine Zh<|Za<|Zb h9 2 rfl (v:=.map<|some mb) rfl<|ZsG ZXX ZXY hm.u (h9.pick 1 rfl) (j:Int) 0 (vf:=kI) rfl λw10 h10=>hk2 _ ⟨upA m (j:Int) 0,?_,Nat.le_trans Zz4 (by omega),h10.sn 8 [0,2,3,4,5,6,7]⟩;rw[htk];have:=ZvR (g:=fj.f) hm c2 (by omega);rwa [htl] at this
    .refine hk2 _ ⟨m,?_,by omega,h9.drop⟩;rw[htk];exact Zxj hm c2
   .rintro w8 ⟨m',hm',hml',h8⟩;exact Qincs<|hg1 _ _ _ (by omega) ⟨j+1,m',by omega,rfl,rfl,hm',hml',h8⟩
  .have ej:j=x.Feds.length:=by omega
   rw[ej,List.take_length] at hm;have hms:Zr8 (ZiQ x.w).clk m:=hm;have h8:=h7.own_nil 129 7 Zak.cs;exact hok c1 n fd.f rfl hwf' hmay r _<|ZbQ (N:=ZiQ x.w) (X:=X) (q:=q) (p:=p) (g:=g) (b:=mb) (m:=m) (lv:=Sn) ⟨hX,ZxN hX hs,WOk.init hwd hwf' d3,hms⟩<|h8.sn 8 [2,4,5,6,3,1,0]
 have o4:∀{l':List HP} {w'} {A:Prop} (j jb:Nat),Sat e w' l'->l'[j]?=some S->l'[jb]?=some (blk b 25 x.cs)->A->
   ((ld1 (.pointer<|some p5) w'<|λv' w''=>v'=fd.iv/\w''=w')/\((ld1 (.pointer<|some ⟨b,0+1,none⟩) w'<|λv' w''=>v'=x.fv/\w''=w')/\((ld1 (.pointer<|some p3) w'<|λv' w''=>v'=Iw fd.Start/\w''=w')/\((ld1 (.pointer<|some ⟨b,0+1,none⟩) w'<|λv' w''=>v'=x.fv/\w''=w')/\A)))):=λj jb h' hj hb hA=>
  ⟨Yt h' j hj hp5 (v:=fd.iv) rfl ⟨rfl,rfl⟩,Zb h' jb hb (v:=x.fv) rfl ⟨rfl,rfl⟩,Yt h' j hj hp3 (v:=Iw fd.Start) rfl ⟨rfl,rfl⟩,Zb h' jb hb (v:=x.fv) rfl ⟨rfl,rfl⟩,hA⟩
 have oN:∀{l':List HP} {w'} (jb:Nat),Sat e w' l'->l'[jb]?=some (blk b 25 x.cs)->ldN 3 (pt b) w' (λv' w''=>v'=.agg x.cs.toArray/\w''=w'):=λjb h' hb=>Zo h' jb hb (vs:=x.cs) rfl (by rfl) ⟨rfl,rfl⟩;refine ⟨?_,?_⟩
 .refine Zjv (x:=x) (i+1) hi2 h4 hr hs λX w5 hX h5=>o4 (i+2) 1 h5 hi rfl ⟨?_,?_⟩
  .refine ZoH h5 λq w6 h6=>o4 (i+3) 2 h6 hi rfl ⟨?_,?_⟩
   .refine Zgk h6 λp w7 h7=>o4 (i+4) 3 h7 hi rfl ⟨?_,?_⟩
    .exact Zd9 h7 λg w8 h8=>o4 (i+5) 4 h8 hi rfl<|Zfx kI kI h8 λmb w9 h9=>o4 (i+6) 5 h9 hi rfl ⟨oN 5 h9 rfl,fin X q p g mb _ hX<|h9.sn 6 [4,3,2,1,0,5]⟩
    .exact Zfx kI kI h7 λmb w8 h8=>o4 (i+5) 4 h8 hi rfl ⟨oN 4 h8 rfl,Zd9 h8 λg w9 h9=>o4 (i+6) 5 h9 hi rfl<|fin X q p g mb _ hX<|h9.sn 6 [4,3,2,0,1,5]⟩
   .exact Zfx kI kI h6 λmb w7 h7=>o4 (i+4) 3 h7 hi rfl ⟨oN 3 h7 rfl,Zgk h7 λp w8 h8=>o4 (i+5) 4 h8 hi rfl<|Zd9 h8 λg w9 h9=>o4 (i+6) 5 h9 hi rfl<|fin X q p g mb _ hX<|h9.sn 6 [4,3,1,0,2,5]⟩
  .exact Zfx kI kI h5 λmb w6 h6=>o4 (i+3) 2 h6 hi rfl ⟨oN 2 h6 rfl,ZoH h6 λq w7 h7=>o4 (i+4) 3 h7 hi rfl<|Zgk h7 λp w8 h8=>o4 (i+5) 4 h8 hi rfl<|Zd9 h8 λg w9 h9=>o4 (i+6) 5 h9 hi rfl<|fin X q p g mb _ hX<|h9.sn 6 [4,2,1,0,3,5]⟩
 .exact Zfx kI kI h4 λmb w5 h5=>o4 (i+2) 1 h5 hi rfl ⟨oN 1 h5 rfl,Zjv (x:=x) (i+2) hi h5 hr hs λX w6 hX h6=>o4 (i+3) 2 h6 hi rfl<|ZoH h6 λq w7 h7=>o4 (i+4) 3 h7 hi rfl<|Zgk h7 λp w8 h8=>o4 (i+5) 4 h8 hi rfl<|Zd9 h8 λg w9 h9=>o4 (i+6) 5 h9 hi rfl<|fin X q p g mb _ hX<|h9.sn 6 [3,2,1,0,4,5]⟩
def bR0:Zsp:=⟨0,0,1,[⟨1,2,1⟩]⟩
def bR1:Zsp:=⟨1,0,0,[⟨1,3,5⟩,⟨1,4,7⟩]⟩
def bF0:Fed:=⟨1,2,0,[bR0,bR1],[1],[0],[]⟩
def bF1:Fed:=⟨1,1,0,[],[0],[1],[]⟩
def bF2:Fed:=⟨0,1,0,[],[0],[1],[]⟩
def ZZ0:Wd:=⟨[-1,-1],[bF0,bF1,bF2],200⟩
def B0:WN:=⟨[],[],[],0,[-1,-1,0]⟩
abbrev ZYr (N:WN) (j:Int) (i:Zn):HR:=ZbE ZZ0 0 bF0 N j i
structure ZY5 (all:List Msg) (N:WN):Prop where
 old:N.old=[]
 fl:N.fl=0
 clk:N.clk=[-1,-1,0]
 line:N.ms++N.q=all
 cls:∀m∈all,m.Class=0
theorem ZY5.init:ZY5 [] B0:=⟨rfl,rfl,rfl,rfl,λm h=>by cases h⟩
def Z1F (N:WN) (m:Msg):WN:=⟨N.old,ZbF m.key N.ms,Zkj m<|Yj m.key N.ms++N.q,N.fl,N.clk⟩
theorem ZY5.at1 {all:List Msg} {N:WN} (h:ZY5 all N):N.at' 1=-1:=by unfold WN.at';rw[h.clk];rfl
theorem ZY5.hear {all:List Msg} {N:WN} {k:Nat} (h:ZY5 all N) (hW:WOk ZZ0 0 bF0 N k) {m:Msg} {c:Int} (hm:0<=m.key.T) (hc:m.Class=0) (hne:∀y∈all,y.key≠m.key) (hl:all.length<64) :
  ZYr N 1 ⟨0,m,c⟩=⟨0,Zk4 ZZ0<|ZiU ZZ0 0 bF0 N m.key,Z1F N m⟩/\ZY5 (Zkj m all) (Z1F N m):=by
 have hline:=hW.line;have hlen:N.ms.length+N.q.length=all.length:=by rw[<-h.line,List.length_append]
 have hh:(Yj m.key N.ms).length<=N.ms.length:=List.length_filter_le ..;constructor
 .unfold ZYr;rw[Zvb (by refine ⟨by omega,?_,by omega⟩;show (1:Int)<((3:Nat):Int);omega)];show (if m.key.T<N.fl\/(0<=N.at' 1/\m.key.T<N.at' 1) then _ else if ZeQ m.key (N.ms++N.q)=true then _ else if 64<=N.q.length+(Yj m.key N.ms).length then _ else _)=_;have h1:=h.at1;have h2:=h.fl;rw[if_neg (by omega),h.line,if_neg (by rw[ZuS.2 hne];decide),if_neg (by omega)];rfl
 .refine ⟨h.old,h.fl,h.clk,?_,λy hy=>?_⟩
  .show ZbF m.key N.ms++Zkj m (Yj m.key N.ms++N.q)=_;rw[Zr1 hline,h.line]
  .rcases Zr9.1 hy with rfl | hy
   .exact hc
   .exact h.cls y hy
theorem ZY5.step {all:List Msg} {N:WN} (h:ZY5 all N) (he:Zcl ZZ0 0 bF0 N=0):ZY5 all (Zcv N):=by
 obtain ⟨⟨m,r,hq,_⟩,_,_⟩:=Zr5 he;rw[ZiD hq];refine ⟨h.old,h.fl,h.clk,?_,h.cls⟩;rw[<-h.line,hq];show (N.ms++[m])++r=_;simp
theorem Z2i:∀(l:List Msg) (s n:Int),(∀m∈l,m.Class=0)->s=0\/s=1->(ZjE bF0 (s,n) l).1=(s+l.length) % 2
 | [],s,n,_,hs=>by
  show s=(s+((0:Nat):Int)) % 2;omega
 | m::l,s,n,hc,hs=>by
  have h0:=hc m<|List.mem_cons_self ..;rcases hs with rfl | rfl
  .have e1:Zhz bF0 (0,n) m=(1,n+1):=by unfold Zhz;rw[h0];rfl
   show (ZjE bF0 (Zhz bF0 (0,n) m) l).1=_;rw[e1,Z2i l 1 (n+1) (λm hm=>hc m<|List.mem_cons_of_mem _ hm) (.inr rfl),List.length_cons];omega
  .have e1:Zhz bF0 (1,n) m=(0,n+2):=by unfold Zhz;rw[h0];rfl
   show (ZjE bF0 (Zhz bF0 (1,n) m) l).1=_;rw[e1,Z2i l 0 (n+2) (λm hm=>hc m<|List.mem_cons_of_mem _ hm) (.inl rfl),List.length_cons];omega
theorem ZY5.state {all:List Msg} {N:WN} (h:ZY5 all N):(N.now bF0).1=(N.ms.length:Int) % 2:=by
 unfold WN.now WN.base;rw[h.old];have:=Z2i N.ms 0 0 (λm hm=>h.cls m<|by rw[<-h.line];exact List.mem_append_left _ hm) (.inl rfl);rw[Int.zero_add] at this;exact this
theorem ZZJ {l:List Msg} {m:Msg} {p:Nat} (h:Place l m p) (hu:Upk l) (hne:∀y∈l,y.key≠m.key):ZCz l m p=Zkj m l:=
 Zuy (h.up hu hne) (Zrl hu hne) ((ZZj l m p).trans<|((ZcW m l).trans (List.perm_append_singleton m l).symm).symm)
theorem Z0O {t:Int} (h:0<=t/\t<x.Feds.length):∃(a:Nat) (fx:Zao),t=a/\x.Feds[a]?=some fx/\Zci x.w t=decide (fx.Kind=1):=by
 obtain ⟨fx,hfx⟩:=Zk (l:=x.Feds) (j:=t.toNat) (by omega);refine ⟨t.toNat,fx,by omega,hfx,?_⟩;unfold Zci;rw[if_pos h.1];simp only[WdX.w];rw[List.getElem?_map,hfx];rfl
theorem Z1q {st sent fl:Int} {q p g:Nat} {cv lv:Value} {ql:List Msg} {l:List En} {gl:List Yz} {key:Key} (i0:Nat) (hi0:Q[i0]?=some S) (hr:∀g,S g->ZtG x g) (hto:∀y∈l,∀m∈y.outs,0<=m.To/\m.To<x.Feds.length) (hgl:gl.length<=1000000)
  (hu:Upk<|(Zqh key l).map En.m++ql) (hql:ql.length<=100)
  (hS:Sat e w<|BR n x f st sent q p g cv lv::ZNs q 64 ql::ZVv p fl l::ZM8 g fl gl::Q)
  (hk:∀v w',Sat e w' (DI v (Zk4 x.w<|Zqh key l)::BR n x f (ZmN (st,sent) (Zqh key l).reverse).1 (ZmN (st,sent) (Zqh key l).reverse).2 q p g cv lv::ZNs q 64 ((Zqh key l).map En.m++ql)::ZVv p fl (Zmb key l)::ZM8 g fl (gl.filter λy=>!Zqc key y)::Q)->K v w') :
  Cl prog 171 #[pt n,.agg key.cs.toArray] w K:=by
 refine ZXj ?_;unfold ZWm;have hpo:ZkM l:=by
  obtain ⟨_,_,hp,_⟩:=ZWq<|hS.pick 2 rfl;exact hp.2
 refine Yp (cs:=key.cs) hS rfl λt3 w1 h1=>Zw3 h1 Zn.cs λt10 w2 h2=>ZaY h2 λw3 h3=>Zh<|Za<|Zb h3 2 rfl (v:=pt p) rfl<|Zo h3 1 (vs:=key.cs) rfl (by rfl) rfl ?_;refine ZZR (h3.pick 4 rfl) λv w4 h4=>?_;obtain ⟨xs,hxs,h5⟩:=Z03 h4;have hrr:(Zqh key l).map En.m=((Zqh key l).reverse.map En.m).reverse:=by rw[List.map_reverse,List.reverse_reverse]
 rw[hrr] at hu;have hk2:∀v w',Sat e w' (DI v ((Zqh key l).reverse.flatMap<|Zjg x.w)::BR n x f (ZmN (st,sent) (Zqh key l).reverse).1 (ZmN (st,sent) (Zqh key l).reverse).2 q p g cv lv::ZNs q 64 (((Zqh key l).reverse.map En.m).reverse++ql)::ZVv p fl (Zmb key l)::ZM8 g fl (gl.filter λy=>!Zqc key y)::Q)->K v w':=λv w' h=>hk v w' (by rw[hrr];exact h);clear hk hrr;generalize hrv:(Zqh key l).reverse=r at hxs hu hk2;have hrm:∀y∈r,y∈l:=λy hy=>by rw[<-hrv,List.mem_reverse] at hy;exact (List.mem_filter.1 hy).1
 have hrl:r.length<=64:=by rw[<-hrv,List.length_reverse];exact Nat.le_trans (List.length_filter_le _ _) hpo.len
 have hxl:xs.length=r.length:=by rw[<-hxs,List.length_map]
 have hgx:∀{j:Nat} {y:EnX},xs[j]?=some y->r[j]?=some y.e:=λhx=>by rw[<-hxs,List.getElem?_map,hx];rfl
 have hlen:∀j,((r.take j).flatMap<|Zjg x.w).length<=64000:=λj=>by
  have h0:=Zt7 (Zjg x.w) 1000 (r.take j) λy hy=>Nat.le_trans (ZuN x.w y)<|hpo.outs y<|hrm y<|List.mem_of_mem_take hy;have h1:(r.take j).length<=64:=by rw[List.length_take];omega
  omega
 replace h5:Sat e w4 (DER v xs::Yh (xs.map ZcP)::ZVv p fl (Zmb key l)::DI t10 []::blk t3 83 key.cs::BR n x f st sent q p g cv lv::ZNs q 64 ql::ZM8 g fl gl::Q):=h5
 refine ZjF (λmm t5 t7 w=>∃j:Nat,j<=r.length/\t7=Iw j/\mm=r.length - j/\Sat e w (DI t5 ((r.take j).flatMap<|Zjg x.w)::BR n x f (ZmN (st,sent)<|r.take j).1 (ZmN (st,sent)<|r.take j).2 q p g cv lv::ZNs q 64 (((r.take j).map En.m).reverse++ql)::DER v xs::Yh (xs.map ZcP)::ZVv p fl (Zmb key l)::ZM8 g fl gl::blk t3 83 key.cs::Q)) r.length
  ⟨0,Nat.zero_le _,rfl,rfl,h5.sn 8 [3,5,6,0,1,2,7,4]⟩ ?_
 rintro mm t5 _ w g1 ⟨j,hj,rfl,rfl,h6⟩ hg1;refine Qln h6 3 rfl<|Za7 (λc=>Zi ?_)<|λc=>Zf ?_
 .obtain ⟨y,hx⟩:=Zk (l:=xs) (j:=j) (by omega);have hxm:=List.mem_of_getElem? hx;have hxe:=hgx hx;have hxl':=hrm y.e<|List.mem_of_getElem? hxe;have hol:y.outs.length<=1000:=hpo.outs y.e hxl';have hxt:∀m∈y.outs,0<=m.To/\m.To<x.Feds.length:=hto y.e hxl';have hts:=Zx hxe;refine Qix h6 3 rfl hx λa ha=>Zbd ha λa1 ha1=>Yt h6 3 rfl ha1 (v:=Iw y.ahead) rfl (Zh<|Za<|Zq h6 1 rfl (vs:=Yi [y.ahead]) rfl rfl (Nat.le_of_ble_eq_true rfl) (Zg _) (cs':=rws x f y.ahead (ZmN (st,sent)<|r.take j).2 q p g cv lv) (by rfl) λw7 h7=>?_)
  replace h7:Sat e w7 (DI t5 ((r.take j).flatMap<|Zjg x.w)::BR n x f y.ahead (ZmN (st,sent)<|r.take j).2 q p g cv lv::ZNs q 64 (((r.take j).map En.m).reverse++ql)::DER v xs::Yh (xs.map ZcP)::ZVv p fl (Zmb key l)::ZM8 g fl gl::blk t3 83 key.cs::Q):=h7
  refine Qix h7 3 rfl hx λa ha=>Zbd ha λa1 ha1=>Yt h7 3 rfl ha1 (v:=Iw y.sent) rfl (Zh<|Za<|Zq h7 1 rfl (vs:=Yi [y.sent]) rfl rfl (Nat.le_of_ble_eq_true rfl) (Zg _) (cs':=rws x f y.ahead y.sent q p g cv lv) (by rfl) λw8 h8=>?_)
  replace h8:Sat e w8 (DI t5 ((r.take j).flatMap<|Zjg x.w)::BR n x f y.ahead y.sent q p g cv lv::ZNs q 64 (((r.take j).map En.m).reverse++ql)::DER v xs::Yh (xs.map ZcP)::ZVv p fl (Zmb key l)::ZM8 g fl gl::blk t3 83 key.cs::Q):=h8
  obtain ⟨qv,h9⟩:=ZYW (h8.pick 2 rfl)
  replace h9:Sat e w8 (blk q 233 [Iw 64,qv]::Zz 85 6 Msg.cs qv (((r.take j).map En.m).reverse++ql)::DI t5 ((r.take j).flatMap<|Zjg x.w)::BR n x f y.ahead y.sent q p g cv lv::DER v xs::Yh (xs.map ZcP)::ZVv p fl (Zmb key l)::ZM8 g fl gl::blk t3 83 key.cs::Q):=h9
  refine ZaY h9 λw9 h10=>Zh<|Za<|Zb h10 3 rfl (v:=pt q) rfl<|Zh<|Za<|Zb h10 3 rfl (v:=pt q) rfl<|Zh<|Za<|Zb h10 0 rfl (v:=qv) rfl<|Qix h10 4 rfl hx λa ha=>Zbd ha λa1 ha1=>Zn0 h10 4 rfl ha1 (us:=y.m.cs) rfl rfl ?_;have hcl:(((r.take j).map En.m).reverse++ql).length<=1000:=by rw[List.length_append,List.length_reverse,List.length_map,List.length_take];omega
  have hnew:((r.take<|j+1).map En.m).reverse++ql=y.m::(((r.take j).map En.m).reverse++ql):=by
   rw[hts,List.map_append,List.reverse_append];rfl
  have hupj:Upk (((r.take<|j+1).map En.m).reverse++ql):=by
   have h0:(r.map En.m).reverse++ql=((r.drop<|j+1).map En.m).reverse++(((r.take<|j+1).map En.m).reverse++ql):=by
    conv=>lhs;rw[<-List.take_append_drop (j+1) r]
    rw[List.map_append,List.reverse_append,List.append_assoc]
   rw[h0] at hu;exact hu.right
  rw[hnew] at hupj;obtain ⟨hlow,hupq⟩:=List.pairwise_cons.1 hupj;refine ZX4 (by omega) (h10.pick 1 rfl) (λ_=>Zp) λv55 pl w10 hpl h11=>?_;rw[ZZJ hpl hupq<|λz hz he=>Zv.irrefl y.m.key (by have:=hlow z hz;rwa [he] at this),Zwv hlow,<-hnew] at h11
  replace h11:Sat e w10 (Zz 85 6 Msg.cs v55 (((r.take<|j+1).map En.m).reverse++ql)::Zz 85 6 Msg.cs qv (((r.take j).map En.m).reverse++ql)::blk q 233 [Iw 64,qv]::DI t5 ((r.take j).flatMap<|Zjg x.w)::BR n x f y.ahead y.sent q p g cv lv::DER v xs::Yh (xs.map ZcP)::ZVv p fl (Zmb key l)::ZM8 g fl gl::blk t3 83 key.cs::Q):=h11
  refine ⟨Zb h11 4 rfl (v:=pt q) rfl ⟨rfl,rfl⟩,?_⟩;have q1:=h11.own_cells 0 rfl;refine Zh<|Za<|Zq h11 2 rfl (vs:=[v55]) q1.1 rfl (Nat.le_of_ble_eq_true rfl) (λc hc=>by rw[List.mem_singleton.1 hc];exact q1.2) (cs':=[Iw 64,v55]) (by rfl) λw11 h12=>?_;have h13:=ZNr (q:=q) (room:=64) (v:=v55) (l:=((r.take<|j+1).map En.m).reverse++ql)<|h12.sn 10 [2,0,3,4,5,6,7,8,9];refine ZjF (λmm t5' t8 w=>∃i:Nat,i<=y.outs.length/\t8=Iw i/\mm=y.outs.length - i/\Sat e w (DI t5' ((r.take j).flatMap (Zjg x.w)++((y.outs.take i).filter λm=>Zci x.w m.To).map Zs1)::BR n x f y.ahead y.sent q p g cv lv::ZNs q 64 (((r.take<|j+1).map En.m).reverse++ql)::DER v xs::Yh (xs.map ZcP)::ZVv p fl (Zmb key l)::ZM8 g fl gl::blk t3 83 key.cs::Q)) y.outs.length
   ⟨0,Nat.zero_le _,rfl,rfl,?_⟩ ?_
  .rw[List.take_zero,List.filter_nil,List.map_nil,List.append_nil];exact h13.sn 3 [1,2,0]
  rintro mm t5' _ w g2 ⟨i,hi,rfl,rfl,h14⟩ hg2;refine Qix h14 3 rfl hx λa ha=>Zbd ha λa1 ha1=>Yt h14 3 rfl ha1 (v:=y.ov) rfl<|Zt h14 4 rfl (Zxw hxm)<|Za7 (λc2=>Zi ?_)<|λc2=>Zf ?_
  .obtain ⟨m,hm⟩:=Zk (l:=y.outs) (j:=i) (by omega);have hmt:=hxt m<|List.mem_of_getElem? hm;have hfs:=Zdw (p:=λm=>Zci x.w m.To) hm;obtain ⟨tn,fx,htn,hfx,hbo⟩:=Z0O hmt;refine J1.cut (λt5'' w=>Sat e w<|DI t5'' ((r.take j).flatMap (Zjg x.w)++((y.outs.take<|i+1).filter λm=>Zci x.w m.To).map Zs1)::BR n x f y.ahead y.sent q p g cv lv::ZNs q 64 (((r.take<|j+1).map En.m).reverse++ql)::DER v xs::Yh (xs.map ZcP)::ZVv p fl (Zmb key l)::ZM8 g fl gl::blk t3 83 key.cs::Q) (λk4 hcut=>?_)<|λt5'' w15 h15=>?_
   .refine Qix h14 3 rfl hx λa ha=>Zbd ha λa1 ha1=>Yt h14 3 rfl ha1 (v:=y.ov) rfl<|Zw h14 4 rfl (Zxw hxm) (λ_=>rfl) hm λa ha=>Ym h14 4 rfl ha rfl ?_;rw[ZOc];refine Yp (cs:=Msg.zero.cs) h14 rfl λt9 w15 h15=>Zq h15 0 rfl (vs:=m.cs) rfl rfl (by decide) (Zg _) (cs':=m.cs) (by rfl) λw16 h16=>?_
    replace h16:Sat e w16 (blk t9 85 m.cs::DI t5' ((r.take j).flatMap (Zjg x.w)++((y.outs.take i).filter λm=>Zci x.w m.To).map Zs1)::BR n x f y.ahead y.sent q p g cv lv::ZNs q 64 (((r.take<|j+1).map En.m).reverse++ql)::DER v xs::Yh (xs.map ZcP)::ZVv p fl (Zmb key l)::ZM8 g fl gl::blk t3 83 key.cs::Q):=h16
    refine ZaY h16 λw17 h17=>Zh<|Za<|Za<|Zb h17 2 rfl (v:=x.fv) rfl<|Za<|Zb h17 0 rfl (v:=Iw (tn:Int)) (by rw[<-htn];rfl) ?_;refine Zw h17 (i0+9) hi0 (λ_ h=>(hr _ h).feds) (λ_=>rfl) hfx λa ha=>Zbd ha λa1 ha1=>Yt h17 (i0+9) hi0 ha1 (v:=Iw fx.Kind) rfl<|ZBD ?_;rw[<-hbo];cases hb:Zci x.w m.To with
    | false=>
     refine Zf<|hcut _ _ ?_;rw[hfs,hb];simp only[Bool.false_eq_true,if_false,List.append_nil];exact h17.drop
    | true=>
     refine Zi<|Zo h17 0 (vs:=m.cs) rfl (by rfl) rfl ?_;refine Zaf (Zs1 m).cs (by kernel_rfl) ?_;refine Zj7 ZW8 (f:=Zn.cs) (λ_=>rfl) (λ_=>Zg _) (h17.pick 1 rfl) (x:=Zs1 m) rfl ?_ λv' w18 h18=>?_
     .have h0:=hlen j;have h2:=List.length_filter_le (λm=>Zci x.w m.To)<|y.outs.take i;rw[List.length_take] at h2;rw[List.length_append,List.length_map];omega
     .refine hcut _ _ ?_;rw[hfs,hb];simp only[if_true,List.map_append,List.map_singleton];rw[<-List.append_assoc];exact h18.sn 9 [0,2,3,4,5,6,7,8]
   .exact Qincs<|hg2 _ _ _ _ (by omega) ⟨i+1,by omega,rfl,rfl,h15⟩
  .have ei:i=y.outs.length:=by omega
   rw[ei,List.take_length] at h14;refine Qincs<|hg1 _ _ _ _ (by omega) ⟨j+1,by omega,rfl,rfl,?_⟩;rw[hts,ZnD,List.flatMap_append,<-hts];rw[show [y.e].flatMap (Zjg x.w)=(y.outs.filter λm=>Zci x.w m.To).map Zs1 from List.append_nil _];exact h14
 .have ej:j=r.length:=by omega
  rw[ej,List.take_length] at h6;refine ZaY h6 λw7 h7=>Zh<|Za<|Zb h7 1 rfl (v:=pt g) rfl<|Zo h7 7 (vs:=key.cs) rfl (by rfl) rfl ?_;exact ZZO key (h7.pick 6 rfl) hgl λv8 w8 h8=>hk2 _ _<|h8.sn 9 [2,3,4,7,1]
theorem Z1C (h:WOk x.w f fd N k):∀y∈N.past x.w f fd,∀m∈y.outs,0<=m.To/\m.To<x.Feds.length:=λy hy m hm=>by
 obtain ⟨b,hb⟩:=(Zdm hy).2;rw[hb] at hm;have:=(ZnV h.may h.hfd b y.m).2 m hm;rw[Z1d];exact ⟨this.1,this.2.1⟩
theorem ZZ3 {st sent:Int} {q p g:Nat} {cv lv:Value} {key:Key} (i0:Nat) (hi0:Q[i0]?=some S) (hr:∀g,S g->ZtG x g) (hW:WOk x.w f fd N k) (hst:(st,sent)=N.now fd)
  (hS:Sat e w<|BR n x f st sent q p g cv lv::ZNs q 64 N.q::ZVv p N.fl (N.past x.w f fd)::ZM8 g N.fl (Yq x.w<|N.past x.w f fd)::Q)
  (hk:∀v w',Sat e w' (DI v (Zk4 x.w<|ZiU x.w f fd N key)::BR n x f (ZjE fd (N.base fd)<|ZbF key N.ms).1 (ZjE fd (N.base fd)<|ZbF key N.ms).2 q p g cv lv::ZNs q 64 (Yj key N.ms++N.q)::ZVv p N.fl (Zc8 x.w f fd (N.base fd)<|ZbF key N.ms)::ZM8 g N.fl (Yq x.w<|Zc8 x.w f fd (N.base fd)<|ZbF key N.ms)::Q)->K v w') :
  Cl prog 171 #[pt n,.agg key.cs.toArray] w K:=by
 have hg:=Znt hW key;have hm:(Zqh key<|N.past x.w f fd).map En.m=Yj key N.ms:=by rw[hg];exact Zlh ..
 refine Z1q i0 hi0 hr (Z1C hW) (ZiV hW) (by rw[hm];exact ZnK hW key) (by have:=hW.ql;omega) hS λv w' h=>hk v w' ?_;rw[hm,hg,hst,ZpX hW key,ZjY hW key,Zmw hW key] at h;exact h
theorem Z1S (h:WOk x.w f fd N k) {j:Nat} (hj:j<x.w.Feds.length):∃t,N.clk[j]?=some t/\N.at' (j:Int)=t:=by
 obtain ⟨t,ht⟩:=Zk (l:=N.clk) (j:=j) (by rw[h.clen];exact hj);refine ⟨t,ht,?_⟩;unfold WN.at';rw[if_pos (by omega),Int.toNat_natCast,List.getD_eq_getElem?_getD,ht];rfl
theorem ZYU {q:Nat} {room:Int} {l:List Msg} {key:Key} (hl:l.length<=1000) (hu:Upk l) (hS:Sat e w<|ZNs q room l::R) (hk:∀v w',Sat e w' (ZNs q room (without l key)::R)->K v w'):Cl prog 173 #[pt q,.agg key.cs.toArray] w K:=by
 cases hh:ZeQ key l with
 | false=>
  have hno:=ZuS.1 hh;refine ZYC hl hno hS λw2 h2=>hk _ _ ?_;rw[Zkv hno];exact h2
 | true=>
  obtain ⟨y,hy,rfl⟩:=Zgl.1 hh;exact ZY7 hl hy hu.nodup hS λw2 h2=>hk _ _ h2
theorem Z0o (key:Key):((N.past x.w f fd).any λy=>decide<|y.m.key=key)=ZeQ key N.ms:=by
 have h1:=Zlh x.w f fd N.ms<|N.base fd;unfold ZeQ
 conv=>rhs;rw[<-h1]
 rw[List.any_map];rfl
theorem ZZM (h:WOk x.w f fd N k) (key:Key):(Zqh key<|N.past x.w f fd).length=(Yj key N.ms).length:=by
 rw[Znt h];exact ZbA ..
theorem Z1b {j:Int} {i:Zn} (i0:Nat) (hi0:Q[i0]?=some S) (hr:∀g,S g->ZtG x g) (hS:Sat e w<|ZYz n x f fd N k::Q) (hk:∀v w',Sat e w' (DI v (ZbE x.w f fd N j i).out::ZYz n x f fd (ZbE x.w f fd N j i).N k::Q)->K (.tuple #[v,Iw (ZbE x.w f fd N j i).e]) w') :
  Cl prog 112 #[pt n,Iw j,.agg i.cs.toArray] w K:=by
 have hW:=Z18 0 hS rfl;have hN':=hW.hear j i;generalize hR:ZbE x.w f fd N j i=R at hk hN';refine ZXA ?_;unfold ZWA;rw[Z0i];refine Yp (cs:=i.cs) hS rfl λt5 w1 hs1=>?_;have bad:∀(er:Int) (w':World),R=⟨er,[],N⟩->Sat e w' (ZYz n x f fd N k::Q)->K (.tuple #[Sn,Iw er]) w':=by
  rintro er w' rfl h;exact hk _ _<|h.own_nil 88 8 Zn.cs
 have badj:¬(0<=j/\j<x.w.Feds.length/\j≠f)->K (.tuple #[Sn,Iw 1]) w1:=λhn=>bad 1 _ (by rw[<-hR];exact if_pos hn) hs1.drop;obtain ⟨q,p,g,cv,lv,_,hs2⟩:=ZYB hs1.swap;have hi7:∀{A1 A2 A3 A4 A5 A6 A7:HP},(A1::A2::A3::A4::A5::A6::A7::Q)[i0+7]?=some S:=λ{_ _ _ _ _ _ _}=>by simpa using hi0
 by_cases d1:j<0
 .exact Ztt d1<|Zd<|Zd<|Zd<|Zd<|Zd<|Zd<|Zd<|Zd<|Yv<|Zd<|Zd<|Zd<|Zd<|Zd<|Zd<|Yv<|Zi<|badj (λh=>by omega)
 obtain ⟨jn,hjn⟩:∃jn:Nat,j=jn:=⟨j.toNat,by omega⟩;refine Ze7 d1<|Zj<|Zj<|Zj<|Zwz<|Zj<|Za<|Zj<|Za<|Zj<|Zb hs2 0 rfl (v:=x.fv) rfl<|Zj<|Zt hs2 (i0+7) hi7 (λ_ h=>(hr _ h).feds) ?_;by_cases d2:(x.Feds.length:Int)<=j
 .exact Zj<|Zqv d2<|Yd<|Zd<|Zd<|Zd<|Zd<|Zd<|Zd<|Yv<|Zi<|badj (λh=>by have:=Z1d (x:=x);omega)
 refine Zj<|ZnR d2<|Yd<|Zj<|Zj<|Zj<|Zwz<|Zj<|Za<|Zj<|Zb hs2 0 rfl (v:=Iw f) rfl<|Zj ?_;by_cases d3:j=f
 .exact Znq d3<|Yd<|Zi<|badj λh=>h.2.2 d3
 refine Zd8 d3<|Yd<|Zf ?_;have hargs:0<=j/\j<x.w.Feds.length/\j≠f:=⟨by omega,by have:=Z1d (x:=x);omega,d3⟩;have hRR:=Zvb (fd:=fd) (N:=N) (i:=i) hargs;rw[hR] at hRR;obtain ⟨ct,hct,hat⟩:=Z1S hW (j:=jn) (by omega);rw[<-hjn] at hat;subst hjn;clear badj hs2;have hs3:=hs1.swap;refine Za<|Za<|Zo hs3 1 (vs:=i.m.key.cs) rfl (by rfl) rfl ?_;refine Yp (cs:=Yi [0,0,0]) hs3 rfl λt8 w2 hs4=>Zq hs4 0 rfl (vs:=i.m.key.cs) rfl rfl (by decide) (Zg _) (cs':=i.m.key.cs) (by rfl) λw3 hs5=>?_
 replace hs5:Sat e w3 (ZYz n x f fd N k::blk t8 83 i.m.key.cs::blk t5 88 i.cs::Q):=hs5.swap
 obtain ⟨q,p,g,cv,lv,_,h6⟩:=ZYB hs5;clear hs1 hs3 hs4;have hback:∀{w'},Sat e w' (ZYz n x f fd N k::blk t8 83 i.m.key.cs::blk t5 88 i.cs::Q)->Sat e w' (ZYz n x f fd N k::Q):=λh=>h.sn 3 [0];refine Za (Zb h6 7 rfl (v:=Iw i.Kind) rfl<|ZoR (λc1=>Zi ?_)<|λc1=>Zf ?_)
 .-- a bound
  rw[if_pos c1] at hRR;refine Zh<|Za<|Zb h6 0 rfl (v:=cv) rfl<|Qix h6 4 rfl hct λa ha=>Yt h6 4 rfl ha (v:=Iw ct) rfl<|Za7 (λc2=>?_)<|λc2=>?_
  .rw[if_pos (.inl<|by omega)] at hRR;exact Zd<|Zd<|Zd<|Zd<|Yv<|Zi<|bad 1 _ hRR<|hback hs5
  refine Zj<|Za<|Zj<|Zb h6 6 rfl (v:=Iw i.m.key.T) rfl<|Zj<|ZXH<|Zj ?_;cases hval:Yu i.m.key.T with
  | false=>
   rw[if_pos (.inr hval)] at hRR;exact Zch (Yd<|Zi<|bad 1 _ hRR<|hback hs5)
  | true=>
   rw[if_neg<|λh=>h.elim (λh=>by omega) (λh=>by rw[hval] at h;cases h)] at hRR;refine ZaJ<|Yd<|Zf<|ZaY hs5 λw4 hs6=>?_;clear h6;obtain ⟨q,p,g,cv,lv,_,h6⟩:=ZYB hs6;refine Za<|Zb h6 6 rfl (v:=Iw i.m.key.T) rfl<|Zh<|Za<|Zb h6 0 rfl (v:=cv) rfl<|Qix h6 4 rfl hct λa ha=>Yt h6 4 rfl ha (v:=Iw ct) rfl<|Za7 (λc3=>Zi ?_)<|λc3=>Zf ?_
   .rw[if_pos (by omega)] at hRR;exact bad 110 _ hRR<|hback hs6
   .rw[if_neg (by omega)] at hRR;refine ZaY h6 λw5 h7=>Zh<|Za<|Zb h7 0 rfl (v:=cv) rfl<|Za<|Zb h7 6 rfl (v:=Iw i.m.key.T) rfl<|ZdJ h7 4 rfl (λ_=>rfl) (by rw[hW.clen];omega) (x:=i.m.key.T) rfl (Zmu _) λw6 h8=>?_;subst hRR;have h9:=ZYg (N:=⟨N.old,N.ms,N.q,N.fl,N.clk.set (jn:Int).toNat i.m.key.T⟩) (x:=x) (q:=q) (p:=p) (g:=g) (cv:=cv) (lv:=lv) hN'<|h8.sn 8 [0,1,2,3,4,5];exact hk _ _<|h9.own_nil 88 8 Zn.cs
 rw[if_neg c1] at hRR;refine ZoR (λc2=>Zi ?_) (λc2=>Zf ?_)
 .-- a message
  rw[if_pos c2] at hRR;refine Zo h6 6 (vs:=i.m.key.cs) rfl (by rfl) rfl ?_;refine Z0y (key:=i.m.key) (h6.sn 3 [0,2,1]) λw4 h7=>?_
  replace h7:Sat e w4 (BR n x f (N.now fd).1 (N.now fd).2 q p g cv lv::ZNs q 64 N.q::ZVv p N.fl (N.past x.w f fd)::ZM8 g N.fl (Yq x.w<|N.past x.w f fd)::DN cv N.clk::DD lv (N.log x.w f fd)::blk t8 83 i.m.key.cs::blk t5 88 i.cs::Q):=h7.sn 3 [0,2,1]
  rw[Z0o,ZZM hW];refine Zam<|Zal<|ZaY h7 λw5 h8=>Za<|Zb h8 6 rfl (v:=Iw i.m.key.T) rfl<|Zh<|Za<|Zb h8 0 rfl (v:=pt p) rfl ?_;obtain ⟨pv,xs,hp,h9⟩:=ZWq<|h8.pick 2 rfl;refine Zh<|Za<|Zb h9 0 rfl (v:=Iw N.fl) rfl ?_;have same8:Sat e w5 (ZYz n x f fd N k::Q):=hback<|ZYg hW h8;refine Za7 (λc3=>?_)<|λc3=>?_
  .rw[if_pos (.inl c3)] at hRR;exact Zd<|Zd<|Zd<|Zd<|Zd<|Zd<|Zd<|Zd<|Zd<|Zrb<|Zrb<|Zrb<|Zrb<|Zrb<|Zrb<|Zrb<|Zrb<|Zrb<|Zrb<|Zd<|Yv<|Zi<|bad 110 _ hRR same8
  have after:¬(0<=N.at' jn/\i.m.key.T<N.at' jn)->
    gd (.bool<|ZeQ i.m.key N.ms) false (λk=>k (pt n) w5) w5 λt116 w=>gd (.bool<|ZeQ i.m.key N.ms) false (λk=>ldN 3 (pt t8) w k) w λt117 w=>gd (.bool<|ZeQ i.m.key N.ms) false (λk=>Cl prog 169 #[t116,t117] w k) w λt118 w=>pk (.bool<|ZeQ i.m.key N.ms) Bt t118 w λt119 w=>Zr t119
    (K (Value.tuple #[Sn,Iw 3]) w)
    (ncP (pt n)<|fld 6 (pt n) w λt122 w=>ld1 t122 w λt123 w=>Cl prog 170 #[t123] w λt124 w=>bi .add .i64 t124 (Iw ((Yj i.m.key N.ms).length:Int)) w λt126 w=>bi .add .i64 t126 (Iw 1) w λt127 w=>bi .gtr .i64 t127 (Iw 64) w λt128 w=>Zr t128
    (K (Value.tuple #[Sn,Iw 2]) w)
    (ldN 3 (pt t8) w λt130 w=>Cl prog 171 #[pt n,t130] w λt131 w=>dr w λw=>
     ncP (pt n)<|fld 6 (pt n) w λt134 _=>ld1 t134 w λt135 _=>ncP (pt n)<|fld 6 (pt n) w λt138 _=>ld1 t138 w λt139 _=>ncP t139<|fld 1 t139 w λt141 _=>ld1 t141 w λt142 _=>fld 1 (pt t5) w λt143 _=>ldN 6 t143 w λt144 _=>Cl prog 172 #[t142,t144] w λt145 w=>
     (ld1 t134 w<|λv' w''=>v'=t135/\w''=w)/\(ncP t135<|fld 1 t135 w λt147 _=>stN 1 t147 t145 w λ_ w=>K (Value.tuple #[t131,Iw 0]) w))):=by
   intro cno;rw[if_neg (show ¬(i.m.key.T<N.fl\/(0<=N.at' jn/\i.m.key.T<N.at' jn)) from λh=>h.elim c3 cno)] at hRR;have happ:ZeQ i.m.key (N.ms++N.q)=(ZeQ i.m.key N.ms || ZeQ i.m.key N.q):=List.any_append;rw[happ] at hRR;have hql:=hW.ql;have hml:(Yj i.m.key N.ms).length<=64:=Nat.le_trans (List.length_filter_le _ _) hW.ml;cases hms:ZeQ i.m.key N.ms with
   | true=>
    rw[hms,Bool.true_or,if_pos rfl] at hRR;exact Zd (Zd<|Zd<|Yv<|Zi<|bad 3 _ hRR same8)
   | false=>
    rw[hms,Bool.false_or] at hRR;refine Zj<|Zj<|Zo h8 6 (vs:=i.m.key.cs) rfl (by rfl) rfl<|Zj<|Z0I (by omega) h8 λw6 h10=>?_;cases hq:ZeQ i.m.key N.q with
    | true=>
     rw[hq,if_pos rfl] at hRR;exact Yd (Zi<|bad 3 _ hRR<|hback<|ZYg hW h10)
    | false=>
     rw[hq,if_neg (by decide)] at hRR;refine Yd<|Zf<|Zh<|Za<|Zb h10 0 rfl (v:=pt q) rfl<|ZYZ (h10.pick 1 rfl)<|Qadds<|Qadds<|Ztu (λc4=>Zi ?_)<|λc4=>Zf ?_
     .rw[if_pos (by omega)] at hRR;exact bad 2 _ hRR<|hback<|ZYg hW h10
     .rw[if_neg (by omega)] at hRR;refine Zo h10 6 (vs:=i.m.key.cs) rfl (by rfl) rfl ?_;refine ZZ3 (key:=i.m.key) (i0+4) hi0 hr hW rfl h10 λv w7 h11=>ZaY h11 λw8 h12=>Zh<|Za<|Zb h12 1 rfl (v:=pt q) rfl<|Zh<|Za<|Zb h12 1 rfl (v:=pt q) rfl ?_;obtain ⟨qv,h13⟩:=ZYW (h12.pick 2 rfl)
      replace h13:Sat e w8 (blk q 233 [Iw 64,qv]::Zz 85 6 Msg.cs qv (Yj i.m.key N.ms++N.q)::DI v (Zk4 x.w<|ZiU x.w f fd N i.m.key)::BR n x f (ZjE fd (N.base fd)<|ZbF i.m.key N.ms).1 (ZjE fd (N.base fd)<|ZbF i.m.key N.ms).2 q p g cv lv::ZVv p N.fl (Zc8 x.w f fd (N.base fd)<|ZbF i.m.key N.ms)::ZM8 g N.fl (Yq x.w<|Zc8 x.w f fd (N.base fd)<|ZbF i.m.key N.ms)::DN cv N.clk::DD lv (N.log x.w f fd)::blk t8 83 i.m.key.cs::blk t5 88 i.cs::Q):=h13
      refine Zh<|Za<|Zb h13 0 rfl (v:=qv) rfl<|Za<|Zo h13 9 (vs:=i.m.cs) rfl (by rfl) rfl ?_;refine ZX4 (by rw[List.length_append];omega) (h13.pick 1 rfl) (λ_=>Zp) λv55 pl w9 hpl h14=>?_;have hne:∀z∈Yj i.m.key N.ms++N.q,z.key≠i.m.key:=λz hz=>by
       rcases List.mem_append.1 hz with hz | hz
       .exact ZuS.1 hms z (List.mem_filter.1 hz).1
       .exact ZuS.1 hq z hz
      rw[ZZJ hpl (ZnK hW i.m.key) hne] at h14
      replace h14:Sat e w9 (Zz 85 6 Msg.cs v55 (Zkj i.m<|Yj i.m.key N.ms++N.q)::Zz 85 6 Msg.cs qv (Yj i.m.key N.ms++N.q)::blk q 233 [Iw 64,qv]::DI v (Zk4 x.w<|ZiU x.w f fd N i.m.key)::BR n x f (ZjE fd (N.base fd)<|ZbF i.m.key N.ms).1 (ZjE fd (N.base fd)<|ZbF i.m.key N.ms).2 q p g cv lv::ZVv p N.fl (Zc8 x.w f fd (N.base fd)<|ZbF i.m.key N.ms)::ZM8 g N.fl (Yq x.w<|Zc8 x.w f fd (N.base fd)<|ZbF i.m.key N.ms)::DN cv N.clk::DD lv (N.log x.w f fd)::blk t8 83 i.m.key.cs::blk t5 88 i.cs::Q):=h14
      refine ⟨Zb h14 4 rfl (v:=pt q) rfl ⟨rfl,rfl⟩,?_⟩;have q1:=h14.own_cells 0 rfl;refine Zh<|Za<|Zq h14 2 rfl (vs:=[v55]) q1.1 rfl (Nat.le_of_ble_eq_true rfl) (λc hc=>by rw[List.mem_singleton.1 hc];exact q1.2) (cs':=[Iw 64,v55]) (by rfl) λw10 h15=>?_;have h16:=ZNr (q:=q) (room:=64) (v:=v55) (l:=Zkj i.m<|Yj i.m.key N.ms++N.q)<|h15.sn 11 [2,0,3,4,5,6,7,8];subst hRR;have h17:=ZYg (n:=n) (N:=⟨N.old,ZbF i.m.key N.ms,Zkj i.m<|Yj i.m.key N.ms++N.q,N.fl,N.clk⟩) (x:=x) (q:=q) (p:=p) (g:=g) (cv:=cv) (lv:=lv) hN'<|h16.sn 7 [2,0,3,4,5,6,1];exact hk _ _ h17.swap
  refine Zj<|Zj<|Zwz<|Zj<|Za<|Zj<|Zb h8 0 rfl (v:=cv) rfl<|Zj<|Zj<|Qix h8 4 rfl hct λa ha=>Zj<|Yt h8 4 rfl ha (v:=Iw ct) rfl<|Zj<|Zu5 (λc4=>Zj ?_)<|λc4=>Zj ?_
  .refine Ze<|Za<|Ze<|Zb h8 6 rfl (v:=Iw i.m.key.T) rfl<|Ze<|Ze<|Zwz<|Ze<|Za<|Ze<|Zb h8 0 rfl (v:=cv) rfl<|Ze<|Ze<|Qix h8 4 rfl hct λa ha=>Ze<|Yt h8 4 rfl ha (v:=Iw ct) rfl<|Ze<|Za7 (λc5=>Zj<|Yv<|Yd<|Zi ?_)<|λc5=>Zj<|Yv<|Yd<|Zf ?_
   .rw[if_pos (.inr ⟨by omega,by omega⟩)] at hRR;exact bad 110 _ hRR same8
   .exact after λh=>by omega
  .exact Zu<|Zu<|Zu<|Zu<|Zu<|Zu<|Zu<|Zu<|Zu<|Zu<|Zj<|Yd<|Yd<|Zf (after λh=>by omega)
 rw[if_neg c2] at hRR;refine ZoR (λc3=>Zi ?_)<|λc3=>Zf ?_
 .rw[if_pos c3] at hRR;refine Zo h6 6 (vs:=i.m.key.cs) rfl (by rfl) rfl ?_;refine Z0y (key:=i.m.key) (h6.sn 3 [0,2,1]) λw4 h7=>?_
  replace h7:Sat e w4 (BR n x f (N.now fd).1 (N.now fd).2 q p g cv lv::ZNs q 64 N.q::ZVv p N.fl (N.past x.w f fd)::ZM8 g N.fl (Yq x.w<|N.past x.w f fd)::DN cv N.clk::DD lv (N.log x.w f fd)::blk t8 83 i.m.key.cs::blk t5 88 i.cs::Q):=h7.sn 3 [0,2,1]
  rw[Z0o,ZZM hW];refine Zam<|Zal<|Zh<|Za<|Zb h7 0 rfl (v:=cv) rfl<|Qix h7 4 rfl hct λa ha=>Yt h7 4 rfl ha (v:=Iw ct) rfl<|Zu5 (λc4=>Zi ?_)<|λc4=>Zf ?_
  .rw[if_pos (by omega)] at hRR;exact bad 1 _ hRR<|hback<|ZYg hW h7
  rw[if_neg (by omega)] at hRR;refine ZaY h7 λw5 h8=>Za<|Zb h8 6 rfl (v:=Iw i.m.key.T) rfl<|Zh<|Za<|Zb h8 0 rfl (v:=pt p) rfl ?_;obtain ⟨pv,xs,hp,h9⟩:=ZWq<|h8.pick 2 rfl;refine Zh<|Za<|Zb h9 0 rfl (v:=Iw N.fl) rfl ?_;clear h9;refine Za7 (λc5=>Zi ?_)<|λc5=>Zf ?_
  .rw[if_pos c5] at hRR;exact bad 110 _ hRR<|hback<|ZYg hW h8
  rw[if_neg c5] at hRR;have hql:=hW.ql;have hml:(Yj i.m.key N.ms).length<=64:=Nat.le_trans (List.length_filter_le _ _) hW.ml;refine Zo h8 6 (vs:=i.m.key.cs) rfl (by rfl) rfl ?_;refine Z0I (by omega) h8 λw6 h10=>?_;cases hq:ZeQ i.m.key N.q with
  | true=>
   rw[hq,if_pos rfl] at hRR;refine Zi<|ZaY h10 λw7 h11=>Zh<|Za<|Zb h11 0 rfl (v:=pt q) rfl<|Zo h11 6 (vs:=i.m.key.cs) rfl (by rfl) rfl ?_;refine ZYU (by omega) hW.upq (h11.pick 1 rfl) λ_ w8 h12=>?_;subst hRR;have h17:=ZYg (n:=n) (N:=⟨N.old,N.ms,without N.q i.m.key,N.fl,N.clk⟩) (x:=x) (q:=q) (p:=p) (g:=g) (cv:=cv) (lv:=lv) hN'<|h12.sn 8 [1,0,2,3,4,5];exact hk _ _ (h17.own_nil 88 8 Zn.cs)
  | false=>
   rw[hq,if_neg (by decide)] at hRR;refine Zf ?_;cases hms:ZeQ i.m.key N.ms with
   | false=>
    rw[hms,if_pos rfl] at hRR;exact Zch (Zi<|bad 4 _ hRR<|hback<|ZYg hW h10)
   | true=>
    rw[hms,if_neg (by decide)] at hRR;refine ZaJ<|Zf<|Zh<|Za<|Zb h10 0 rfl (v:=pt q) rfl<|ZYZ (h10.pick 1 rfl)<|Qadds<|Ztu (λc6=>Zi ?_)<|λc6=>Zf ?_
    .rw[if_pos (by omega)] at hRR;exact bad 2 _ hRR<|hback<|ZYg hW h10
    .rw[if_neg (by omega)] at hRR;refine Zo h10 6 (vs:=i.m.key.cs) rfl (by rfl) rfl ?_;refine ZZ3 (key:=i.m.key) (i0+4) hi0 hr hW rfl h10 λv w7 h11=>ZaY h11 λw8 h12=>Zh<|Za<|Zb h12 1 rfl (v:=pt q) rfl<|Zo h12 7 (vs:=i.m.key.cs) rfl (by rfl) rfl ?_;refine ZYU (by rw[List.length_append];omega) (ZnK hW i.m.key) (h12.pick 2 rfl) λ_ w9 h13=>?_;subst hRR;have h17:=ZYg (n:=n) (N:=⟨N.old,ZbF i.m.key N.ms,without (Yj i.m.key N.ms++N.q) i.m.key,N.fl,N.clk⟩) (x:=x) (q:=q) (p:=p) (g:=g) (cv:=cv) (lv:=lv) hN'<|h13.sn 9 [2,0,3,4,5,6,1];exact hk _ _ h17.swap
 .rw[if_neg c3] at hRR;exact bad 130 _ hRR<|hback hs5
theorem Z0b {t:Int} (hk0:k<=1000) (hS:Sat e w<|ZYz n x f fd N k::Q)
  (hno:ZaB N t≠0->∀w',Sat e w' (ZYz n x f fd N k::Q)->K (.tuple #[Sn,Sn,Iw<|ZaB N t]) w')
  (hyes:ZaB N t=0->∀v u w',Sat e w' (DD v ((ZaC x.w f fd N t).map ZfV)::Zz 85 6 Msg.cs u (Zek x.w f fd N t)::ZYz n x f fd (Ys N t) k::Q)->K (.tuple #[v,u,Iw 0]) w') :
  Cl prog 122 #[pt n,Iw t] w K:=by
 refine ZWR ?_;unfold ZVS;obtain ⟨q,p,g,cv,lv,hok,h1⟩:=ZYB hS;refine Zh<|Za<|Zb h1 0 rfl (v:=pt p) rfl ?_;obtain ⟨pv,xs0,hp0,h1p⟩:=ZWq<|h1.pick 2 rfl;refine Zh<|Za<|Zb h1p 0 rfl (v:=Iw N.fl) rfl ?_;clear h1p hp0;refine Za7 (λc=>Zi ?_)<|λc=>Zf ?_
 .have he:ZaB N t=110:=if_pos c;rw[he] at hno;exact hno (by decide) _ hS
 refine ZZe hS λw2 h2=>Ztu (λc2=>Zi ?_)<|λc2=>Zf ?_
 .have he:ZaB N t=130:=by unfold ZaB;rw[if_neg c,if_pos c2]
  rw[he] at hno;exact hno (by decide) _ h2
 have he:ZaB N t=0:=by unfold ZaB;rw[if_neg c,if_neg c2]
 clear h1 hno;obtain ⟨q,p,g,cv,lv,_,h1⟩:=ZYB h2;refine Zh<|Za<|Zb h1 0 rfl (v:=pt p) rfl<|ZZd (h1.pick 2 rfl) λv w3 h3=>?_;rw[Zky hok,<-Zl5 hok] at h3;obtain ⟨xs,hxs,h4⟩:=Z03 h3;generalize hse:ZaC x.w f fd N t=se at hxs hyes;have hsl:se.length<=64:=by
  rw[<-hse];unfold ZaC;rw[ZbA];exact Nat.le_trans (List.length_filter_le _ _) hok.ml
 have hxl:xs.length=se.length:=by rw[<-hxs,List.length_map]
 refine Zw3 h4 Zak.cs λt29 w4 h5=>?_
 replace h5:Sat e w4 (DD t29 []::DER v xs::Yh (xs.map ZcP)::ZVv p (max N.fl t) ((Ys N t).past x.w f fd)::BR n x f (N.now fd).1 (N.now fd).2 q p g cv lv::ZNs q 64 N.q::ZM8 g N.fl (Yq x.w<|N.past x.w f fd)::DN cv N.clk::DD lv (N.log x.w f fd)::Q):=h5
 refine ZjF (λmm t8 t9 w=>∃j:Nat,j<=se.length/\t9=Iw j/\mm=se.length - j/\Sat e w (DD t8 ((se.take j).map ZfV)::DER v xs::Yh (xs.map ZcP)::ZVv p (max N.fl t) ((Ys N t).past x.w f fd)::BR n x f (N.now fd).1 (N.now fd).2 q p g cv lv::ZNs q 64 N.q::ZM8 g N.fl (Yq x.w<|N.past x.w f fd)::DN cv N.clk::DD lv (N.log x.w f fd)::Q)) se.length
  ⟨0,Nat.zero_le _,rfl,rfl,h5⟩ ?_
 rintro mm t8 _ w g1 ⟨j,hj,rfl,rfl,h6⟩ hg1;refine Qln h6 1 rfl<|Za7 (λc3=>Zi ?_)<|λc3=>Zf ?_
 .obtain ⟨y,hy⟩:=Zk (l:=xs) (j:=j) (by omega);have hye:se[j]?=some y.e:=by rw[<-hxs,List.getElem?_map,hy];rfl
  refine ZaY h6 λw7 h7=>Qix h7 1 rfl hy λa ha=>Zbd ha λa1 ha1=>Zn0 h7 1 rfl ha1 (us:=y.m.cs) rfl rfl<|Qix h7 1 rfl hy λa ha=>Zbd ha λa1 ha1=>Yt h7 1 rfl ha1 (v:=Iw y.st) rfl<|Zaf (ZfV y.e).cs (by kernel_rfl) ?_;refine Zj7 ZVt (f:=Zak.cs) (λ_=>rfl) (λ_=>Zg _) h7 (x:=ZfV y.e) rfl (by rw[List.length_map,List.length_take];omega) λv' w8 h8=>?_;refine Qincs<|hg1 _ _ _ _ (by omega) ⟨j+1,by omega,rfl,rfl,?_⟩;rw[Zx hye,List.map_append];exact h8
 .have ej:j=se.length:=by omega
  rw[ej,List.take_length] at h6;refine Zh<|Za<|Zb h6 4 rfl (v:=lv) rfl ?_;have hlf:=ZAT hok;refine Zeo ZVt ZVt.und (f:=Zak.cs) (l:=N.log x.w f fd) (m:=se.map ZfV) (λ_=>rfl) (λ_=>Zg _) (h6.sn 9 [8,0,1,2,3,4,5,6,7]) (λ_=>Zp) (by rw[List.length_map];omega) λlv' w7 h7=>?_;have q1:=h7.own_cells 0 rfl;refine Zh (Za<|Zq h7 5 rfl (vs:=[lv']) q1.1 rfl (Nat.le_of_ble_eq_true rfl) (λc hc=>by rw[List.mem_singleton.1 hc];exact q1.2) (cs':=rws x f (N.now fd).1 (N.now fd).2 q p g cv lv') (by rfl) λw8 h8=>?_)
  replace h8:Sat e w8 (DD lv' (N.log x.w f fd++se.map ZfV)::DD t8 (se.map ZfV)::DER v xs::Yh (xs.map ZcP)::ZVv p (max N.fl t) ((Ys N t).past x.w f fd)::BR n x f (N.now fd).1 (N.now fd).2 q p g cv lv'::ZNs q 64 N.q::ZM8 g N.fl (Yq x.w<|N.past x.w f fd)::DN cv N.clk::Q):=h8
  refine Zh<|Za<|Zb h8 5 rfl (v:=pt g) rfl<|ZZC t (h8.pick 7 rfl) (ZiV hok) λu w9 h9=>?_;obtain ⟨hft,_⟩:=Zkb he;have hmax:max N.fl t=t:=by omega
  have hop:Zs6 (Yq x.w<|N.past x.w f fd) t=Yq x.w se:=by
   rw[ZrI<|ZBr hok,<-hse,<-Zky hok];rfl
  have hleft:ZwV (Yq x.w<|N.past x.w f fd) t=Yq x.w ((Ys N t).past x.w f fd):=by
   rw[Zuu,Zl5 hok];rfl
  rw[hmax,hop,hleft] at h9;have hlog:N.log x.w f fd++se.map ZfV=(Ys N t).log x.w f fd:=by rw[ZnH,hse]
  rw[hlog] at h9;have hnow:=Ztl hok t;rw[<-hnow] at h9;have hop2:Zek x.w f fd N t=(Yq x.w se).map Yz.m:=by unfold Zek;rw[hse]
  rw[hop2] at hyes;have h10:=ZYg (N:=Ys N t) (x:=x) (q:=q) (p:=p) (g:=g) (cv:=cv) (lv:=lv') (hok.commit he)<|h9.sn 10 [7,8,6,1,9,2,3,0];exact hyes he t8 u _<|h10.sn 3 [1,2,0]
theorem Z07 (hk0:k<=1000) (i0:Nat) (hi0:Q[i0]?=some S) (hr:∀g,S g->ZtG x g) (hs:x.short) (hS:Sat e w (ZYz n x f fd N k::Q))
  (hno:Zcl x.w f fd N≠0->∀w',Sat e w' (ZYz n x f fd N k::Q)->K (.tuple #[.agg Zak.zero.cs.toArray,Sn,Iw (Zcl x.w f fd N)]) w')
  (hyes:Zcl x.w f fd N=0->∀v w',Sat e w' (DI v (ZqQ x.w (Zin x.w f fd N))::ZYz n x f fd (Zcv N) (k+1)::Q)->K (.tuple #[.agg (ZfV (Zin x.w f fd N)).cs.toArray,v,Iw 0]) w') :
  Cl prog 105 #[pt n] w K:=by
 refine ZXk ?_;unfold ZWw;rw[ZYc,ZOc];refine Yp (cs:=Zak.zero.cs) hS rfl λt2 w1 h1=>?_;obtain ⟨q,p,g,cv,lv,hok,h2⟩:=ZYB h1.swap;refine Zh (Za (Zb h2 0 rfl (v:=pt q) rfl ?_));refine ZZo (h2.pick 1 rfl) λw3 h3=>?_;refine Zam (Zal ?_);refine Yp (cs:=Msg.zero.cs) h3 rfl λt5 w4 h4=>?_;refine Zq h4 0 rfl (vs:=(hdM N.q).cs) rfl rfl (by decide) (Zg _) (cs':=(hdM N.q).cs) (by rfl) λw5 h5=>?_
 replace h5:Sat e w5 (blk t5 85 (hdM N.q).cs::ZNs q 64 N.q::BR n x f (N.now fd).1 (N.now fd).2 q p g cv lv::ZVv p N.fl (N.past x.w f fd)::ZM8 g N.fl (Yq x.w (N.past x.w f fd))::DN cv N.clk::DD lv (N.log x.w f fd)::blk t2 129 Zak.zero.cs::Q):=h5
 refine ZaY h5 λw6 h6=>?_;have refuse:∀(er:Int) (w':World),Zcl x.w f fd N=er->er≠0->Sat e w' (blk t5 85 (hdM N.q).cs::ZNs q 64 N.q::BR n x f (N.now fd).1 (N.now fd).2 q p g cv lv::ZVv p N.fl (N.past x.w f fd)::ZM8 g N.fl (Yq x.w (N.past x.w f fd))::DN cv N.clk::DD lv (N.log x.w f fd)::blk t2 129 Zak.zero.cs::Q)->
   bld (Zl prog 129) #[(0,6),(6,1)] [] w' λt35 w=>stN 7 (pt t2) t35 w λ_ w=>ldN 7 (pt t2) w λr0 _=>K (Value.tuple #[r0,Sn,Iw er]) w:=by
  intro er w' he hne h;refine Zaf Zak.zero.cs (by kernel_rfl) ?_;refine Zq h 7 rfl (vs:=Zak.zero.cs) rfl rfl (by decide) (Zg _) (cs':=Zak.zero.cs) (by kernel_rfl) λw7 h7=>?_;refine Zo h7 7 (vs:=Zak.zero.cs) rfl (by rfl) rfl ?_;subst he;exact hno hne _ (ZYg hok (h7.selR [_,_,_,_,_,_,_,_] [_,_,_,_,_,_] [2,1,3,4,5,6] (by decide) rfl))
 cases hq:ZjD N.q with
 | false=>
  refine Zch (Zd (Zd (Zd (Zd (Zd (Zd (Zd (Zd (Zd (Yv (Zi ?_)))))))))));exact refuse 150 _ (if_pos (λh=>by rw[hq] at h;cases h.1)) (by decide) h6
 | true=>
  refine ZaJ (Zj (Za (Zj (Za (Zj (Zb h6 0 rfl (v:=Iw (hdM N.q).key.T) rfl ?_))))));refine Zj (Zj (Zwz (Zj (Za (Zj (Za (Zj (Zb h6 2 rfl (v:=Iw x.End) rfl (Zj ?_)))))))));have hEnd:x.End=x.w.End:=rfl;refine Zu5 (λc1=>Yd (Zi ?_)) (λc1=>Yd (Zf ?_))
  .exact refuse 150 _ (if_pos (λh=>by have:=h.2;omega)) (by decide) h6
  have hc:¬¬(ZjD N.q=true/\(hdM N.q).key.T<x.w.End):=λh=>h ⟨hq,by omega⟩;refine Zh (Za (Zb h6 2 rfl (v:=pt p) rfl ?_));obtain ⟨pv,xs,hp,h6p⟩:=ZWq (h6.pick 3 rfl);have hpl:(N.past x.w f fd).length=N.ms.length:=ZbA ..;have hxl:xs.length=N.ms.length:=by rw[<-hpl,<-hp.1,List.length_map]
  refine Zh (Za (Zb h6p 0 rfl (v:=pv) rfl ?_));refine Qln h6p 1 rfl ?_;rw[hxl];clear h6p;have hml:=hok.ml;have hgl:=ZiV hok;by_cases c2:(64:Int)<=N.ms.length
  .refine Zqv c2 (Zd (Zd (Zd (Zd (Zd (Zd (Zd (Zd (Zd (Yv (Zi ?_)))))))))));exact refuse 2 _ (by unfold Zcl;rw[if_neg hc,if_pos (.inl (by omega))]) (by decide) h6
  refine ZnR c2 (Zj (Zj (Zwz (Zj (Za (Zj (Zb h6 2 rfl (v:=pt g) rfl (Zj (Zwz ?_)))))))));obtain ⟨gv,h6g⟩:=ZYm (h6.pick 4 rfl);refine Zj (Za (Zj (Zb h6g 0 rfl (v:=gv) rfl (Zj ?_))));refine Qln h6g 1 rfl (Zj ?_);clear h6g;refine Ztu (λc3=>Yd (Zi ?_)) (λc3=>Yd (Zf ?_))
  .exact refuse 2 _ (by unfold Zcl;rw[if_neg hc,if_pos (.inr (by omega))]) (by decide) h6
  have he:Zcl x.w f fd N=0:=by unfold Zcl;rw[if_neg hc,if_neg (by omega)]
  obtain ⟨m,r,hmr⟩:=ZoL hq;have hhd:hdM N.q=m:=by rw[hmr];rfl
  rw[hhd] at h6;obtain ⟨⟨m',r',hmr',hmt⟩,_,_⟩:=Zr5 he;rw[hmr] at hmr';obtain ⟨rfl,rfl⟩:=List.cons.inj hmr';clear h1 h2 h3 h4 h5 refuse hmr' hno hp hxl;obtain ⟨fx,hfx,rfl⟩:=Z2n hok;have hfxm:=List.mem_of_getElem? hfx;have hsf:=hs.fed fx hfxm;refine Zh (Za (Zb h6 2 rfl (v:=pt q) rfl ?_));refine Z1r hok.upq (by have:=hok.ql;omega) (h6.pick 1 rfl) λw9 h9=>?_;rw[show N.q.tail=r from by rw[hmr];rfl] at h9
  replace h9:Sat e w9 (ZNs q 64 r::blk t5 85 m.cs::BR n x f (N.now fx.f).1 (N.now fx.f).2 q p g cv lv::ZVv p N.fl (N.past x.w f fx.f)::ZM8 g N.fl (Yq x.w (N.past x.w f fx.f))::DN cv N.clk::DD lv (N.log x.w f fx.f)::blk t2 129 Zak.zero.cs::Q):=h9
  refine ZaY h9 λw10 h10=>?_;have j8:∀{A1 A2 A3 A4 A5 A6 A7 A8:HP},(A1::A2::A3::A4::A5::A6::A7::A8::Q)[i0+8]?=some S:=λ{_ _ _ _ _ _ _ _}=>by simpa using hi0
  refine Zh (Za (Za (Zb h10 2 rfl (v:=x.fv) rfl ?_)));refine Zh (Za (Zb h10 2 rfl (v:=Iw f) rfl ?_));refine Zw h10 (i0+8) j8 (λ_ h=>(hr _ h).feds) (λ_=>rfl) hfx λa ha=>?_;refine Zbd ha λa1 ha1=>Yt h10 (i0+8) j8 ha1 (v:=fx.rv) rfl ?_;refine Zh (Za (Zb h10 2 rfl (v:=Iw (N.now fx.f).1) rfl ?_));refine Za (Zb h10 1 rfl (v:=Iw m.Class) rfl ?_);refine ZLd (l:=fx.Rules) (s:=(N.now fx.f).1) (c:=m.Class) (h10.pick (i0+8) j8) (λg hg=>((hr g hg).fed fx hfxm).rules) hsf.rules hsf.sends λov w11 h11=>?_
  replace h11:=Sat.unpick (i0+8) j8 h11
  obtain ⟨so,hso⟩:∃so,so=ZbY fx.f.Rules (N.now fx.f).1 m.Class:=⟨_,rfl⟩;have hso2:ZbY (fx.Rules.map Yg.r) (N.now fx.f).1 m.Class=so:=hso.symm;rw[hso2] at h11 ⊢;have houts:=ZlA hok.may (List.mem_of_getElem? hok.hfd) (N.now fx.f).1 m.Class;rw[<-hso] at houts;refine Zam (Zal ?_)
  replace h11:Sat e w11 (Zz 133 3 Out.cs ov so.2::ZNs q 64 r::blk t5 85 m.cs::BR n x f (N.now fx.f).1 (N.now fx.f).2 q p g cv lv::ZVv p N.fl (N.past x.w f fx.f)::ZM8 g N.fl (Yq x.w (N.past x.w f fx.f))::DN cv N.clk::DD lv (N.log x.w f fx.f)::blk t2 129 Zak.zero.cs::Q):=h11
  refine ZaY h11 λw12 h12=>?_;refine Zh (Za (Zo h12 3 (vs:=x.cs) rfl (by rfl) rfl ?_));refine Zh (Za (Zb h12 3 rfl (v:=Iw f) rfl ?_));refine Zh (Za (Zb h12 3 rfl (v:=Iw (N.now fx.f).2) rfl ?_));refine Za (Za (Zb h12 2 rfl (v:=Iw m.key.T) rfl ?_));refine Za (Zb h12 2 rfl (v:=Iw m.Body) rfl ?_);have hsu:=hok.sent;refine ZKz (x:=x) (outs:=so.2) (i0+9) 0 hi0 rfl h12 hr (λ_=>Zp) hs hok.may.tree (λo ho=>(houts.2 o ho).1) (by omega) ⟨by omega,by omega⟩ λmv w13 h13=>?_;obtain ⟨en,hen⟩:∃en,en=ZoQ x.w f fx.f (N.now fx.f) m:=⟨_,rfl⟩;have hsp:Zau x.w.Parents x.w.Feds f (N.now fx.f).2 m.key.T m.Body so.2=en.outs:=by rw[hso,hen];rfl
  rw[hsp] at h13;have hent:=ZnV hok.may hok.hfd (N.now fx.f) m;rw[<-hen] at hent
  replace h13:Sat e w13 (Zz 85 6 Msg.cs mv en.outs::Zz 133 3 Out.cs ov so.2::ZNs q 64 r::blk t5 85 m.cs::BR n x f (N.now fx.f).1 (N.now fx.f).2 q p g cv lv::ZVv p N.fl (N.past x.w f fx.f)::ZM8 g N.fl (Yq x.w (N.past x.w f fx.f))::DN cv N.clk::DD lv (N.log x.w f fx.f)::blk t2 129 Zak.zero.cs::Q):=h13
  refine ZaY h13 λw14 h14=>?_;refine Zh (Za (Zb h14 4 rfl (v:=pt p) rfl ?_));refine Zo h14 3 (vs:=m.cs) rfl (by rfl) rfl ?_;refine Zh (Za (Zb h14 4 rfl (v:=Iw (N.now fx.f).1) rfl ?_));refine Zh (Za (Zb h14 4 rfl (v:=Iw (N.now fx.f).2) rfl ?_));obtain ⟨A,cp,hmv,_⟩:=h14.shape 0 rfl (λ_=>Zp);subst hmv;generalize hmv:Value.slice A en.outs.length cp=mv at h14;refine Zaf (EnX.cs ⟨m,(N.now fx.f).1,(N.now fx.f).2,so.1,.slice A en.outs.length cp,en.outs⟩) (by kernel_rfl) ?_;rw[hmv];have qm:=h14.own_cells 0 rfl;refine ⟨Zb h14 4 rfl (v:=pt p) rfl ⟨rfl,rfl⟩,?_⟩;have hfl:¬m.key.T<N.fl:=by
   have:=hok.hi m (by rw[hmr];simp);omega
  have hup:Upk (N.ms++[m]):=by
   have:=hok.line;rw[hmr,show N.ms++m::r=(N.ms++[m])++r from by simp] at this;exact this.left
  obtain ⟨y,hy⟩:∃y:EnX,y=⟨m,(N.now fx.f).1,(N.now fx.f).2,so.1,mv,en.outs⟩:=⟨_,rfl⟩;rw[<-hy];have hye:y.e=en:=by rw[hy,hso,hen];rfl
  obtain ⟨pv,xs,hp,h15⟩:=ZWq (h14.pick 5 rfl)
  replace h15:Sat e w14 (PB p N.fl pv::DER pv xs::Yh (xs.map ZcP)::Zz 85 6 Msg.cs mv en.outs::Zz 133 3 Out.cs ov so.2::ZNs q 64 r::blk t5 85 m.cs::BR n x f (N.now fx.f).1 (N.now fx.f).2 q p g cv lv::ZM8 g N.fl (Yq x.w (N.past x.w f fx.f))::DN cv N.clk::DD lv (N.log x.w f fx.f)::blk t2 129 Zak.zero.cs::Q):=h15
  have hxl:xs.length=(N.past x.w f fx.f).length:=by rw[<-hp.1,List.length_map]
  have hlast:∀z,xs.getLast?=some z->Zv z.m.key y.m.key:=λz hz=>by
   have h1:=Zyo (wd:=x.w) (f:=f) (fd:=fx.f) (b:=N.base fx.f) hup;have h2:(N.past x.w f fx.f).getLast?=some z.e:=by rw[<-hp.1,List.getLast?_map,hz];rfl
   rw[hy];exact h1 z.e h2
  refine ZZF (x:=y) (by rw[hy];exact qm.2) (λz hz=>ZlV 2 h15 rfl hz) (by rw[hy];exact hfl) hlast (by omega) h15 λpv' w15 h16=>?_
  replace h16:Sat e w15 (PB p N.fl pv'::DER pv' (xs++[y])::Yh (xs.map ZcP)::Zz 85 6 Msg.cs mv en.outs::Zz 133 3 Out.cs ov so.2::ZNs q 64 r::blk t5 85 m.cs::BR n x f (N.now fx.f).1 (N.now fx.f).2 q p g cv lv::ZM8 g N.fl (Yq x.w (N.past x.w f fx.f))::DN cv N.clk::DD lv (N.log x.w f fx.f)::blk t2 129 Zak.zero.cs::Q):=h16
  have hpok:ZkM (N.past x.w f fx.f++[en]):=by
   refine ⟨?_,by rw[List.length_append,List.length_singleton];omega,λz hz=>?_⟩
   .have h1:=ZBr (hok.step he);rw[Zqd hmr,<-hen] at h1;exact h1
   .rcases List.mem_append.1 hz with hz | hz
    .exact hp.2.outs z hz
    .rw[List.mem_singleton.1 hz];omega
  refine Zh (Za (Zq h16 7 rfl (vs:=Yi [so.1]) rfl rfl (Nat.le_of_ble_eq_true rfl) (Zg _) (cs':=rws x f so.1 (N.now fx.f).2 q p g cv lv) (by rfl) λw16 h17=>?_));refine Zh (Za (Zb h17 7 rfl (v:=Iw (N.now fx.f).2) rfl ?_));refine Qln h17 4 rfl (Qadds ?_);have hnb:Zhz fx.f (N.now fx.f) m=(so.1,(N.now fx.f).2+so.2.length):=by rw[hso];rfl
  refine Zh (Za (Zq h17 7 rfl (vs:=Yi [(N.now fx.f).2+so.2.length]) rfl rfl (Nat.le_of_ble_eq_true rfl) (Zg _) (cs':=rws x f so.1 ((N.now fx.f).2+so.2.length) q p g cv lv) (by rfl) λw17 h18=>?_))
  replace h18:Sat e w17 (PB p N.fl pv'::DER pv' (xs++[y])::Yh (xs.map ZcP)::Zz 85 6 Msg.cs mv en.outs::Zz 133 3 Out.cs ov so.2::ZNs q 64 r::blk t5 85 m.cs::BR n x f so.1 ((N.now fx.f).2+so.2.length) q p g cv lv::ZM8 g N.fl (Yq x.w (N.past x.w f fx.f))::DN cv N.clk::DD lv (N.log x.w f fx.f)::blk t2 129 Zak.zero.cs::Q):=h18
  have h19:Sat e w17 (Yh ((xs++[y]).map ZcP)::PB p N.fl pv'::DER pv' (xs++[y])::ZNs q 64 r::blk t5 85 m.cs::BR n x f so.1 ((N.now fx.f).2+so.2.length) q p g cv lv::ZM8 g N.fl (Yq x.w (N.past x.w f fx.f))::DN cv N.clk::DD lv (N.log x.w f fx.f)::blk t2 129 Zak.zero.cs::Q):=by
   have h1:=h18.selR [_,_,_,_,_,_,_,_,_,_,_,_] [_,_,_,_,_,_,_,_,_,_,_] [3,2,0,1,5,6,7,8,9,10,11] (by decide) rfl;have h2:=(Sat.join (l':=[_]) h1).swap;have h3:=ZtR h2;rw[show xs.map ZcP++[Zz 85 6 Msg.cs mv en.outs]=(xs++[y]).map ZcP from by rw[List.map_append,hy];rfl] at h3;exact h3
  have hym:y∈xs++[y]:=List.mem_append_right _ (List.mem_singleton.2 rfl);have hyr:∀g,Yh ((xs++[y]).map ZcP) g->rdS 6 Msg.cs mv en.outs g:=λg hg=>by
   have h1:=Zxw hym g hg;rw[hy] at h1;exact h1
  refine Zw3 h19 Zn.cs λt132 w18 h20=>?_;refine ZjF (λq' t10 t11 w=>∃i:Nat,i<=en.outs.length/\t11=Iw i/\q'=en.outs.length - i/\Sat e w (DI t10 (((en.outs.take i).filter λm=>Zci x.w m.To).map Zae)::ZM8 g N.fl (Yq x.w (N.past x.w f fx.f)++((en.outs.take i).filter λm=>!Zci x.w m.To).map λo=>⟨m.key,o⟩)::Yh ((xs++[y]).map ZcP)::PB p N.fl pv'::DER pv' (xs++[y])::ZNs q 64 r::blk t5 85 m.cs::BR n x f so.1 ((N.now fx.f).2+so.2.length) q p g cv lv::DN cv N.clk::DD lv (N.log x.w f fx.f)::blk t2 129 Zak.zero.cs::Q)) en.outs.length
   ⟨0,Nat.zero_le _,rfl,rfl,?_⟩ ?_
  .rw[List.take_zero,List.filter_nil,List.filter_nil,List.map_nil,List.map_nil,List.append_nil];exact h20.selR [_,_,_,_,_,_,_,_,_,_,_] [_,_,_,_,_,_,_,_,_,_,_] [0,7,1,2,3,4,5,6,8,9,10] (by decide) rfl
  rintro q' t10 _ w g1 ⟨i,hi,rfl,rfl,h21⟩ hg1;refine Zt h21 2 rfl hyr ?_;refine Za7 (λd=>Zi ?_) (λd=>Zf ?_)
  .obtain ⟨o,ho⟩:=Zk (l:=en.outs) (j:=i) (by omega);have hot:=hent.2 o (List.mem_of_getElem? ho);have hfs1:=Zdw (p:=λm=>Zci x.w m.To) ho;have hfs2:=Zdw (p:=λm=>!Zci x.w m.To) ho;have hl1:=List.length_filter_le (λm=>Zci x.w m.To) (en.outs.take i);have hl2:=List.length_filter_le (λm=>!Zci x.w m.To) (en.outs.take i);rw[List.length_take] at hl1 hl2;obtain ⟨tn,fy,htn,hfy,hbo⟩:=Z0O (x:=x) (t:=o.To) ⟨hot.1,by rw[Z1d];exact hot.2.1⟩;refine J1.cut (λt10' w=>Sat e w (DI t10' (((en.outs.take (i+1)).filter λm=>Zci x.w m.To).map Zae)::ZM8 g N.fl (Yq x.w (N.past x.w f fx.f)++((en.outs.take (i+1)).filter λm=>!Zci x.w m.To).map λo=>⟨m.key,o⟩)::Yh ((xs++[y]).map ZcP)::PB p N.fl pv'::DER pv' (xs++[y])::ZNs q 64 r::blk t5 85 m.cs::BR n x f so.1 ((N.now fx.f).2+so.2.length) q p g cv lv::DN cv N.clk::DD lv (N.log x.w f fx.f)::blk t2 129 Zak.zero.cs::Q)) (λk2 hk2=>?_) ?_
   .refine ZaY h21 λw20 h22=>?_;refine Zh (Za (Za (Zb h22 7 rfl (v:=x.fv) rfl ?_)));refine Zw h22 2 rfl hyr (λ_=>rfl) ho λa ha=>Zbd ha λa1 ha1=>Yt h22 2 rfl ha1 (v:=Iw (tn:Int)) (by rw[<-htn];rfl) ?_;refine Zw h22 (i0+11) hi0 (λ_ h=>(hr _ h).feds) (λ_=>rfl) hfy λa ha=>?_;refine Zbd ha λa1 ha1=>Yt h22 (i0+11) hi0 ha1 (v:=Iw fy.Kind) rfl ?_;refine ZBD ?_;rw[<-hbo];cases hb:Zci x.w o.To with
    | true=>
     refine Zi (Zw h22 2 rfl hyr (λ_=>rfl) ho λa ha=>Ym h22 2 rfl ha rfl ?_);refine Zaf (Zae o).cs (by kernel_rfl) ?_;refine Zj7 ZW8 (f:=Zn.cs) (λ_=>rfl) (λ_=>Zg _) h22 (x:=Zae o) rfl (by rw[List.length_map];omega) λv' w21 h23=>?_;refine hk2 _ _ ?_;rw[hfs1,hfs2,hb];simp only[if_true,List.map_append,List.map_singleton,Bool.not_true,Bool.false_eq_true,if_false,List.append_nil];have hmo:(xs++[y]).map ZcP=xs.map ZcP++[ZcP y]:=by rw[List.map_append];rfl
     rw[hmo] at h23;exact h23
    | false=>
     refine Zf (ZaY h22 λw21 h23=>?_);refine Zh (Za (Zb h23 7 rfl (v:=pt g) rfl ?_));refine Za (Zo h23 6 (vs:=m.key.cs) rfl (by rfl) rfl ?_);refine Zw h23 2 rfl hyr (λ_=>rfl) ho λa ha=>Ym h23 2 rfl ha rfl ?_;have hgl2:(Yq x.w (N.past x.w f fx.f)++((en.outs.take i).filter λm=>!Zci x.w m.To).map λo=>(⟨m.key,o⟩:Yz)).length<256:=by
      rw[List.length_append,List.length_map];omega
     refine ZZP m.key o (h23.pick 1 rfl) (by omega) λw22 h24=>?_;have hhold:ZsN N.fl (Yq x.w (N.past x.w f fx.f)++((en.outs.take i).filter λm=>!Zci x.w m.To).map λo=>(⟨m.key,o⟩:Yz)) m.key o=Yq x.w (N.past x.w f fx.f)++(((en.outs.take i).filter λm=>!Zci x.w m.To).map λo=>(⟨m.key,o⟩:Yz))++[⟨m.key,o⟩]:=by
      unfold ZsN;rw[if_neg hfl,if_neg (by omega)]
     rw[hhold] at h24;refine hk2 _ _ ?_;rw[hfs1,hfs2,hb];simp only[Bool.not_false,if_true,List.map_append,List.map_singleton,Bool.false_eq_true,if_false,List.append_nil];rw[<-List.append_assoc];have hmo:(xs++[y]).map ZcP=xs.map ZcP++[ZcP y]:=by rw[List.map_append];rfl
     have h25:=h24.swap;rw[hmo] at h25;exact h25
   .intro t10' w19 h19;refine Qincs ?_;exact hg1 _ _ _ _ (by omega) ⟨i+1,by omega,rfl,rfl,h19⟩
  .have ei:i=en.outs.length:=by omega
   rw[ei,List.take_length] at h21;refine Zo h21 6 (vs:=m.cs) rfl (by rfl) rfl ?_;refine Zaf (⟨m,so.1⟩:Zak).cs (by kernel_rfl) ?_;refine Zq h21 10 rfl (vs:=(⟨m,so.1⟩:Zak).cs) rfl rfl (Nat.le_of_ble_eq_true rfl) (Zg _) (cs':=(⟨m,so.1⟩:Zak).cs) (by rfl) λw19 h22=>?_;refine Zo h22 10 (vs:=(⟨m,so.1⟩:Zak).cs) rfl (by rfl) rfl ?_;have hsE:Zin x.w f fx.f N=en:=by rw[hen];unfold Zin;rw[hhd]
   have hdE:ZfV en=⟨m,so.1⟩:=by rw[hen,hso];rfl
   rw[hsE,hdE] at hyes;refine hyes he t10 _ ?_;have hn2:(Zcv N).now fx.f=(so.1,(N.now fx.f).2+so.2.length):=by rw[Zwi hmr,hnb]
   have hp2:(Zcv N).past x.w f fx.f=N.past x.w f fx.f++[en]:=by rw[Zqd hmr,hen]
   have hg2:Yq x.w ((Zcv N).past x.w f fx.f)=Yq x.w (N.past x.w f fx.f)++(en.outs.filter λm=>!Zci x.w m.To).map λo=>⟨m.key,o⟩:=by rw[ZtN hmr,<-hen];congr 1;unfold ZmR;rw[hen];rfl
   have hq2:(Zcv N).q=r:=by rw[ZiD hmr]
   replace h22:Sat e w19 (DI t10 ((en.outs.filter λm=>Zci x.w m.To).map Zae)::ZM8 g N.fl (Yq x.w (N.past x.w f fx.f)++(en.outs.filter λm=>!Zci x.w m.To).map λo=>⟨m.key,o⟩)::Yh ((xs++[y]).map ZcP)::PB p N.fl pv'::DER pv' (xs++[y])::ZNs q 64 r::blk t5 85 m.cs::BR n x f so.1 ((N.now fx.f).2+so.2.length) q p g cv lv::DN cv N.clk::DD lv (N.log x.w f fx.f)::blk t2 129 (⟨m,so.1⟩:Zak).cs::Q):=h22
   have h23:=ZYv (p:=p) (fl:=N.fl) (l:=N.past x.w f fx.f++[en]) (lv:=pv') (xs:=xs++[y]) ⟨by rw[List.map_append,hp.1];show _++[y.e]=_;rw[hye],hpok⟩ (h22.selR [_,_,_,_,_,_,_,_,_,_,_] [_,_,_,_,_,_,_,_,_] [3,4,2,0,1,5,7,8,9] (by decide) rfl);have h24:=ZYg (N:=Zcv N) (x:=x) (q:=q) (p:=p) (g:=g) (cv:=cv) (lv:=lv) (k:=k+1) (n:=n) (f:=f) (fd:=fx.f) (hok.step he) (Q:=DI t10 ((en.outs.filter λm=>Zci x.w m.To).map Zae)::Q) (e:=e) (w:=w19) (by
    rw[hn2,hg2,hp2,hq2];exact h23.selR [_,_,_,_,_,_,_] [_,_,_,_,_,_,_] [4,3,0,2,5,6,1] (by decide) rfl)
   exact h24.swap
variable {k:KS}
structure RM where
 sv:Value
 bv:Value
 rv:Value
 xv:Value
 tv:Value
 g:Nat
 c:Nat
 ms:Nat->Nat
 vs:Nat->Value
def rnH (x:WdX) (n f:Nat):Nd->Nat->HP
 | .slow N,m=>ZY6 m x f N n
 | .bold N _ _,m=>ZYz m x f (Zs x.w f) N n
def slP:Nd->Nat->Value
 | .slow _,m=>pt m
 | .bold _ _ _,_=>Pn
def boP:Nd->Nat->Value
 | .slow _,_=>Pn
 | .bold _ _ _,m=>pt m
def rkI:Nd->Int
 | .slow _=>-1
 | .bold _ r _=>r
def tlI:Nd->Int
 | .slow _=>0
 | .bold _ _ t=>t
def ZN9 (m:Nat):Option CL->Nat->HP
 | none,_=>pur True
 | some c,g=>ZYK g m<|Zcg m c
abbrev fes (x:WdX):List Nat:=List.range x.w.Feds.length
abbrev Z0p (x:WdX) (k:KS) (M:RM):List Value:=[x.pv,x.fv,Iw x.End,M.sv,M.bv,M.rv,M.xv,M.tv,pt M.g,ZG0 k.cut M.c]
abbrev ZVT (x:WdX) (n:Nat) (k:KS) (M:RM):List HP:=(fes x).map λf=>rnH x n f (k.node f)<|M.ms f
abbrev ZVO (x:WdX) (k:KS) (M:RM):List HP:=(fes x).map λf=>DI (M.vs f)<|k.box f
abbrev RBk (p:Nat) (x:WdX) (k:KS) (M:RM):HP:=blk p 96<|Z0p x k M
abbrev RSl (x:WdX) (k:KS) (M:RM):HP:=Zz 97 1 one M.sv<|(fes x).map λf=>slP (k.node f)<|M.ms f
abbrev RBo (x:WdX) (k:KS) (M:RM):HP:=Zz 100 1 one M.bv<|(fes x).map λf=>boP (k.node f)<|M.ms f
abbrev RRk (x:WdX) (k:KS) (M:RM):HP:=Zz 3 1 (Ye .i64) M.rv<|(fes x).map λf=>rkI<|k.node f
abbrev RXv (x:WdX) (M:RM):HP:=Zz 46 1 one M.xv<|(fes x).map M.vs
abbrev RTl (x:WdX) (k:KS) (M:RM):HP:=Zz 3 1 (Ye .i64) M.tv<|(fes x).map λf=>tlI<|k.node f
abbrev RGn (x:WdX) (k:KS) (M:RM):HP:=ZVw M.g x.w.Feds.length k.room<|λa b=>k.q a b
abbrev RCk (x:WdX) (k:KS) (M:RM):HP:=ZN9 (Zai x.w) k.cut M.c
abbrev RP (p:Nat) (x:WdX) (n:Nat) (k:KS) (M:RM):List HP:=[Yh<|ZVT x n k M,Yh<|ZVO x k M,RBk p x k M,RSl x k M,RBo x k M,RRk x k M,RXv x M,RTl x k M,RGn x k M,RCk x k M]
def ZVX (p:Nat) (x:WdX) (k:KS) (n s:Nat):HP:=hex λM:RM=>Yh<|pur (Ze1 x.w k s)::RP p x n k M
variable {M:RM}
theorem Sat.putB {A B:HP} (i:Nat) (hi:L[i]?=some A) (h:Sat e w<|B::L.eraseIdx i):Sat e w (L.set i B):=h.perm<|Zjm L i A B hi
theorem ZYq (h:Sat e w<|ZVX p x k n s::Q):∃M,Ze1 x.w k s/\Sat e w (RP p x n k M++Q):=by
 obtain ⟨M,h0⟩:=h.ex;exact ⟨M,Sat.pure h0.split⟩
theorem ZX8 (hk:Ze1 x.w k s) (h:Sat e w<|RP p x n k M++Q):Sat e w (ZVX p x k n s::Q):=
 .mk_ex M (.join (l':=pur (Ze1 x.w k s)::RP p x n k M) (.mk_pure hk h))
theorem ZXQ (hf:f<x.w.Feds.length):∀g,Yh (ZVO x k M) g->rdS 8 Zn.cs (M.vs f) (k.box f) g:=λg hg=>by
 obtain ⟨g',h1,h2⟩:=Yy hg<|Yk (F:=λf=>DI (M.vs f)<|k.box f) hf;exact Zbl h2<|Zp h1
theorem Z0A {v:Value} {l:List Zn} (hl:k.boxes.length=x.w.Feds.length):(ZVO x k M).set f (DI v l)=ZVO x { k with boxes:=k.boxes.set f l } { M with vs:=λj=>if j=f then v else M.vs j }:=
 ZcQ (λj _ hne=>by
  show DI (if j=f then v else M.vs j) ((k.boxes.set f l).getD j [])=_;rw[if_neg hne,ZaX,if_neg λh=>hne h.1.symm];rfl) λhf=>by
  show _=DI (if f=f then v else M.vs f) ((k.boxes.set f l).getD f []);rw[if_pos rfl,ZaX,if_pos ⟨rfl,by omega⟩]
theorem Z0t {v:Value} {l:List Zn} (hf:f<x.w.Feds.length) (hl:k.boxes.length=x.w.Feds.length)
  (h:Sat e w<|DI v l::Yh ((ZVO x k M).eraseIdx f)::([Yh<|ZVT x n k M,RBk p x k M,RSl x k M,RBo x k M,RRk x k M,Zz 46 1 one M.xv<|((fes x).map M.vs).set f v,RTl x k M,RGn x k M,RCk x k M]++Q)) :
  Sat e w (RP p x n { k with boxes:=k.boxes.set f l } { M with vs:=λj=>if j=f then v else M.vs j }++Q):=by
 have h7:=Sat.unfocus f (Yk hf) h;rw[Z0A hl,show ((fes x).map M.vs).set f v=(fes x).map (λj=>if j=f then v else M.vs j) from ZcQ (λj _ hne=>if_neg hne) (λ_=>(if_pos rfl).symm)] at h7;exact h7.sn 10 [1,0,2,3,4,5,6,7,8,9]
theorem ZYa (hf:f<x.w.Feds.length) {i j:Nat} (hi:L[i]?=some (RBk p x k M)) (hj:L[j]?=some (RXv x M)) (hS:Sat e w L) (hk:K (M.vs f) w) :
  ld1 (.pointer<|some ⟨p,0+6,none⟩) w λt w=>ixS 1 t (Iw (f:Int)) w λt w=>ld1 t w K:=
 Zb hS i hi (v:=M.xv) rfl (Zw hS j hj (λ_=>Zp) (λ_=>rfl) (Yk hf) λ_ ha=>Yt hS j hj ha (v:=M.vs f) rfl hk)
theorem Z0M {v:Value} {l:List Zn} {G:World->Prop} (hf:f<x.w.Feds.length) (hl:k.boxes.length=x.w.Feds.length) (h:Sat e w<|DI v l::Yh (ZVO x k M)::Yh (ZVT x n k M)::RBk p x k M::RSl x k M::RBo x k M::RRk x k M::RXv x M::RTl x k M::RGn x k M::RCk x k M::Q)
  (hk:∀w',Sat e w' (RP p x n { k with boxes:=k.boxes.set f l } { M with vs:=λj=>if j=f then v else M.vs j }++Q)->G w') :
  (ld1 (.pointer<|some ⟨p,0+6,none⟩) w λv' w''=>v'=M.xv/\w''=w)/\ixS 1 M.xv (Iw (f:Int)) w λt w=>stN 1 t v w λ_ w=>G w:=by
 have q1:=h.own_cells 0 rfl;refine ⟨Zb h 3 rfl (v:=M.xv) rfl ⟨rfl,rfl⟩,ZdJ h 7 rfl (λ_=>rfl) (by rw[List.length_map,List.length_range];exact hf) (x:=v) q1.1 (λc hc=>by rw[List.mem_singleton.1 hc];exact q1.2) λw7 h7=>hk _ ?_⟩;exact Z0t hf hl (h7.swap.focus f<|Yk hf).drop.swap
theorem ZYd {v:Value} {l:List Zn} (hf:f<x.w.Feds.length) (hl:k.boxes.length=x.w.Feds.length) (hb:(k.box f).length<=100000000000) (hm:l.length<=1000000) (hS:Sat e w<|RP p x n k M++S::Q) (hr:∀g,S g->rdS 8 Zn.cs v l g)
  (hk:∀M' w',M'.ms=M.ms->Sat e w' (RP p x n (k.put f l) M'++S::Q)->K (.tuple #[]) w'):Cl prog 103 #[pt p,Iw (f:Int),v] w K:=by
 refine ZXe ?_;unfold ZWa;refine Zw3 hS Zn.cs λv1 w1 h1=>Zh<|Za<|Zb h1 3 rfl (v:=M.xv) rfl<|Qix h1 7 rfl (Yk hf) λ_ ha=>Yt h1 7 rfl ha (v:=M.vs f) rfl ?_;have h2:Sat e w1 (DI v1 []::Yh (ZVO x k M)::([Yh<|ZVT x n k M,RBk p x k M,RSl x k M,RBo x k M,RRk x k M,RXv x M,RTl x k M,RGn x k M,RCk x k M,S]++Q)):=h1.sn 12 [0,2,1,3,4,5,6,7,8,9,10,11];refine Zcs ZW8 ZW8.und (f:=Zn.cs) (l:=[]) (m:=k.box f) (λ_=>rfl) (λ_ _=>Zg _) h2 (ZXQ hf) (by simp only[List.length_nil];omega) λv3 w3 h3=>?_;rw[List.nil_append] at h3;refine ZaY h3 λw4 h4=>Zh<|Za<|Zb h4 3 rfl (v:=M.xv) rfl ?_;have h5:Sat e w4 (DI v3 (k.box f)::S::([Yh<|ZVO x k M,Yh<|ZVT x n k M,RBk p x k M,RSl x k M,RBo x k M,RRk x k M,RXv x M,RTl x k M,RGn x k M,RCk x k M]++Q)):=h4.sn 12 [0,11,1,2,3,4,5,6,7,8,9,10];refine Zcs ZW8 ZW8.und (f:=Zn.cs) (l:=k.box f) (m:=l) (λ_=>rfl) (λ_ _=>Zg _) h5 hr (by omega) λv6 w6 h6=>?_;exact Z0M (Q:=S::Q) hf hl (h6.sn 12 [0,2,3,4,5,6,7,8,9,10,11,1]) λw8 h8=>hk { M with vs:=λj=>if j=f then v6 else M.vs j } _ rfl h8
theorem ZYF (n:Nd):0<=rkI n↔n.isBold=true:=by
 cases n with
 | slow _=>exact ⟨λh=>absurd h (show ¬(0:Int)<=-1 by decide),λh=>by cases h⟩
 | bold _ r _=>exact ⟨λ_=>rfl,λ_=>by show 0<=(r:Int);omega⟩
theorem Z2f {i:Nat} (hf:f<x.w.Feds.length) (hi:L[i]?=some (RRk x k M)) (hS:Sat e w L) (hk:K (Iw<|rkI<|k.node f) w) :
  ixS 1 M.rv (Iw (f:Int)) w λt w=>ld1 t w K:=
 Zw hS i hi (λ_=>Zp) (λ_=>rfl) (Yk hf) λ_ ha=>Yt hS i hi ha (v:=Iw<|rkI<|k.node f) rfl hk
theorem ZXT {a b:Nat} {i:Zn} (ha:a<x.w.Feds.length) (hb:b<x.w.Feds.length) (hS:Sat e w<|RP p x n k M++Q) (hk:∀w',Sat e w' (RP p x n k M++Q)->K (.bool<|k.counted a b i) w') :
  Cl prog 107 #[pt p,Iw (a:Int),Iw (b:Int),.agg i.cs.toArray] w K:=by
 refine ZWc ?_;unfold ZVE;refine Yp (cs:=i.cs) hS rfl λt w1 h1=>Za<|Zb h1 0 rfl (v:=Iw i.Kind) rfl ?_;have h3:=hk _ h1.drop;rw[Zf7] at h3;by_cases c1:i.Kind=2
 .rw[decide_eq_true c1] at h3;exact ZoP c1<|Zu<|Zu<|Zu<|Zu<|Zu<|Zu<|Zu<|Zu<|Yd<|Zu<|Zu<|Zu<|Zu<|Zu<|Zu<|Zu<|Zu<|Yd h3
 rw[decide_eq_false c1] at h3;refine Zng c1 (Ze<|Ze<|Zh<|Ze<|Za<|Ze<|Zb h1 3 rfl (v:=M.rv) rfl<|Ze<|Ze ?_) ;refine Qix h1 6 rfl (Yk ha) λq hq=>Ze<|Yt h1 6 rfl hq (v:=Iw<|rkI<|k.node a) rfl<|Ze<|Zu5 (λc2=>Yv ?_) λc2=>Yv ?_
 .rw[(ZYF _).1 c2] at h3;refine Ze<|Ze<|Zh<|Ze<|Za<|Ze<|Zb h1 3 rfl (v:=M.rv) rfl<|Ze<|Ze<|Qix h1 6 rfl (Yk hb) λq hq=>Ze<|Yt h1 6 rfl hq (v:=Iw<|rkI<|k.node b) rfl<|Ze<|Zu5 (λc3=>Yv ?_) λc3=>Yv ?_
  .rw[(ZYF _).1 c3] at h3;exact h3
  .rw[Bool.eq_false_iff.2 λh=>c3<|(ZYF _).2 h] at h3;exact h3
 .rw[Bool.eq_false_iff.2 λh=>c2<|(ZYF _).2 h] at h3;exact Zu<|Zu<|Zu<|Zu<|Zu<|Zu<|Zu<|Zu<|Yd h3
theorem ZXE {v:Value} {l:List Msg} (i:Nat) (hi:L[i]?=some S) (hS:Sat e w L) (hr:∀g,S g->rdS 6 Msg.cs v l g) (hl:l.length<=1000000) (hk:∀v' w',Sat e w' (DI v' (l.map Zae)::L)->K v' w'):Cl prog 104 #[v] w K:=by
 refine ZX3<|Zw3 hS Zn.cs λv1 w1 h0=>ZjF (λq t3 t8 w=>∃j:Nat,j<=l.length/\t8=Iw j/\q=l.length - j/\Sat e w (DI t3 ((l.take j).map Zae)::L)) l.length ⟨0,Nat.zero_le _,rfl,rfl,h0⟩ ?_;rintro q t3 _ w g1 ⟨j,hj,rfl,rfl,h1⟩ hg;have hi1:(DI t3 ((l.take j).map Zae)::L)[i+1]?=some S:=hi;refine Zt h1 (i+1) hi1 hr<|Za7 (λc=>Zi ?_)<|λc=>Zf ?_
 .obtain ⟨o,ho⟩:=Zk (l:=l) (j:=j) (by omega);refine Zw h1 (i+1) hi1 hr (λ_=>rfl) ho λ_ ha=>Ym h1 (i+1) hi1 ha rfl<|Zaf (Zae o).cs (by kernel_rfl) ?_;refine Zj7 ZW8 (f:=Zn.cs) (λ_=>rfl) (λ_=>Zg _) h1 (x:=Zae o) rfl (by rw[List.length_map,List.length_take];omega) λv' w4 h4=>?_;refine Qincs<|hg _ _ _ _ (by omega) ⟨j+1,by omega,rfl,rfl,?_⟩;rw[Zx ho,List.map_append];exact h4
 .have ej:j=l.length:=by omega
  rw[ej,List.take_length] at h1;exact hk _ _ h1
theorem ZYM {n' f:Nat} {N:Nd} {m:Nat} (hk:n<=n'):∀g,rnH x n f N m g->rnH x n' f N m g:=by
 intro g h;cases N with
 | slow N=>
  obtain ⟨q,hq⟩:=h;exact ⟨q,ZcB.head_imp hq λ_ h=>h.mono hk⟩
 | bold N r t=>
  obtain ⟨q,hq⟩:=h;exact ⟨q,ZcB.head_imp hq λ_ h=>h.mono hk⟩
theorem Z0f {n':Nat} (h:n<=n') (hS:Sat e w<|RP p x n k M++Q):Sat e w (RP p x n' k M++Q):=hS.imp<|Zfo (λ_=>ZYM h) _
theorem Z1G {N N':Nd} (h:N.isBold=N'.isBold) (m:Nat):slP N m=slP N' m/\boP N m=boP N' m:=by
 cases N <;> cases N' <;> first | exact ⟨rfl,rfl⟩ | cases h
theorem ZYO {α:Type} {F:Nd->Nat->α} {N:Nd} (h:F N f=F (k.node f) f):((fes x).map λj=>F ((k.setN f N).node j) j)=(fes x).map λj=>F (k.node j) j:=by
 refine List.map_congr_left λj _=>?_;rw[ZaK];split
 .rename_i h1;rw[<-h1.1];exact h
 .rfl
theorem Z0l {N:Nd} (h:tlI N=tlI (k.node f)):RTl x (k.setN f N) M=RTl x k M:=by
 unfold RTl;rw[ZYO (F:=λN _=>tlI N) h]
theorem ZZ6 {N:Nd} {n':Nat} (hn:n<=n') (hf:f<x.w.Feds.length) (hl:k.nodes.length=x.w.Feds.length) (hb:N.isBold=(k.node f).isBold) (hr:rkI N=rkI (k.node f))
  (h:Sat e w<|rnH x n' f N (M.ms f)::Yh ((ZVT x n k M).eraseIdx f)::([Yh<|ZVO x k M,RBk p x k M,RSl x k M,RBo x k M,RRk x k M,RXv x M,RTl x (k.setN f N) M,RGn x k M,RCk x k M]++Q)):Sat e w (RP p x n' (k.setN f N) M++Q):=by
 have h3:Sat e w (Yh ((ZVT x n' k M).eraseIdx f)::(rnH x n' f N (M.ms f)::([Yh<|ZVO x k M,RBk p x k M,RSl x k M,RBo x k M,RRk x k M,RXv x M,RTl x (k.setN f N) M,RGn x k M,RCk x k M]++Q))):=h.swap.imp λg hg=>by
  rw[<-List.eraseIdx_map_c] at hg ⊢;exact Zfo (λ_=>ZYM hn) _ g hg
 have h5:=Sat.unfocus f (Yk (F:=λj=>rnH x n' j (k.node j)<|M.ms j) hf) h3.swap;have e1:(ZVT x n' k M).set f (rnH x n' f N<|M.ms f)=ZVT x n' (k.setN f N) M:=ZcQ (λj _ hne=>by rw[ZaK,if_neg λh=>hne h.1.symm]) λhf'=>by rw[ZaK,if_pos ⟨rfl,by omega⟩]
 rw[e1] at h5;have e2:=ZYO (x:=x) (F:=λN j=>slP N<|M.ms j) (Z1G hb<|M.ms f).1;have e3:=ZYO (x:=x) (F:=λN j=>boP N<|M.ms j) (Z1G hb<|M.ms f).2;have e4:=ZYO (x:=x) (F:=λN _=>rkI N) hr;show Sat e w ([_,_,_,Zz _ 1 one M.sv<|(fes x).map λj=>slP ((k.setN f N).node j)<|M.ms j,Zz _ 1 one M.bv<|(fes x).map λj=>boP ((k.setN f N).node j)<|M.ms j,Zz _ 1 (Ye .i64) M.rv<|(fes x).map λj=>rkI<|(k.setN f N).node j,_,_,_,_]++Q);rw[e2,e3,e4];exact h5
theorem ZYp (hf:f<x.w.Feds.length) {i j:Nat} (hi:L[i]?=some (RBk p x k M)) (hj:L[j]?=some (RRk x k M)) (hS:Sat e w L) (hk:K (Iw<|rkI<|k.node f) w) :
  ld1 (.pointer<|some ⟨p,0+5,none⟩) w λt w=>ixS 1 t (Iw (f:Int)) w λt w=>ld1 t w K:=
 Zb hS i hi (v:=M.rv) rfl (Z2f hf hj hS hk)
theorem ZZg (hf:f<x.w.Feds.length) {i j:Nat} (hi:L[i]?=some (RBk p x k M)) (hj:L[j]?=some (RSl x k M)) (hS:Sat e w L) (hk:K (slP (k.node f)<|M.ms f) w) :
  ld1 (.pointer<|some ⟨p,0+3,none⟩) w λt w=>ixS 1 t (Iw (f:Int)) w λt w=>ld1 t w K:=
 Zb hS i hi (v:=M.sv) rfl (Zw hS j hj (λ_=>Zp) (λ_=>rfl) (Yk hf) λ_ ha=>Yt hS j hj ha (v:=slP (k.node f)<|M.ms f) rfl hk)
theorem ZYH (hf:f<x.w.Feds.length) {i j:Nat} (hi:L[i]?=some (RBk p x k M)) (hj:L[j]?=some (RBo x k M)) (hS:Sat e w L) (hk:K (boP (k.node f)<|M.ms f) w) :
  ld1 (.pointer<|some ⟨p,0+4,none⟩) w λt w=>ixS 1 t (Iw (f:Int)) w λt w=>ld1 t w K:=
 Zb hS i hi (v:=M.bv) rfl (Zw hS j hj (λ_=>Zp) (λ_=>rfl) (Yk hf) λ_ ha=>Yt hS j hj ha (v:=boP (k.node f)<|M.ms f) rfl hk)
theorem Z1W:∀g,pur True g->rdS 8 Zn.cs Sn ([]:List Zn) g:=λ_ _=>⟨_,0,rfl,Nat.le_refl _,λh=>absurd h<|by decide⟩
theorem Z0n {N:Nd} {n':Nat} {v:Value} {l:List Zn} (hn:n<=n') (hf:f<x.w.Feds.length) (hI:Ze1 x.w k s) (hs:s<=1000000) (hb:N.isBold=(k.node f).isBold) (hr:rkI N=rkI (k.node f)) (ht:tlI N=tlI (k.node f)) (hm:l.length<=1000000)
  (h:Sat e w<|S::rnH x n' f N (M.ms f)::Yh ((ZVT x n k M).eraseIdx f)::([Yh<|ZVO x k M,RBk p x k M,RSl x k M,RBo x k M,RRk x k M,RXv x M,RTl x k M,RGn x k M,RCk x k M]++Q)) (hrd:∀g,S g->rdS 8 Zn.cs v l g)
  (hk:∀M' w',Sat e w' (RP p x n' ((k.setN f N).put f l) M'++Q)->K (.tuple #[]) w'):Cl prog 103 #[pt p,Iw (f:Int),v] w K:=by
 have h1:Sat e w (rnH x n' f N (M.ms f)::Yh ((ZVT x n k M).eraseIdx f)::([Yh<|ZVO x k M,RBk p x k M,RSl x k M,RBo x k M,RRk x k M,RXv x M,RTl x (k.setN f N) M,RGn x k M,RCk x k M]++S::Q)):=by
  rw[Z0l ht];exact h.sn 12 [1,2,3,4,5,6,7,8,9,10,11,0]
 have h2:=ZZ6 hn hf hI.nl hb hr h1;have hlb:=Znn hI hs f;exact ZYd (k:=k.setN f N) hf hI.bl (by show (k.box f).length<=_;omega) hm h2 hrd λM' w' _ h3=>hk M' w'<|h3.sn 11 [0,1,2,3,4,5,6,7,8,9]
theorem ZZH (hf:f<x.w.Feds.length) (hI:Ze1 x.w k s) (hs:s<=1000000) (hn:n<=1000) (hx:x.short) (hr:∀g,S g->ZtG x g) (hS:Sat e w<|RP p x n k M++S::Q)
  (hk:∀M' w',Sat e w' (RP p x (n+1) (k.step x.w f).2 M'++S::Q)->K (Iw (k.step x.w f).1) w'):Cl prog 47 #[pt p,Iw (f:Int)] w K:=by
 refine ZWU ?_;unfold ZVY;rw[ZYc];refine Zh<|Za<|ZYa (i:=2) (j:=6) hf rfl rfl hS<|Zt hS 1 rfl (ZXQ hf) ?_;by_cases hb:k.box f=[]
 case neg=>
  have hst:k.step x.w f=(2,k):=if_pos hb;rw[hst] at hk;have hpos:0<(k.box f).length:=List.length_pos_iff.2 hb;exact Qgtt<|Zi<|hk M _<|Z0f (Nat.le_succ n) hS
 rw[ZyH hI hf hb] at hk;rw[hb];refine Zle (by decide)<|Zf<|Zh<|Za<|ZYp (i:=2) (j:=5) hf rfl rfl hS ?_;have h1:=Sat.focus hS f<|Yk hf;cases hN:k.node f with
 | slow N=>
  rw[hN] at hk h1;refine Ztt (show (-1:Int)<0 by decide)<|Zi<|Zh<|Za<|ZZg (i:=2) (j:=3) hf rfl rfl hS ?_;rw[hN];refine Z1a hn (ZaN hf) 10 rfl h1 hr hx (λhsf w3 h3=>?_)<|λhsf v w3 h3=>?_
  .refine Zok<|Zow<|ZoK<|Yp (cs:=Zak.zero.cs) h3 rfl λt4 w4 h4=>Zq h4 0 rfl (vs:=Zak.zero.cs) rfl rfl (by decide) (Zg _) (cs':=Zak.zero.cs) (by kernel_rfl) λw5 h5=>?_;refine ZXE (l:=[]) 0 rfl (h5.mk_pure trivial) ZxZ (by decide) λv' w6 h6=>?_;have hst:Nd.step x.w f (.slow N)=(150,[],.slow N):=if_neg (by rw[hsf];decide);rw[hst] at hk;refine Z0n (M:=M) (n:=n) (n':=n+1) (N:=.slow N) (l:=[]) (S:=DI v' []) (Nat.le_succ n) hf hI hs (by rw[hN]) (by rw[hN]) (by rw[hN]) (by decide) ?_ (λ_=>Zp) λM' w' h7=>hk M' w' h7;exact (h6.sn 4 [3,0]).imp (ZYM (N:=.slow N)<|Nat.le_succ n) |>.swap
  .refine Zok<|Zow<|ZoK<|Yp (cs:=Zak.zero.cs) h3 rfl λt4 w4 h4=>Zq h4 0 rfl (vs:=(ZmU (Zs x.w f) N).cs) rfl rfl (by decide) (Zg _) (cs':=(ZmU (Zs x.w f) N).cs) (by rfl) λw5 h5=>?_;have hlen:(Zo7 x.w f (Zs x.w f) N).length<=24:=Zge hI.may (ZaN hf) (b:=(N.st,N.sent)) (x:=hdM N.q);refine ZXE (l:=Zo7 x.w f (Zs x.w f) N) 1 rfl h5 (λ_=>Zp) (by omega) λv' w6 h6=>?_;have hst:Nd.step x.w f (.slow N)=(0,(Zo7 x.w f (Zs x.w f) N).map Zae,.slow<|Zmn (Zs x.w f) N):=if_pos hsf;rw[hst] at hk;refine Z0n (M:=M) (n:=n) (n':=n+1) (N:=.slow<|Zmn (Zs x.w f) N) (l:=(Zo7 x.w f (Zs x.w f) N).map Zae) (S:=DI v' _) (Nat.le_succ n) hf hI hs (by rw[hN];rfl) (by rw[hN];rfl) (by rw[hN];rfl) (by rw[List.length_map];omega) ?_ (λ_=>Zp) λM' w' h7=>hk M' w' h7;exact h6.sn 4 [0,3]
 | bold N r t=>
  rw[hN] at hk h1;refine Ze7 (by show ¬(r:Int)<0;omega)<|Zf<|Zh<|Za<|ZYH (i:=2) (j:=4) hf rfl rfl hS ?_;rw[hN];refine Z07 hn 10 rfl hr hx h1 (λhsf w3 h3=>?_)<|λhsf v w3 h3=>?_
  .refine Zok<|Zow<|ZoK<|Yp (cs:=Zak.zero.cs) h3 rfl λt4 w4 h4=>Zq h4 0 rfl (vs:=Zak.zero.cs) rfl rfl (by decide) (Zg _) (cs':=Zak.zero.cs) (by kernel_rfl) λw5 h5=>?_;have hst:Nd.step x.w f (.bold N r t)=(Zcl x.w f (Zs x.w f) N,[],.bold N r t):=if_neg hsf;rw[hst] at hk;refine Z0n (M:=M) (n:=n) (n':=n+1) (N:=.bold N r t) (l:=[]) (S:=pur True) (Nat.le_succ n) hf hI hs (by rw[hN]) (by rw[hN]) (by rw[hN]) (by decide) ?_ Z1W λM' w' h7=>hk M' w' h7;exact (h5.drop.imp<|ZYM (N:=.bold N r t)<|Nat.le_succ n).mk_pure trivial
  .refine Zok<|Zow<|ZoK<|Yp (cs:=Zak.zero.cs) h3 rfl λt4 w4 h4=>Zq h4 0 rfl (vs:=(ZfV<|Zin x.w f (Zs x.w f) N).cs) rfl rfl (by decide) (Zg _) (cs':=(ZfV<|Zin x.w f (Zs x.w f) N).cs) (by rfl) λw5 h5=>?_;have hst:Nd.step x.w f (.bold N r t)=(0,ZqQ x.w<|Zin x.w f (Zs x.w f) N,.bold (Zcv N) r t):=if_pos hsf;rw[hst] at hk;refine Z0n (M:=M) (n:=n) (n':=n+1) (N:=.bold (Zcv N) r t) (l:=ZqQ x.w<|Zin x.w f (Zs x.w f) N) (S:=DI v _) (Nat.le_succ n) hf hI hs (by rw[hN];rfl) (by rw[hN];rfl) (by rw[hN];rfl) ?_ h5.drop (λ_=>Zp) λM' w' h7=>hk M' w' h7;unfold ZqQ;rw[List.length_map];exact Nat.le_trans (List.length_filter_le _ _)<|Nat.le_trans (Zge hI.may<|ZaN hf) (by decide)
theorem ZW2 (c' c:CL) (hc:k.cut=some c) (h:Sat e w<|ZYK M.c (Zai x.w) (Zcg (Zai x.w) c')::([Yh<|ZVT x n k M,Yh<|ZVO x k M,RBk p x k M,RSl x k M,RBo x k M,RRk x k M,RXv x M,RTl x k M,RGn x k M]++Q)):Sat e w (RP p x n { k with cut:=some c' } M++Q):=by
 have e1:RBk p x k M=RBk p x { k with cut:=some c' } M:=by show blk p _ [_,_,_,_,_,_,_,_,_,ZG0 k.cut M.c]=_;rw[hc];rfl
 rw[e1] at h;exact Sat.putB (L:=RP p x n { k with cut:=some c' } M++Q) 9 rfl h
theorem ZWZ {c:CL} (hc:k.cut=some c) (h:Sat e w<|RP p x n k M++Q):Sat e w (ZYK M.c (Zai x.w) (Zcg (Zai x.w) c)::([Yh<|ZVT x n k M,Yh<|ZVO x k M,RBk p x k M,RSl x k M,RBo x k M,RRk x k M,RXv x M,RTl x k M,RGn x k M]++Q)):=by
 have h1:=h.pick 9 rfl;rw[show RCk x k M=ZYK M.c (Zai x.w) (Zcg (Zai x.w) c) by show ZN9 _ k.cut _=_;rw[hc];rfl] at h1;exact h1
theorem Z0D {c:CL} (hc:k.cut=some c):(Z0p x k M)[9]?=some (pt M.c):=by show some (ZG0 k.cut M.c)=_;rw[hc];rfl
theorem Z1t {N:WN} {r:Nat} {t:Int} (h:k.node f=.bold N r t):rkI (k.node f)=(r:Int):=by rw[h];rfl
theorem ZZs (hf:f<x.w.Feds.length) (hI:Ze1 x.w k s) (hs:s<=1000000) (hS:Sat e w<|RP p x n k M++Q)
  (hk:∀M' w',Sat e w' (RP p x n (k.flush f).2 M'++Q)->K (Iw (k.flush f).1) w'):Cl prog 48 #[pt p,Iw (f:Int)] w K:=by
 refine ZWE ?_;unfold ZVJ;rw[ZWS];have hld:=λ{K:KV} (h:K (M.vs f) w)=>ZYa (i:=2) (j:=6) hf rfl rfl hS h;refine Zh<|Za<|hld<|Zt hS 1 rfl (ZXQ hf) ?_;have hn8:=hI.may.n;cases hb:k.box f with
 | nil=>
  have hfl:k.flush f=(150,k):=by unfold KS.flush;rw[hb]
  rw[hfl] at hk;exact Znq rfl (Zi<|hk M _ hS)
 | cons i r=>
  have hi:Zb8 x.w.Feds.length i:=hI.box f i (by rw[hb];exact List.mem_cons_self ..);obtain ⟨b,hTo⟩:∃b:Nat,i.m.To=b:=⟨i.m.To.toNat,by have:=hi.to;omega⟩;have hbl:b<x.w.Feds.length:=by have:=hi.to;omega
  have hbT:i.m.To.toNat=b:=by omega
  refine Zd8 (by simp;omega)<|Zf<|Zh<|Za<|hld<|Zw (j:=0) hS 1 rfl (ZXQ hf) (λ_=>rfl) (x:=i) (by rw[hb];rfl) λa ha=>Ym hS 1 rfl ha rfl ?_;refine Yp (cs:=Zn.zero.cs) hS rfl λt5 w1 h1=>Zq h1 0 rfl (vs:=i.cs) rfl rfl (by decide) (Zg _) (cs':=i.cs) (by rfl) λw2 h2=>?_;have h2:Sat e w2 (RP p x n k M++blk t5 88 i.cs::Q):=Sat.putB (L:=RP p x n k M++(blk t5 88 i.cs::Q)) 10 rfl h2;refine Za<|Za<|Zb h2 10 rfl (v:=Iw i.m.To) rfl<|Zh<|Za<|Zb h2 2 rfl (v:=pt M.g) rfl ?_;rw[hTo];refine ZYJ (h2.pick 8 rfl) λw4 h4=>?_;have h5:Sat e w4 (RP p x n k M++blk t5 88 i.cs::Q):=Sat.putB (L:=RP p x n k M++(blk t5 88 i.cs::Q)) 8 rfl h4;obtain ⟨_,_,hnet,_⟩:=ZX0<|h5.pick 8 rfl;by_cases hok:okL x.w.Feds.length f b
  case neg=>
   have hr0:k.roomAt f b=0:=by
    unfold KS.roomAt;rw[hI.nl];unfold okL at hok;exact if_neg (by omega)
   have hfl:k.flush f=(2,k):=by
    unfold KS.flush;rw[hb];exact if_pos (by rw[hTo];exact hr0)
   rw[hfl] at hk;rw[if_neg hok];exact Znq rfl<|Zi<|hk M _ (h5.pick 10 rfl).drop
  have hrm:(((k.q f b).length:Nat):Int)<=k.room:=hnet.2.2.2.2.2 f b hf hbl;have hr1:k.roomAt f i.m.To=k.room - (k.q f b).length:=by
   unfold KS.roomAt;rw[hI.nl,hTo];unfold okL at hok;exact if_pos (by omega)
  rw[if_pos hok];refine ZoR (λc1=>Zi ?_)<|λc1=>Zf ?_
  .have c1:(k.room:Int) - ((k.q f b).length:Nat)=0:=c1;have hfl:k.flush f=(2,k):=by
    unfold KS.flush;rw[hb];exact if_pos (by omega)
   rw[hfl] at hk;exact hk M _ (h5.pick 10 rfl).drop
  have c1:¬(k.room:Int) - ((k.q f b).length:Nat)=0:=c1;rw[ZvZ hb (by omega)] at hk;refine Zo h5 10 (vs:=i.cs) rfl (by rfl) rfl ?_;refine ZXT hf hbl h5 λw6 h6=>?_;obtain ⟨eN,eB,eG,eR⟩:=Zwd (k:=k) (f:=f) i;have hkI:=Zww (k:=k) (f:=f) hi;refine J0.cut (λw=>Sat e w<|RP p x n (Zki k f i) M++blk t5 88 (Zkh k f i).cs::Q) (λk1 hcut=>?_) ?_
  .cases hcn:k.counted f b i with
   | false=>
    refine Zf<|hcut _ ?_;rw[show Zki k f i=k by unfold Zki;rw[hbT,hcn],show Zkh k f i=i by unfold Zkh;rw[hbT,hcn]];exact h6
   | true=>
    obtain ⟨hbf,_⟩:=ZkG hcn;obtain ⟨c,hc,hco⟩:=Zll hI hf hbf;obtain ⟨N,rk,t,hN⟩:=Zt9 hbf;have hrk:rk<Zai x.w:=by have:=hI.rank f hf hbf;rw[hN] at this;exact this
    rw[show Zki k f i={ k with cut:=some (c.sent rk i.m.key.T) } by unfold Zki;rw[hbT,hcn,hc,hN];rfl,show Zkh k f i=⟨i.Kind,i.m,c.t rk % 2⟩ by unfold Zkh;rw[hbT,hcn,hc,hN];rfl] at hcut;refine Zi<|ZaY h6 λw7 h7=>Zh<|Za<|Zb h7 2 rfl (Z0D hc)<|Zh<|Za<|ZYp (i:=2) (j:=5) hf rfl rfl h7 ?_;rw[Z1t hN];refine Za<|Za<|Za<|Zb h7 10 rfl (v:=Iw i.m.key.T) rfl<|ZZI hrk hi.time (Zyb hco hs) (ZWZ hc h7) λw9 h9=>?_;rw[ZvG] at h9;refine Zam<|Zal<|Za<|Zq (ZW2 _ c hc h9) 10 rfl (vs:=[Iw<|c.t rk % 2]) rfl rfl (Nat.le_of_ble_eq_true rfl) (by simp[flat]) (cs':=(⟨i.Kind,i.m,c.t rk % 2⟩:Zn).cs) (by rfl) λw10 h10=>hcut _ h10
  .intro w7 h7;generalize hk1:Zki k f i=k1 at*;generalize hi1:Zkh k f i=i1 at*;have hbx:k1.box f=i::r:=by rw[<-hb];unfold KS.box;rw[eB]
   have hq1:∀a b,k1.q a b=k.q a b:=λa b=>by unfold KS.q;rw[eG]
   have h8:Sat e w7 (RP p x n k1 M++(blk t5 88 i1.cs::Q)):=h7;refine ZaY h8 λw8 h8=>Zh<|Za<|Zb h8 2 rfl (v:=pt M.g) rfl<|Zo h8 10 (vs:=i1.cs) rfl (by rfl) rfl ?_;have hE:ZY9 x.w.Feds.length k1.room (λa b=>k1.q a b) f b i1=0:=by
    unfold ZY9;have h1:=hkI.kind;have h2:=hkI.col;rw[if_neg (by rintro (h | h | h | h);exact h hok;all_goals omega),if_neg (by show ¬((k1.q f b).length:Int)=_;rw[hq1,eR];omega)]
   refine ZZK (h8.pick 8 rfl) λw9 h9=>?_;rw[hE];rw[show Z06 x.w.Feds.length k1.room (λa b=>k1.q a b) f b i1=_ from if_pos hE] at h9;have h10:Sat e w9 (ZVw M.g x.w.Feds.length k1.room (ZvY (λa b=>k1.q a b) f b<|k.q f b++[i1])::(RP p x n k1 M++(blk t5 88 i1.cs::Q)).eraseIdx 8):=by rw[<-hq1 f b];exact h9
   rw[ZvB (k:=k1) (wd:=x.w) (by rw[eG];exact hI.netl) (λa ha=>by rw[eG];exact hI.rowl a ha) hf hbl] at h10;rw[hbT] at hk;generalize hk2:k1.setQ f b (k.q f b++[i1])=k2 at h10;have e2b:k2.boxes=k1.boxes:=by rw[<-hk2];rfl
   have h11:Sat e w9 (RP p x n k2 M++(blk t5 88 i1.cs::Q)):=by
    rw[<-hk2] at h10 ⊢;exact Sat.putB (L:=RP p x n k1 M++(blk t5 88 i1.cs::Q)) 8 rfl h10
   have hbx2:k2.box f=i::r:=by rw[<-hbx];unfold KS.box;rw[e2b]
   refine Znq rfl<|J0.cut (λw=>K (Iw 0) w) (λk3 hcut=>?_) λ_ h=>h;refine Zi<|Zw3 h11 Zn.cs λv1 w12 h12=>ZaY h12 λw13 h13=>Zh<|Za<|Zb h13 3 rfl (v:=M.xv) rfl<|Zh<|Za<|ZYa (i:=3) (j:=7) hf rfl rfl h13<|Zox (lo:=1) h13 2 rfl (ZXQ hf) (λ_=>rfl) (by rw[hbx2,List.length_cons];omega) λv' hv'=>?_;rw[hbx2] at hv';have hlen:=Znn hI hs f;rw[hb,List.length_cons] at hlen;refine Zcs ZW8 ZW8.und (f:=Zn.cs) (l:=[]) (m:=r) (λ_=>rfl) (λ_ _=>Zg _) (h13.pick 2 rfl).swap hv' (by rw[List.length_nil];omega) λv3 w14 h14=>?_;rw[List.nil_append] at h14;refine Z0M (k:=k2) hf (by rw[e2b,eB];exact hI.bl) h14 λw15 h15=>hcut _ ?_;rw[<-hk2,show (k1.setQ f b<|k.q f b++[i1]).boxes=k.boxes from eB] at h15;rw[<-eB] at hk;exact hk _ _ (by rw[eB];exact (Sat.pick (l:=RP p x n _ _++(_::Q)) h15 10 rfl).drop)
end Go.Proofs.YtceipnkeijhebaaGreat
end
