/- Texts of the proof, joined. Conditions: none. -/
import Derived.Test.YtceipnkeijhebaaGreatS2
section
namespace Go.Proofs.YtceipnkeijhebaaGreat
open Go Go.E
set_option maxRecDepth 100000
variable {e w:World} {L R:List HP} {K:KV} {S:HP}
theorem ZKD {v:Value} {l:List Int} (i:Nat) (hi:L[i]?=some S) (hS:Sat e w L) (hr:∀g,S g->rdS 1 (Ye .i64) v l g) (hk:K (Iw<|ZhY l) w):Cl prog 79 #[v] w K:=by
 refine ZJ0 ?_;unfold ZJG;have hbad:¬ZkT l->K (Iw 50) w:=λh=>by unfold ZhY at hk;rw[if_neg h] at hk;exact hk
 refine Zt hS i hi hr ?_;by_cases c1:1<=l.length
 case neg=>
  exact Qltt<|Zd<|Zd<|Zd<|Yv<|Zi<|hbad λh=>c1 h.1
 refine Qltf<|Zj<|Zj<|Zt hS i hi hr ?_;by_cases c2:l.length<=16
 case neg=>
  exact Ze<|Qgtt<|Yd<|Zi<|hbad λh=>c2 h.2.1
 refine Ze<|Qgtf<|Yd<|Zf<|Zdk (λq t8 w'=>∃j:Nat,j<=l.length/\t8=Iw j/\q=l.length - j/\(∀(i:Nat) p,i<j->l[i]?=some p->-1<=p/\p<i)/\w'=w) l.length ⟨0,Nat.zero_le _,rfl,rfl,λ_ _ h=>absurd h (by omega),rfl⟩ ?_;rintro q _ w' g ⟨j,hj,rfl,rfl,hno,rfl⟩ hg;refine Zt hS i hi hr<|Za7 (λc=>Zi ?_)<|λc=>Zf ?_
 .obtain ⟨y,hy⟩:=Zk (l:=l) (j:=j) (by omega);refine Zw hS i hi hr (λ_=>rfl) hy λa ha=>Yt hS i hi ha (v:=Iw y) rfl ?_;by_cases c3:y < -1
  .exact Qltt<|Zd<|Zd<|Zd<|Zd<|Zd<|Zd<|Yv<|Zi (hbad λh=>by have:=h.2.2 j y hy;omega)
  .refine Ze7 c3<|Zj<|Zj<|Zj<|Zw hS i hi hr (λ_=>rfl) hy λa ha=>Zj<|Yt hS i hi ha (v:=Iw y) rfl ?_;by_cases c4:(j:Int)<=y
   .exact Zj<|Ze<|Qget<|Yd<|Zi (hbad λh=>by have:=h.2.2 j y hy;omega)
   .refine Zj<|Ze<|Qgef<|Yd<|Zf<|Qincs<|hg _ _ _ (by omega) ⟨j+1,by omega,rfl,rfl,λi p hi hp=>?_,rfl⟩;by_cases h:i=j
    .subst h;rw[hy] at hp;cases hp;omega
    .exact hno i p (by omega) hp
 .have ej:j=l.length:=by omega
  unfold ZhY at hk;rw[if_pos ⟨c1,c2,λi p hp=>hno i p (by have:=(List.getElem?_eq_some_iff.1 hp).1;omega) hp⟩] at hk;exact hk
theorem ZKB {v:Value} {l:List Int} {x:Int} (i:Nat) (hi:L[i]?=some S) (hS:Sat e w L) (hr:∀g,S g->rdS 1 (Ye .i64) v l g) (hl:l.length<=1000000) (hk:K (.bool<|decide<|x∈l) w):Cl prog 144 #[v,Iw x] w K:=by
 refine ZKf<|Zdk (λq t8 w'=>∃j:Nat,j<=l.length/\t8=Iw j/\q=l.length - j/\x∉l.take j/\w'=w) l.length ⟨0,Nat.zero_le _,rfl,rfl,by simp,rfl⟩ ?_;rintro q _ w' g ⟨j,hj,rfl,rfl,hno,rfl⟩ hg;refine Zt hS i hi hr<|Za7 (λc=>Zi ?_)<|λc=>Zf ?_
 .obtain ⟨y,hy⟩:=Zk (l:=l) (j:=j) (by omega);refine Zw hS i hi hr (λ_=>rfl) hy λa ha=>Yt hS i hi ha (v:=Iw y) rfl<|ZoR (λc2=>Zi ?_)<|λc2=>Zf ?_
  .rw[decide_eq_true<|c2▸List.mem_of_getElem? hy] at hk;exact hk
  .refine Qincs<|hg _ _ _ (by omega) ⟨j+1,by omega,rfl,rfl,?_,rfl⟩;rw[List.take_add_one,hy];simp[hno,Ne.symm c2]
 .have ej:j=l.length:=by omega
  rw[ej,List.take_length] at hno;rw[decide_eq_false hno] at hk;exact hk
theorem ZJE {n m:Int} (hk:K (.bool<|decide<|0<=n/\n<m) w):Cl prog 211 #[Iw n,Iw m] w K:=by
 refine ZKr ?_;unfold ZKp;by_cases c1:0<=n
 .by_cases c2:n<m
  .rw[decide_eq_true ⟨c1,c2⟩] at hk;exact Qget<|Ze<|Ze<|Ze<|Qltt<|Yv hk
  .rw[decide_eq_false λh=>c2 h.2] at hk;exact Qget<|Ze<|Ze<|Ze<|Qltf<|Yv hk
 .rw[decide_eq_false λh=>c1 h.1] at hk;exact Qgef<|Zu<|Zu<|Zd<|Yd hk
theorem ZK9 {r:Yg} (i:Nat) (hi:L[i]?=some S) (hS:Sat e w L) (hr:∀g,S g->rdS 3 Out.cs r.sv r.Sends g) (hl:r.Sends.length<=1000000) (hk:∀w',Sat e w' L->∀b:Bool,(b=true↔ZrU r.r)->K (.bool b) w') :
  Cl prog 190 #[.agg r.cs.toArray] w K:=by
 refine ZJ9 ?_;unfold ZJU;refine Yp (cs:=r.cs) hS rfl λtb w1 h1=>?_;have hi1:(blk tb 54 r.cs::L)[i+1]?=some S:=hi;have hno:¬ZrU r.r->∀w',Sat e w' (blk tb 54 r.cs::L)->K Bf w':=λh w' h'=>hk _ h'.drop false ⟨(λh=>by cases h),λh2=>absurd h2 h⟩;refine Za<|Zb h1 0 rfl (v:=Iw r.State) rfl<|ZJE<|Zk5 ?_;by_cases d1:0<=r.State/\r.State<8
 case neg=>
  rw[decide_eq_false d1,Bool.not_false];exact Zd<|Zd<|Zd<|Zd<|Yv<|Zd<|Zd<|Zd<|Zd<|Yv<|Zd<|Zd<|Zd<|Zd<|Yv<|Zi<|hno (λh=>d1 ⟨h.1,h.2.1⟩) _ h1
 rw[decide_eq_true d1,Bool.not_true];refine Ze<|Za<|Ze<|Zb h1 0 rfl (v:=Iw r.Next) rfl<|Zj<|ZJE<|Zj<|Zk5 ?_;by_cases d2:0<=r.Next/\r.Next<8
 case neg=>
  rw[decide_eq_false d2,Bool.not_false];exact Yd<|Zd<|Zd<|Zd<|Zd<|Yv<|Zd<|Zd<|Zd<|Zd<|Yv<|Zi<|hno (λh=>d2 ⟨h.2.2.1,h.2.2.2.1⟩) _ h1
 rw[decide_eq_true d2,Bool.not_true];refine Yd<|Ze<|Za<|Ze<|Zb h1 0 rfl (v:=Iw r.Class) rfl<|Zj<|ZJE<|Zj<|Zk5 ?_;by_cases d3:0<=r.Class/\r.Class<16
 case neg=>
  rw[decide_eq_false d3,Bool.not_false];exact Yd<|Zd<|Zd<|Zd<|Zd<|Yv<|Zi<|hno (λh=>d3 ⟨h.2.2.2.2.1,h.2.2.2.2.2.1⟩) _ h1
 rw[decide_eq_true d3,Bool.not_true];refine Yd<|Ze<|Za<|Ze<|Zb h1 0 rfl (v:=r.sv) rfl<|Zj<|Zt h1 (i+1) hi1 hr ?_;by_cases d4:3<r.Sends.length
 .exact Ze<|Qgtt<|Yd<|Zi<|hno (λh=>by have:=h.2.2.2.2.2.2.1;simp only[Yg.r] at this;omega) _ h1
 refine Ze<|Qgtf<|Yd<|Zf<|Zdk (λq t w=>∃j:Nat,j<=r.Sends.length/\t=Iw j/\q=r.Sends.length - j/\(∀o∈r.Sends.take j,ZuI o)/\Sat e w (blk tb 54 r.cs::L)) r.Sends.length ⟨0,Nat.zero_le _,rfl,rfl,by simp,h1⟩ ?_;rintro q _ w g ⟨j,hj,rfl,rfl,hall,h2⟩ hg;refine Za<|Zb h2 0 rfl (v:=r.sv) rfl<|Zt h2 (i+1) hi1 hr<|Za7 (λc=>Zi ?_)<|λc=>Zf ?_
 .obtain ⟨o,ho⟩:=Zk (l:=r.Sends) (j:=j) (by omega);have hom:=List.mem_of_getElem? ho;refine Za<|Zb h2 0 rfl (v:=r.sv) rfl<|Zw h2 (i+1) hi1 hr (λ_=>rfl) ho λa ha=>Ym h2 (i+1) hi1 ha rfl ?_;rw[ZYy];refine Yp (cs:=Yi [0,0,0]) h2 rfl λt2 w3 h3=>Zq h3 0 rfl (vs:=o.cs) rfl rfl (by decide) (Zg _) (cs':=o.cs) (by rfl) λw4 h4=>?_;have hno2:¬ZuI o->K Bf w4:=λh=>hno (λh2=>h<|h2.2.2.2.2.2.2.2 o hom) _ h4.drop;refine Za<|Zb h4 0 rfl (v:=Iw o.Class) rfl<|ZJE<|Zk5 ?_;by_cases d1:0<=o.Class/\o.Class<16
  case neg=>
   rw[decide_eq_false d1,Bool.not_false];exact Zd<|Zd<|Zd<|Zd<|Yv<|Zd<|Zd<|Zd<|Zd<|Yv<|Zi<|hno2 λh=>d1 ⟨h.1,h.2.1⟩
  rw[decide_eq_true d1,Bool.not_true];refine Ze<|Za<|Ze<|Zb h4 0 rfl (v:=Iw o.Delay) rfl<|Zj<|ZJE<|Zj<|Zk5 ?_;by_cases d2:0<=o.Delay/\o.Delay<1048577
  case neg=>
   rw[decide_eq_false d2,Bool.not_false];exact Yd<|Zd<|Zd<|Zd<|Zd<|Yv<|Zi<|hno2 λh=>d2 ⟨h.2.2.1,h.2.2.2.1⟩
  rw[decide_eq_true d2,Bool.not_true];refine Yd<|Ze<|Za<|Ze<|Zb h4 0 rfl (v:=Iw o.Add) rfl<|Zj<|ZJE<|Zj<|Zk5 ?_;by_cases d3:0<=o.Add/\o.Add<1000
  case neg=>
   rw[decide_eq_false d3,Bool.not_false];exact Yd<|Zi<|hno2 λh=>d3 ⟨h.2.2.2.2.1,h.2.2.2.2.2⟩
  rw[decide_eq_true d3,Bool.not_true];refine Yd<|Zf<|Qincs<|hg _ _ _ (by omega) ⟨j+1,by omega,rfl,rfl,λx hx=>?_,h4.drop⟩;rw[List.take_add_one,ho] at hx;rcases List.mem_append.1 hx with h | h
  .exact hall x h
  .simp at h;subst h;exact ⟨d1.1,d1.2,d2.1,d2.2,d3.1,d3.2⟩
 .have ej:j=r.Sends.length:=by omega
  rw[ej,List.take_length] at hall;exact hk _ h2.drop true ⟨λ_=>⟨d1.1,d1.2,d2.1,d2.2,d3.1,d3.2,by simp only[Yg.r];omega,hall⟩,λ_=>rfl⟩
def ZxS (s c:Int) (r:Yg):Prop:=r.State=s/\r.Class=c
theorem ZKI {v:Value} {l:List Yg} {s c:Int} (i:Nat) (hi:L[i]?=some S) (hS:Sat e w L) (hr:∀g,S g->rdS 4 Yg.cs v l g) (hl:l.length<=1000000)
  (hno:(∀r∈l,¬ZxS s c r)->K (Iw (-1)) w) (hyes:∀(j:Nat) r,l[j]?=some r->ZxS s c r->(∀y∈l.take j,¬ZxS s c y)->K (Iw j) w):Cl prog 191 #[v,Iw s,Iw c] w K:=by
 refine ZJ3<|Zdk (λq t w'=>∃j:Nat,j<=l.length/\t=Iw j/\q=l.length - j/\(∀y∈l.take j,¬ZxS s c y)/\w'=w) l.length ⟨0,Nat.zero_le _,rfl,rfl,by simp,rfl⟩ ?_;rintro q _ w' g ⟨j,hj,rfl,rfl,hlo,rfl⟩ hg;refine Zt hS i hi hr<|Za7 (λc0=>Zi ?_)<|λc0=>Zf ?_
 .obtain ⟨r,hrj⟩:=Zk (l:=l) (j:=j) (by omega);have hnext:¬ZxS s c r->bi .add .i64 (Iw j) (Iw 1) w' λt13 w=>g [t13] w:=by
   intro h;refine Qincs<|hg _ _ _ (by omega) ⟨j+1,by omega,rfl,rfl,λy hy=>?_,rfl⟩;rw[List.take_add_one,hrj] at hy;rcases List.mem_append.1 hy with h' | h'
   .exact hlo y h'
   .simp at h';subst h';exact h
  refine Zw hS i hi hr (λ_=>rfl) hrj λa ha=>Zbd ha λa1 ha1=>Yt hS i hi ha1 (v:=Iw r.State) rfl<|ZoR (λc1=>?_)<|λc1=>?_
  .refine Ze<|Ze<|Ze<|Zw hS i hi hr (λ_=>rfl) hrj λa ha=>Ze<|Zbd ha λa1 ha1=>Ze<|Yt hS i hi ha1 (v:=Iw r.Class) rfl<|Ze<|Ze<|ZoR (λc2=>?_)<|λc2=>?_
   .exact Yv<|Zi<|hyes j r hrj ⟨c1,c2⟩ hlo
   .exact Yv<|Zf<|hnext λh=>c2 h.2
  .exact Zu<|Zu<|Zd<|Zd<|Zd<|Zu<|Zd<|Yd<|Zf<|hnext λh=>c1 h.1
 .have ej:j=l.length:=by omega
  rw[ej,List.take_length] at hlo;exact hno hlo
theorem ZLl {r x:Yg}:ZxS r.State r.Class x↔onK x=onK r:=by
 unfold ZxS onK;simp
open Classical in
theorem ZKZ {v:Value} {l:List Yg} (i:Nat) (hi:L[i]?=some S) (hS:Sat e w L) (hr:∀g,S g->Zew v l g) (hl:∀r∈l,r.Sends.length<=1000000) (hk:∀w',Sat e w' L->K (Iw<|if Zc4 (l.map Yg.r) then 0 else 70) w') :
  Cl prog 142 #[v] w K:=by
 refine ZJZ ?_;unfold ZJH;have hbad:¬Zc4 (l.map Yg.r)->∀w',Sat e w' L->K (Iw 70) w':=λh w' h'=>by have:=hk w' h';rw[if_neg h] at this;exact this
 refine Zt hS i hi (λ_ h=>(hr _ h).s) ?_;by_cases c1:32<l.length
 .exact Qgtt<|Zi<|hbad (λh=>by have:=h.1;rw[List.length_map] at this;omega) _ hS
 refine Qgtf<|Zf ?_;refine Zdk (λq t14 w=>∃j:Nat,j<=l.length/\t14=Iw j/\q=l.length - j/\(∀r∈l.take j,ZrU r.r)/\((l.take j).map onK).Nodup/\Sat e w L) l.length
  ⟨0,Nat.zero_le _,rfl,rfl,by simp,by simp,hS⟩ ?_
 rintro q _ w g ⟨j,hj,rfl,rfl,hall,hnd,h2⟩ hg;refine Zt h2 i hi (λ_ h=>(hr _ h).s)<|Za7 (λc=>Zi ?_)<|λc=>Zf ?_
 .obtain ⟨r,hrj⟩:=Zk (l:=l) (j:=j) (by omega);have hrm:=List.mem_of_getElem? hrj;refine ZaY h2 λw3 h3=>Zw h3 i hi (λ_ h=>(hr _ h).s) (λ_=>rfl) hrj λa ha=>Ym h3 i hi ha rfl<|ZK9 i hi h3 (λ_ h=>(hr _ h).e r hrm) (hl r hrm) λw4 h4 b hb=>Zk5 ?_;cases b with
  | false=>
   rw[Bool.not_false];exact Zd (Zd<|Zd<|Zd<|Zd<|Zd<|Zd<|Zd<|Zd<|Zd<|Zd<|Zd<|Zd<|Zd<|Yv<|Zi<|hbad (λh=>by have:=hb.2<|(Zjx.1 h).2.1 r hrm;cases this) _ h4)
  | true=>
   have hok:=hb.1 rfl;rw[Bool.not_true];refine Zj<|Zj<|Zj<|Zj<|Zw h4 i hi (λ_ h=>(hr _ h).s) (λ_=>rfl) hrj λa ha=>Zj<|Zbd ha λa1 ha1=>Zj<|Yt h4 i hi ha1 (v:=Iw r.State) rfl<|Zj<|Zj<|Zj<|Zw h4 i hi (λ_ h=>(hr _ h).s) (λ_=>rfl) hrj λa ha=>Zj<|Zbd ha λa1 ha1=>Zj<|Yt h4 i hi ha1 (v:=Iw r.Class) rfl<|Zj<|Zj<|ZKI i hi h4 (λ_ h=>(hr _ h).s) (by omega) (λh=>absurd (⟨rfl,rfl⟩:ZxS r.State r.Class r)<|h r hrm)<|λn y hy hon hlo=>Zj<|ZrP (λc2=>?_)<|λc2=>?_
   .refine Yd<|Zi<|hbad (λh=>?_) _ h4;have hnj:n<j:=by
     rcases Nat.lt_or_ge n j with h | h
     .exact h
     .have hne:j<n:=by omega
      refine absurd (⟨rfl,rfl⟩:ZxS r.State r.Class r)<|hlo r<|List.mem_of_getElem? (i:=j) ?_;rw[List.getElem?_take_of_lt hne];exact hrj
    refine Zxg (Zjx.1 h).2.2 hrj ?_;rw[<-ZLl.1 hon];refine List.mem_map_of_mem<|List.mem_of_getElem? (i:=n) ?_;rw[List.getElem?_take_of_lt hnj];exact hy
   .refine Yd<|Zf<|Qincs ?_;have e1:n=j:=by omega
    subst e1;refine hg _ _ _ (by omega) ⟨n+1,by omega,rfl,rfl,λx hx=>?_,Ztv hnd hrj λhm=>?_,h4⟩
    .rw[List.take_add_one,hrj] at hx;rcases List.mem_append.1 hx with h | h
     .exact hall x h
     .simp at h;subst h;exact hok
    .obtain ⟨x,hx,he⟩:=List.mem_map.1 hm;exact hlo x hx<|ZLl.2 he
 .have ej:j=l.length:=by omega
  rw[ej,List.take_length] at hall hnd;have:=hk _ h2;rw[if_pos<|Zjx.2 ⟨by omega,hall,hnd⟩] at this;exact this
theorem Zqq {most:Int}:∀{l:List Int} {lo:Int},ZaF most lo l->∀c∈l,lo<c
 | [],_,_,c,hc=>by cases hc
 | a::l,lo,h,c,hc=>by
  obtain ⟨h1,h2,h3⟩:=h;rcases List.mem_cons.1 hc with rfl | hc
  .exact h1
  .have:=Zqq h3 c hc;omega
open Classical in
theorem ZKM {v:Value} {l:List Int} {most:Int} (i:Nat) (hi:L[i]?=some S) (hS:Sat e w L) (hr:∀g,S g->rdS 1 (Ye .i64) v l g) (hl:l.length<=1000) (hk:∀w',Sat e w' L->K (.bool<|decide<|ZaF most (-1) l) w') :
  Cl prog 143 #[v,Iw most] w K:=by
 refine ZJK ?_;unfold ZJu;have hbad:¬ZaF most (-1) l->∀w',Sat e w' L->K Bf w':=λh w' h'=>by have:=hk w' h';rw[decide_eq_false h] at this;exact this
 refine Zdk (λq t w=>∃j:Nat,j<=l.length/\t=Iw j/\q=l.length - j/\(∀(i:Nat) c,i<j->l[i]?=some c->(if i=0 then -1 else l.getD (i - 1) 0)<c/\c<most)/\Sat e w L) l.length ⟨0,Nat.zero_le _,rfl,rfl,λ_ _ h=>absurd h (by omega),hS⟩ ?_;rintro q _ w g ⟨j,hj,rfl,rfl,hno,h1⟩ hg;refine Zt h1 i hi hr<|Za7 (λc=>Zi ?_)<|λc=>Zf ?_
 .obtain ⟨y,hy⟩:=Zk (l:=l) (j:=j) (by omega);have hym:=List.mem_of_getElem? hy;refine ZaY h1 λw2 h2=>Zw h2 i hi hr (λ_=>rfl) hy λa ha=>Yt h2 i hi ha (v:=Iw y) rfl ?_;by_cases c1:y<0
  .refine Qltt<|Zd<|Zd<|Zd<|Zd<|Zd<|Zd<|Yv<|Zd<|Zd<|Zd<|Zrb<|Zrb<|Zrb<|Zrb<|Zrb<|Zrb<|Zrb<|Zrb<|Zrb<|Zrb<|Zd<|Yv<|Zi<|hbad (λh=>?_) _ h2;have:=Zqq h y hym;omega
  refine Ze7 c1<|Zj<|Zj<|Zj<|Zw h2 i hi hr (λ_=>rfl) hy λa ha=>Zj<|Yt h2 i hi ha (v:=Iw y) rfl ?_;by_cases c2:most<=y
  .refine Zj<|Zj<|Qget<|Yd<|Zd<|Zd<|Zd<|Zrb<|Zrb<|Zrb<|Zrb<|Zrb<|Zrb<|Zrb<|Zrb<|Zrb<|Zrb<|Zd<|Yv<|Zi<|hbad (λh=>?_) _ h2;have:=(ZhF.1 h j y hy).2;omega
  refine Zj<|Zj<|Qgef<|Yd ?_;have hnext:(if j=0 then (-1:Int) else l.getD (j - 1) 0)<y->∀w',Sat e w' L->bi .add .i64 (Iw j) (Iw 1) w' λt11 w=>g [t11] w:=by
   intro hlt w' h';refine Qincs<|hg _ _ _ (by omega) ⟨j+1,by omega,rfl,rfl,λi c hi hc=>?_,h'⟩;by_cases h:i=j
   .subst h;rw[hy] at hc;cases hc;exact ⟨hlt,by omega⟩
   .exact hno i c (by omega) hc
  by_cases c3:j=0
  .subst c3;exact Zj<|Zj<|Qgtf<|Zj<|Zu<|Zu<|Zu<|Zu<|Zu<|Zu<|Zu<|Zu<|Zu<|Zu<|Zj<|Yd<|Yd<|Zf<|hnext (by rw[if_pos rfl];omega) _ h2
  .refine Zj<|Zj<|Qgtt<|Zj ?_;obtain ⟨z,hz⟩:=Zk (l:=l) (j:=j - 1) (by omega);refine Ze<|Ze<|Ze<|Zw h2 i hi hr (λ_=>rfl) hy λa ha=>Ze<|Yt h2 i hi ha (v:=Iw y) rfl<|Ze<|Ze<|Ze<|Qsubs ?_;rw[show (j:Int) - 1=((j - 1:Nat):Int) from by omega];refine Ze<|Zw h2 i hi hr (λ_=>rfl) hz λa ha=>Ze<|Yt h2 i hi ha (v:=Iw z) rfl ?_;have hzz:l.getD (j - 1) 0=z:=by rw[List.getD_eq_getElem?_getD,hz];rfl
   refine Ze<|ZFH (λc4=>?_)<|λc4=>?_
   .refine Zj<|Yv<|Yd<|Zi<|hbad (λh=>?_) _ h2;have:=(ZhF.1 h j y hy).1;rw[if_neg c3,hzz] at this;omega
   .exact Zj<|Yv<|Yd<|Zf<|hnext (by rw[if_neg c3,hzz];omega) _ h2
 .have ej:j=l.length:=by omega
  have:=hk _ h1;rw[decide_eq_true<|ZhF.2 λi c hc=>hno i c (by have:=(List.getElem?_eq_some_iff.1 hc).1;omega) hc] at this;exact this
end Go.Proofs.YtceipnkeijhebaaGreat
namespace Go.Proofs.YtceipnkeijhebaaGreat
open Go Go.E
set_option maxRecDepth 100000
variable {e w:World} {L R:List HP} {K:KV} {S:HP}
open Classical in
theorem ZjK (f:Fed) (most:Int):Zre f most=if ¬(0<=f.Kind/\f.Kind<=1) then 1 else if ¬(1<=f.Look/\f.Look<=1048576) then 80 else if ¬(0<=f.Start/\f.Start<=7) then 70 else if ¬Zc4 f.Rules then 70
  else if ¬(ZaF most (-1) f.Pubs/\ZaF most (-1) f.Subs) then 81 else if Zca f most f.Rules≠0 then Zca f most f.Rules else if ¬ZlW f then 82 else 0:=by
 unfold Zre Zs3;simp only[Zbt,ZjN];by_cases p1:0<=f.Kind/\f.Kind<=1
 case neg=>simp[p1]
 by_cases p2:1<=f.Look/\f.Look<=1048576
 case neg=>simp[p1,p2]
 by_cases p3:0<=f.Start/\f.Start<=7
 case neg=>simp[p1,p2,p3]
 by_cases p4:Zc4 f.Rules
 case neg=>simp[p1,p2,p3,p4]
 by_cases p5:ZaF most (-1) f.Pubs/\ZaF most (-1) f.Subs
 case neg=>simp[p1,p2,p3,p4,p5]
 by_cases p6:Zca f most f.Rules=0
 case neg=>simp[p1,p2,p3,p4,p5,p6]
 by_cases p7:ZlW f <;> simp[p1,p2,p3,p4,p5,p6,p7]
open Classical in
theorem ZLh {f:Zao} {most:Int} (i:Nat) (hi:L[i]?=some S) (hS:Sat e w L) (hr:∀g,S g->ZmQ f g) (hs:f.short)
  (hk:∀w',Sat e w' L->K (Iw<|Zre f.f most) w'):Cl prog 80 #[.agg f.cs.toArray,Iw most] w K:=by
 refine ZKl ?_;unfold ZJ7;refine Yp (cs:=f.cs) hS rfl λb w1 h1=>?_;have hi1:(blk b 52 f.cs::L)[i+1]?=some S:=hi;rw[ZjK] at hk;refine Za<|Zb h1 0 rfl (v:=Iw f.Kind) rfl ?_;have hmid:∀K:KV,K (.bool<|decide<|¬(0<=f.Kind/\f.Kind<=1)) w1->bi .neq .i64 (Iw f.Kind) (Iw 0) w1 λt12 w=>
   gd t12 true (λk=>fld 0 (pt b) w k) w λt14 w=>
   gd t12 true (λk=>ld1 t14 w k) w λt15 w=>
   gd t12 true (λk=>bi .neq .i64 t15 (Iw 1) w k) w λt16 w=>
   pk t12 t16 Bf w K:=by
  intro K hK;by_cases q:f.Kind=0
  .rw[decide_eq_false (by omega)] at hK;exact Qnef<|Zd<|Zd<|Zd<|Yd hK
  .refine Qnet<|Ze<|Za<|Ze<|Zb h1 0 rfl (v:=Iw f.Kind) rfl ?_;by_cases q2:f.Kind=1
   .rw[decide_eq_false (by omega)] at hK;exact Ze<|Qnef<|Yv hK
   .rw[decide_eq_true (by omega)] at hK;exact Ze<|Qnet<|Yv hK
 refine hmid _ ?_;clear hmid;by_cases p1:0<=f.Kind/\f.Kind<=1
 case neg=>
  rw[if_pos (show ¬(0<=f.f.Kind/\f.f.Kind<=1) from p1)] at hk;rw[decide_eq_true p1];exact Zi<|hk _ h1.drop
 rw[if_neg (show ¬¬(0<=f.f.Kind/\f.f.Kind<=1) from λh=>h p1)] at hk;rw[decide_eq_false λh=>h p1];refine Zf<|Za<|Zb h1 0 rfl (v:=Iw f.Look) rfl ?_;by_cases p2:1<=f.Look/\f.Look<=1048576
 case neg=>
  rw[if_pos (show ¬(1<=f.f.Look/\f.f.Look<=1048576) from p2)] at hk;by_cases q:f.Look<1
  .exact Qltt<|Zd<|Zd<|Zd<|Yv<|Zi<|hk _ h1.drop
  .exact Qltf<|Ze<|Za<|Ze<|Zb h1 0 rfl (v:=Iw f.Look) rfl<|Ze<|Qgtt<|Yd<|Zi<|hk _ h1.drop
 rw[if_neg (show ¬¬(1<=f.f.Look/\f.f.Look<=1048576) from λh=>h p2)] at hk;refine Qltf<|Ze<|Za<|Ze<|Zb h1 0 rfl (v:=Iw f.Look) rfl<|Ze<|Qgtf<|Yd<|Zf<|Za<|Zb h1 0 rfl (v:=Iw f.Start) rfl ?_;by_cases p3:0<=f.Start/\f.Start<=7
 case neg=>
  rw[if_pos (show ¬(0<=f.f.Start/\f.f.Start<=7) from p3)] at hk;by_cases q:f.Start<0
  .exact Qltt<|Zd<|Zd<|Zd<|Yv<|Zd<|Zd<|Zd<|Zd<|Yv<|Zi<|hk _ h1.drop
  .exact Qltf<|Ze<|Za<|Ze<|Zb h1 0 rfl (v:=Iw f.Start) rfl<|Ze<|Qget<|Yd<|Zd<|Zd<|Zd<|Zd<|Yv<|Zi<|hk _ h1.drop
 rw[if_neg (show ¬¬(0<=f.f.Start/\f.f.Start<=7) from λh=>h p3)] at hk;refine Qltf<|Ze<|Za<|Ze<|Zb h1 0 rfl (v:=Iw f.Start) rfl<|Ze<|Qgef<|Yd<|Ze<|Za<|Ze<|Zb h1 0 rfl (v:=f.rv) rfl<|Zj<|ZKZ (i+1) hi1 h1 (λ_ h=>(hr _ h).rules) (λr hr=>by have:=hs.sends r hr;omega) λw2 h2=>?_;by_cases p4:Zc4<|f.Rules.map Yg.r
 case neg=>
  rw[if_pos (show ¬Zc4 f.f.Rules from p4)] at hk;rw[if_neg p4];exact Ze<|Qnet<|Yd<|Zi<|hk _ h2.drop
 rw[if_neg (show ¬¬Zc4 f.f.Rules from λh=>h p4)] at hk;rw[if_pos p4];refine Ze<|Qnef<|Yd<|Zf<|Za<|Zb h2 0 rfl (v:=f.pv) rfl<|ZKM (i+1) hi1 h2 (λ_ h=>(hr _ h).pubs) hs.pubs λw3 h3=>Zk5 ?_;by_cases p5:ZaF most (-1) f.Pubs/\ZaF most (-1) f.Subs
 case neg=>
  rw[if_pos (show ¬(ZaF most (-1) f.f.Pubs/\ZaF most (-1) f.f.Subs) from p5)] at hk;by_cases q:ZaF most (-1) f.Pubs
  .rw[decide_eq_true q,Bool.not_true];refine Ze<|Za<|Ze<|Zb h3 0 rfl (v:=f.sv) rfl<|Zj<|Zj<|ZKM (i+1) hi1 h3 (λ_ h=>(hr _ h).subs) hs.subs λw4 h4=>?_;rw[decide_eq_false λh=>p5 ⟨q,h⟩];exact Ze<|Zch<|Yd<|Zi<|hk _ h4.drop
  .rw[decide_eq_false q,Bool.not_false];exact Zd<|Zd<|Zd<|Zd<|Zd<|Yv<|Zi<|hk _ h3.drop
 rw[if_neg (show ¬¬(ZaF most (-1) f.f.Pubs/\ZaF most (-1) f.f.Subs) from λh=>h p5)] at hk;rw[decide_eq_true p5.1,Bool.not_true];refine Ze<|Za<|Ze<|Zb h3 0 rfl (v:=f.sv) rfl<|Zj<|Zj<|ZKM (i+1) hi1 h3 (λ_ h=>(hr _ h).subs) hs.subs λw4 h4=>?_;rw[decide_eq_true p5.2];refine Ze<|ZaJ<|Yd<|Zf ?_;clear h1 h2 h3;have hrl:=hs.rules;refine Zdk (λq t11 w=>∃j:Nat,j<=f.Rules.length/\t11=Iw j/\q=f.Rules.length - j/\Zca f.f most ((f.Rules.take j).map Yg.r)=0/\Sat e w (blk b 52 f.cs::L)) f.Rules.length ⟨0,Nat.zero_le _,rfl,rfl,rfl,h4⟩ ?_;clear h4;rintro q _ w g ⟨j,hj,rfl,rfl,hno,h1⟩ hg;refine Za<|Zb h1 0 rfl (v:=f.rv) rfl<|Zt h1 (i+1) hi1 (λ_ h=>(hr _ h).rules.s)<|Za7 (λc=>Zi ?_)<|λc=>Zf ?_
 .obtain ⟨r,hrj⟩:=Zk (l:=f.Rules) (j:=j) (by omega);have hrm:=List.mem_of_getElem? hrj;have hsl:=hs.sends r hrm;have hsp:f.f.Rules=(f.Rules.take j).map Yg.r++r.r::(f.Rules.drop<|j+1).map Yg.r:=by
   show f.Rules.map Yg.r=_
   conv=>lhs;rw[Zgn hrj]
   simp
  have hkE:∀E w',E≠0->Zca f.f most (r.r::(f.Rules.drop<|j+1).map Yg.r)=E->Sat e w' L->K (Iw E) w':=by
   intro E w' hE0 hE h';have:=hk w' h';rw[hsp,Zj3 _ _ _ _ hno,hE,if_pos hE0] at this;exact this
  refine Za<|Zb h1 0 rfl (v:=f.rv) rfl<|Zw h1 (i+1) hi1 (λ_ h=>(hr _ h).rules.s) (λ_=>rfl) hrj λa ha=>Zbd ha λa1 ha1=>Yt h1 (i+1) hi1 ha1 (v:=Iw r.Class) rfl<|Zu5 (λc2=>Zi ?_)<|λc2=>Zf ?_
  .refine hkE 81 _ (by decide) ?_ h1.drop;rw[Zcp,if_pos (show most<=r.r.Class from c2)]
  refine Zdk (λq t22 w=>∃n:Nat,n<=r.Sends.length/\t22=Iw n/\q=r.Sends.length - n/\ZbW f.f (r.Sends.take n)=0/\Sat e w (blk b 52 f.cs::L)) r.Sends.length ⟨0,Nat.zero_le _,rfl,rfl,rfl,h1⟩ ?_;rintro q _ w g2 ⟨n,hn,rfl,rfl,hso,h5⟩ hg2;refine Za<|Zb h5 0 rfl (v:=f.rv) rfl<|Zw h5 (i+1) hi1 (λ_ h=>(hr _ h).rules.s) (λ_=>rfl) hrj λa ha=>Zbd ha λa1 ha1=>Yt h5 (i+1) hi1 ha1 (v:=r.sv) rfl<|Zt h5 (i+1) hi1 (λ_ h=>(hr _ h).rules.e r hrm)<|Za7 (λc3=>Zi ?_)<|λc3=>Zf ?_
  .obtain ⟨o,ho⟩:=Zk (l:=r.Sends) (j:=n) (by omega);have hsp2:=Zgn ho;have hkS:∀E w',E≠0->ZbW f.f (o::r.Sends.drop (n+1))=E->Sat e w' L->K (Iw E) w':=by
    intro E w' hE0 hE h';refine hkE E w' hE0 ?_ h';have e1:ZbW f.f r.r.Sends=E:=by
     show ZbW f.f r.Sends=E;rw[hsp2,ZjG _ _ _ hso];exact hE
    rw[Zcp,if_neg (show ¬most<=r.r.Class by simp only[Yg.r];omega),e1,if_pos hE0]
   refine Za<|Zb h5 0 rfl (v:=f.rv) rfl<|Zw h5 (i+1) hi1 (λ_ h=>(hr _ h).rules.s) (λ_=>rfl) hrj λa ha=>Zbd ha λa1 ha1=>Yt h5 (i+1) hi1 ha1 (v:=r.sv) rfl<|Zw h5 (i+1) hi1 (λ_ h=>(hr _ h).rules.e r hrm) (λ_=>rfl) ho λa ha=>Ym h5 (i+1) hi1 ha rfl ?_;rw[ZYy];refine Yp (cs:=Yi [0,0,0]) h5 rfl λt2 w6 h6=>Zq h6 0 rfl (vs:=o.cs) rfl rfl (by decide) (Zg _) (cs':=o.cs) (by rfl) λw7 h7=>?_;have hi2:(blk t2 133 o.cs::blk b 52 f.cs::L)[i+2]?=some S:=hi;refine Za<|Zb h7 1 rfl (v:=f.pv) rfl<|Za<|Zb h7 0 rfl (v:=Iw o.Class) rfl<|ZKB (i+2) hi2 h7 (λ_ h=>(hr _ h).pubs) (by have:=hs.pubs;omega)<|Zk5 ?_;by_cases d1:o.Class∈f.Pubs
   case neg=>
    rw[decide_eq_false d1,Bool.not_false];refine Zi<|hkS 81 _ (by decide) ?_ h7.drop.drop;rw[Zco,if_pos (show o.Class∉f.f.Pubs from d1)]
   rw[decide_eq_true d1,Bool.not_true];refine Zf<|Za<|Zb h7 0 rfl (v:=Iw o.Delay) rfl<|Za<|Zb h7 1 rfl (v:=Iw f.Look) rfl<|Za7 (λd2=>Zi ?_)<|λd2=>Zf<|Qincs ?_
   .refine hkS 80 _ (by decide) ?_ h7.drop.drop;rw[Zco,if_neg (show ¬o.Class∉f.f.Pubs from λh=>h d1),if_pos (show o.Delay<f.f.Look from d2)]
   .refine hg2 _ _ _ (by omega) ⟨n+1,by omega,rfl,rfl,?_,h7.drop⟩;rw[List.take_add_one,ho,ZjG _ _ _ hso];show ZbW f.f [o]=0;rw[Zco,if_neg (show ¬o.Class∉f.f.Pubs from λh=>h d1),if_neg (show ¬o.Delay<f.f.Look from d2)];rfl
  .have en:n=r.Sends.length:=by omega
   rw[en,List.take_length] at hso;refine Qincs<|hg _ _ _ (by omega) ⟨j+1,by omega,rfl,rfl,?_,h5⟩;rw[List.take_add_one,hrj,List.map_append,Zj3 _ _ _ _ hno];show Zca f.f most [r.r]=0;rw[Zcp,if_neg (show ¬most<=r.r.Class by simp only[Yg.r];omega),if_neg (show ¬ZbW f.f r.r.Sends≠0 from λh=>h hso)];rfl
 .have ej:j=f.Rules.length:=by omega
  rw[ej,List.take_length] at hno;rw[show f.f.Rules=f.Rules.map Yg.r from rfl,hno,if_neg<|λh=>h rfl] at hk;have hbad:¬ZlW f.f->∀w',Sat e w' L->K (Iw 82) w':=λh w' h'=>by have:=hk w' h';rw[if_pos h] at this;exact this
  clear hg;refine Za<|Zb h1 0 rfl (v:=f.iv) rfl<|Zt h1 (i+1) hi1 (λ_ h=>(hr _ h).init)<|Ztu (λc2=>Zi ?_)<|λc2=>Zf ?_
  .exact hbad (λh=>by have h1:f.Init.length<=4:=h.1;omega) _ h1.drop
  refine Zdk (λq t w=>∃j:Nat,j<=f.Init.length/\t=Iw j/\q=f.Init.length - j/\(∀o∈f.Init.take j,ZDE f.f o)/\Sat e w (blk b 52 f.cs::L)) f.Init.length ⟨0,Nat.zero_le _,rfl,rfl,by simp,h1⟩ ?_;clear h1;rintro q _ w g ⟨j,hj,rfl,rfl,hall,h2⟩ hg;refine Za<|Zb h2 0 rfl (v:=f.iv) rfl<|Zt h2 (i+1) hi1 (λ_ h=>(hr _ h).init)<|Za7 (λc=>Zi ?_)<|λc=>Zf ?_
  .obtain ⟨o,ho⟩:=Zk (l:=f.Init) (j:=j) (by omega);have hom:=List.mem_of_getElem? ho;refine Za<|Zb h2 0 rfl (v:=f.iv) rfl<|Zw h2 (i+1) hi1 (λ_ h=>(hr _ h).init) (λ_=>rfl) ho λa ha=>Ym h2 (i+1) hi1 ha rfl ?_;rw[ZYy];refine Yp (cs:=Yi [0,0,0]) h2 rfl λt2 w3 h3=>Zq h3 0 rfl (vs:=o.cs) rfl rfl (by decide) (Zg _) (cs':=o.cs) (by rfl) λw4 h4=>?_;have hno2:¬ZDE f.f o->K (Iw 82) w4:=λh=>hbad (λh2=>h<|h2.2 o hom) _ h4.drop.drop;have hi2:(blk t2 133 o.cs::blk b 52 f.cs::L)[i+2]?=some S:=hi;refine Za<|Zb h4 1 rfl (v:=f.pv) rfl<|Za<|Zb h4 0 rfl (v:=Iw o.Class) rfl<|ZKB (i+2) hi2 h4 (λ_ h=>(hr _ h).pubs) (by have:=hs.pubs;omega)<|Zk5 ?_;by_cases d1:o.Class∈f.Pubs
   case neg=>
    rw[decide_eq_false d1,Bool.not_false];exact Zd<|Zd<|Zd<|Yv<|Zd<|Zd<|Zd<|Yv<|Zd<|Zd<|Zd<|Yv<|Zd<|Zd<|Zd<|Yv<|Zi<|hno2 λh=>d1 h.1
   rw[decide_eq_true d1,Bool.not_true];refine Ze<|Za<|Ze<|Zb h4 0 rfl (v:=Iw o.Delay) rfl ?_;by_cases d2:o.Delay<0
   .exact Ze<|Qltt<|Yd<|Zd<|Zd<|Zd<|Yv<|Zd<|Zd<|Zd<|Yv<|Zd<|Zd<|Zd<|Yv<|Zi (hno2 λh=>by have:=h.2.1;omega)
   refine Zj<|Ze7 d2<|Yd<|Ze<|Za<|Ze<|Zb h4 0 rfl (v:=Iw o.Delay) rfl ?_;by_cases d3:1099511627776<o.Delay
   .exact Ze<|Qgtt<|Yd<|Zd<|Zd<|Zd<|Yv<|Zd<|Zd<|Zd<|Yv<|Zi (hno2 λh=>by have:=h.2.2.1;omega)
   refine Zj<|Zle d3<|Yd<|Ze<|Za<|Ze<|Zb h4 0 rfl (v:=Iw o.Add) rfl ?_;by_cases d4:o.Add<0
   .exact Ze<|Qltt<|Yd<|Zd<|Zd<|Zd<|Yv<|Zi (hno2 λh=>by have:=h.2.2.2.1;omega)
   refine Zj<|Ze7 d4<|Yd<|Ze<|Za<|Ze<|Zb h4 0 rfl (v:=Iw o.Add) rfl ?_;by_cases d5:1000<=o.Add
   .exact Ze<|Qget<|Yd<|Zi (hno2 λh=>by have:=h.2.2.2.2;omega)
   refine Zj<|Qgef<|Yd<|Zf<|Qincs<|hg _ _ _ (by omega) ⟨j+1,by omega,rfl,rfl,λx hx=>?_,h4.drop⟩;rw[List.take_add_one,ho] at hx;rcases List.mem_append.1 hx with h | h
   .exact hall x h
   .simp at h;subst h;exact ⟨d1,by omega,by omega,by omega,by omega⟩
  .have ej:j=f.Init.length:=by omega
   rw[ej,List.take_length] at hall;have:=hk _ h2.drop;rw[if_neg (show ¬¬ZlW f.f from λh=>h ⟨by show f.Init.length<=4;omega,hall⟩)] at this;exact this
theorem ZKG {x:WdX} (i:Nat) (hi:L[i]?=some S) (hS:Sat e w L) (hr:∀g,S g->ZtG x g) (hs:x.short)
  (hk:∀w',Sat e w' L->K (.tuple #[Iw (Za4 x.w).1,Iw (Za4 x.w).2]) w'):Cl prog 31 #[.agg x.cs.toArray] w K:=by
 refine ZJY ?_;unfold ZJN;refine Yp (cs:=x.cs) hS rfl λb w1 h1=>?_;have hi1:(blk b 25 x.cs::L)[i+1]?=some S:=hi;have hfl:=hs.feds;refine Za<|Zb h1 0 rfl (v:=x.pv) rfl<|ZKD (i+1) hi1 h1 (λ_ h=>(hr _ h).par) ?_;by_cases p1:ZhY x.Parents=0
 case neg=>
  have:=hk _ h1.drop;unfold Za4 at this;rw[if_pos (show ZhY x.w.Parents≠0 from p1)] at this;exact Zng p1<|Zi this
 refine ZoP p1<|Zf<|Za<|Zb h1 0 rfl (v:=Iw x.End) rfl ?_;by_cases p2:(0<=x.End/\x.End<=1099511627776)/\(1<=(x.Feds.length:Int)/\(x.Feds.length:Int)<=8)
 case neg=>
  have hk:=hk _ h1.drop;unfold Za4 at hk;rw[if_neg (show ¬ZhY x.w.Parents≠0 from λh=>h p1),if_pos (by simp only[WdX.w,List.length_map];exact p2)] at hk;by_cases q1:x.End<0
  .exact Qltt<|Zd<|Zd<|Zd<|Yv<|Zd<|Zd<|Zd<|Zd<|Yv<|Zd<|Zd<|Zd<|Zd<|Yv<|Zi hk
  refine Ze7 q1<|Ze<|Za<|Ze<|Zb h1 0 rfl (v:=Iw x.End) rfl ?_;by_cases q2:1099511627776<x.End
  .exact Ze<|Qgtt<|Yd<|Zd<|Zd<|Zd<|Zd<|Yv<|Zd<|Zd<|Zd<|Zd<|Yv<|Zi hk
  refine Zj<|Zle q2<|Yd<|Ze<|Za<|Ze<|Zb h1 0 rfl (v:=x.fv) rfl<|Zj<|Zt h1 (i+1) hi1 (λ_ h=>(hr _ h).feds) ?_;by_cases q3:(x.Feds.length:Int)<1
  .exact Ze<|Qltt<|Yd<|Zd<|Zd<|Zd<|Zd<|Yv<|Zi hk
  exact Zj<|Ze7 q3<|Yd<|Ze<|Za<|Ze<|Zb h1 0 rfl (v:=x.fv) rfl<|Zj<|Zt h1 (i+1) hi1 (λ_ h=>(hr _ h).feds)<|Ze<|Qgtt<|Yd<|Zi hk
 have hk:∀w',Sat e w' L->K (.tuple #[Iw (Zm3 x.Parents.length 0<|x.Feds.map Zao.f).1,Iw (Zm3 x.Parents.length 0<|x.Feds.map Zao.f).2]) w':=by
  intro w' h';have:=hk w' h';unfold Za4 at this;rw[if_neg (show ¬ZhY x.w.Parents≠0 from λh=>h p1),if_neg (by simp only[WdX.w,List.length_map];exact λh=>h p2)] at this;exact this
 refine Qltf<|Ze<|Za<|Ze<|Zb h1 0 rfl (v:=Iw x.End) rfl<|Ze<|Qgtf<|Yd<|Ze<|Za<|Ze<|Zb h1 0 rfl (v:=x.fv) rfl<|Zj<|Zt h1 (i+1) hi1 (λ_ h=>(hr _ h).feds)<|Ze<|Qltf<|Yd<|Ze<|Za<|Ze<|Zb h1 0 rfl (v:=x.fv) rfl<|Zj<|Zt h1 (i+1) hi1 (λ_ h=>(hr _ h).feds)<|Ze<|Qgtf<|Yd<|Zf<|Zdk (λq t w=>∃j:Nat,j<=x.Feds.length/\t=Iw j/\q=x.Feds.length - j/\(∀f∈(x.Feds.take j).map Zao.f,Zre f x.Parents.length=0)/\Sat e w (blk b 25 x.cs::L)) x.Feds.length ⟨0,Nat.zero_le _,rfl,rfl,by simp,h1⟩ ?_;rintro q _ w g ⟨j,hj,rfl,rfl,hno,h6⟩ hg;refine Za<|Zb h6 0 rfl (v:=x.fv) rfl<|Zt h6 (i+1) hi1 (λ_ h=>(hr _ h).feds)<|Za7 (λc0=>Zi ?_)<|λc0=>Zf ?_
 .obtain ⟨f,hf⟩:=Zk (l:=x.Feds) (j:=j) (by omega);have hfm:=List.mem_of_getElem? hf;refine ZaY h6 λw7 h7=>Za<|Zb h7 0 rfl (v:=x.fv) rfl<|Zw h7 (i+1) hi1 (λ_ h=>(hr _ h).feds) (λ_=>rfl) hf λa ha=>Ym h7 (i+1) hi1 ha rfl<|Za<|Zb h7 0 rfl (v:=x.pv) rfl<|Zt h7 (i+1) hi1 (λ_ h=>(hr _ h).par)<|ZLh (i+1) hi1 h7 (λ_ h=>(hr _ h).fed f hfm) (hs.fed f hfm) λw9 h9=>?_;have hsp:x.Feds.map Zao.f=(x.Feds.take j).map Zao.f++f.f::(x.Feds.drop<|j+1).map Zao.f:=by
   conv=>lhs;rw[Zgn hf]
   simp
  have hlen:0+((x.Feds.take j).map Zao.f).length=j:=by rw[List.length_map,List.length_take];omega
  refine ZrP (λc2=>Zi ?_)<|λc2=>Zf<|Qincs ?_
  .have:=hk _ h9.drop;rw[hsp,ZlI _ _ _ _ hno,ZdR,if_pos c2,hlen] at this;exact this
  .refine hg _ _ _ (by omega) ⟨j+1,by omega,rfl,rfl,λy hy=>?_,h9⟩;rw[List.take_add_one,hf,List.map_append] at hy;rcases List.mem_append.1 hy with h | h
   .exact hno y h
   .simp at h;rw[h];exact c2
 .have ej:j=x.Feds.length:=by omega
  rw[ej,List.take_length] at hno;have:=hk _ h6.drop;rw[<-List.append_nil (x.Feds.map Zao.f),ZlI _ _ _ _ hno] at this;exact this
end Go.Proofs.YtceipnkeijhebaaGreat
end
section
namespace Go.E
open Go.RowKit
section
variable {α:Type} {e w:World} {L:List HP} {K:KV} {size:Nat} {f:α->List Value} {v:Value} {l:List α} {t:TypeId}
theorem Zma (hf:∀x,(f x).length=size) {j off:Nat} {x:α} (hx:l[j]?=some x) (ho:off<size):(l.flatMap f)[j*size+off]?=(f x)[off]?:=by
 have h:=congrArg (λy=>y[off]?)<|ZjU hf l j x hx;simp only[List.getElem?_take,List.getElem?_drop,if_pos ho] at h;exact h
theorem Zvm {b:Nat} (n:Nat):(⟨b,0,none⟩:Addr).add n=⟨b,n,none⟩:=by
 unfold Addr.add;split
 .rename_i h;rw[h]
 .simp
theorem ZjI {j:Nat} {k:IntKind} {x:α} (hS:Sat e w L) (i:Nat) (hi:L[i]?=some (Zz t size f v l)) (hx:l[j]?=some x)
  (hk:∀b c,v=.slice (some ⟨b,0,none⟩) l.length c->K (.pointer<|some ⟨b,j*size,none⟩) w):ixS size v (.int k (j:Int)) w K:=by
 have hj:=(List.getElem?_eq_some_iff.1 hx).1;obtain ⟨g,hg,_⟩:=hS.get i hi;rcases hg with ⟨_,rfl⟩ | ⟨b,c,cs,hv,_⟩
 .simp at hj
 .rw[hv];have h1:=hk b c hv;refine Zu3 hj ?_;rw[Nat.zero_add];exact h1
theorem ZwY {j off:Nat} {x:α} {u:Value} {b c:Nat} (hS:Sat e w L) (i:Nat) (hi:L[i]?=some (Zz t size f v l)) (hf:∀x,(f x).length=size) (hv:v=.slice (some ⟨b,0,none⟩) l.length c) (hx:l[j]?=some x) (hu:(f x)[off]?=some u) :
  w.cell? ⟨b,j*size+off,none⟩=some u:=by
 have hj:=(List.getElem?_eq_some_iff.1 hx).1;have ho:off<size:=by rw[<-hf x];exact (List.getElem?_eq_some_iff.1 hu).1
 obtain ⟨g,hg,hs⟩:=hS.get i hi;obtain ⟨A,c',h1,h2,h3⟩:=Zp hg;obtain ⟨a,h4,h5⟩:=h3 (by omega);rw[hv] at h1;injection h1 with e1;rw[h4] at e1;injection e1 with e1;subst e1;have h6:=(h5.up hs) (j*size+off) u (by rw[Zma hf hx ho];exact hu);rw[Zvm] at h6;exact h6
theorem Zaa {j off:Nat} {x:α} {u:Value} {b c:Nat} (hS:Sat e w L) (i:Nat) (hi:L[i]?=some (Zz t size f v l)) (hf:∀x,(f x).length=size) (hv:v=.slice (some ⟨b,0,none⟩) l.length c) (hx:l[j]?=some x) (hu:(f x)[off]?=some u)
  (hk:K u w):ld1 (.pointer<|some ⟨b,j*size+off,none⟩) w K:=⟨_,u,rfl,ZwY hS i hi hf hv hx hu,hk⟩
theorem ZAJ {cs:List Value} (hf:∀x,(f x).length=size) {j off:Nat} {x x':α} {us:List Value} (hx:l[j]?=some x) (ht:cs.take (l.length*size)=l.flatMap f) (ho:off+us.length<=size) (hx':wrL (f x) off us=f x') :
  wrL cs (j*size+off) us=wrL cs (j*size) (f x'):=by
 have hj:=(List.getElem?_eq_some_iff.1 hx).1;have hle:(j+1)*size<=l.length*size:=Nat.mul_le_mul_right _ (by omega);rw[Nat.add_mul,Nat.one_mul] at hle;have hcl:l.length*size<=cs.length:=by
  have:=congrArg List.length ht;rw[List.length_take,Zy hf] at this;omega
 apply List.ext_getElem?;intro i;rw[Zkk _ _ _ (by omega),Zkk _ _ _ (by rw[hf];omega),hf];by_cases h1:i<j*size
 .rw[if_pos (by omega),if_pos h1]
 .by_cases h2:i<j*size+size
  .rw[if_neg h1,if_pos h2,<-hx',Zkk _ _ _ (by rw[hf];exact ho)];have hcx:cs[i]?=(f x)[i - j*size]?:=by
    rw[<-Zma hf hx (by omega),<-ht,List.getElem?_take,if_pos (by omega)];congr 1;omega
   by_cases h3:i<j*size+off
   .rw[if_pos h3,if_pos (by omega),hcx]
   .by_cases h4:i<j*size+off+us.length
    .rw[if_neg h3,if_pos h4,if_neg (by omega),if_pos (by omega)];congr 1;omega
    .rw[if_neg h3,if_neg h4,if_neg (by omega),if_neg (by omega),hcx]
  .rw[if_neg (by omega),if_neg (by omega),if_neg h1,if_neg h2]
theorem Zdz {j off n:Nat} {x x':α} {u:Value} {us:List Value} {b c:Nat} (hS:Sat e w L) (i:Nat) (hi:L[i]?=some (Zz t size f v l)) (hf:∀x,(f x).length=size) (hv:v=.slice (some ⟨b,0,none⟩) l.length c) (hx:l[j]?=some x)
  (hu:u.cells.toList=us) (hn:us.length=n) (ho:off+n<=size) (hff:∀c∈us,flat c=true) (hx':wrL (f x) off us=f x')
  (hk:∀w',Sat e w' (L.set i<|Zz t size f v<|l.set j x')->K undef w'):stN n (.pointer<|some ⟨b,j*size+off,none⟩) u w K:=by
 have hj:=(List.getElem?_eq_some_iff.1 hx).1;obtain ⟨b',c',cs,hv',hc,hn',ht,h1⟩:=hS.own_open i hi (by omega);rw[hv] at hv';injection hv' with e1 e2 e3;injection e1 with e1;injection e1 with e1;subst e1 e3;have hle:(j+1)*size<=l.length*size:=Nat.mul_le_mul_right _ (by omega);have hle2:l.length*size<=c*size:=Nat.mul_le_mul_right _ hn';rw[Nat.add_mul,Nat.one_mul] at hle;have hil:=(List.getElem?_eq_some_iff.1 hi).1;refine Zq h1 i (by rw[List.getElem?_set_self hil]) hu hn (by omega) hff rfl λw' h2=>hk _ ?_;rw[List.set_set] at h2;have h3:=h2.imp_at (Q:=Zz t size f v<|l.set j x') i (by rw[List.getElem?_set_self hil]) λg hg=>by
  rw[hv];refine Zt2 hf hc hn' ht hj ?_ hg;exact (ZAJ hf hx ht (by omega) hx').symm
 rw[List.set_set] at h3;exact h3
end
end Go.E
end
section
namespace Go.Proofs.YtceipnkeijhebaaGreat
open Go Go.E
set_option maxRecDepth 100000
variable {e w:World} {L R:List HP} {K:KV} {S S2:HP}
def upL (ps:List Int):Nat->Int->List Int
 | 0,_=>[]
 | n+1,a=>if a<0 then [] else a::upL ps n (ps.getD a.toNat (-1))
theorem Zse (ps:List Int) (n:Nat) (a:Int):upL ps (n+1) a=if a<0 then [] else a::upL ps n (ps.getD a.toNat (-1)):=rfl
theorem Zza (ps:List Int) {a:Int} (h:a<0):∀n,upL ps n a=[]
 | 0=>rfl
 | n+1=>by rw[Zse,if_pos h]
def ZsD (ps:List Int) (a:Int):List Int:=upL ps (a.toNat+1) a
theorem ZFY {v:Value} {ps:List Int} {a b:Int} (i:Nat) (hi:L[i]?=some S) (hS:Sat e w L) (hr:∀g,S g->rdS 1 (Ye .i64) v ps g) (ht:ZkT ps) (ha:0<=a/\a<ps.length) (hk:∀w',Sat e w' L->K (.bool<|decide<|b∈ZsD ps a) w') :
  Cl prog 189 #[v,Iw a,Iw b] w K:=by
 refine Zm4 ?_;unfold Zsj;rw[ZDc];refine Yp (cs:=[Iw b]) hS rfl λcb w1 h1=>Yp (cs:=[Bf]) h1 rfl λcr w2 h2=>Zoy ?_;unfold ZtV;refine Yp (cs:=[v]) h2 ?_ λcp w3 h3=>?_
 .obtain ⟨A,c,rfl,_⟩:=hS.shape i hi hr;rfl
 refine Yp (cs:=[Iw a]) h3 rfl λca w4 h4=>ZF0 rfl (by kernel_rfl) h4 λl E LR w5 Kf rule fin finr h5=>?_;refine Zmz (t0:=.func (.yield l) #[] #[]) (t1:=pt ca) (t2:=pt cp) ?_;unfold Zqa;refine Zb h5 2 rfl rfl<|Zb h5 3 rfl rfl ?_;have hi6:(lpC LR l .ready::dfC E::blk ca 3 [Iw a]::blk cp 22 [v]::blk cr 4 [Bf]::blk cb 3 [Iw b]::L)[i+6]?=some S:=hi;refine Zt h5 (i+6) hi6 hr<|Qgef<|Zj<|Zb h5 3 rfl rfl<|Zj<|Zkz (i+6) hi6 h5 hr ?_;have htE:ZhY ps=0:=by unfold ZhY;exact if_pos ht
 rw[htE];refine Ze<|Qnef<|Yd<|Zf ?_;refine ZG9 (λn w=>∃z:Int,z<n/\-1<=z/\z<ps.length/\(b∈ZsD ps a↔b∈upL ps n z)/\
   Sat e w (lpC LR l .ready::dfC E::blk ca 3 [Iw z]::blk cp 22 [v]::blk cr 4 [Bf]::blk cb 3 [Iw b]::L)) (a.toNat+1) ⟨a,by omega,by omega,by omega,Iff.rfl,h5⟩ ?_
 rintro n w g1 ⟨z,hzn,hz1,hzl,hiff,h6⟩ hg;refine Zb h6 2 rfl rfl ?_;by_cases hz:0<=z
 case neg=>
  refine Qgef<|Zf ?_;have hb:¬b∈ZsD ps a:=by rw[hiff,Zza ps (by omega)];simp
  refine fin h6 λw7 h7=>Zq h7 3 rfl (vs:=[Bf]) rfl rfl (by simp) (by simp[flat]) (cs':=[Bf]) (by rfl) λw8 h8=>?_;refine Zvn h8 λw9 h9=>Zb h9 2 rfl rfl ?_;have:=hk _<|h9.sn 4 [];rw[decide_eq_false hb] at this;exact this
 refine Qget<|Zi<|Zb h6 2 rfl rfl ?_;obtain ⟨m,rfl⟩:∃m,n=m+1:=⟨n - 1,by omega⟩;rw[Zse,if_neg (by omega)] at hiff;refine rule h6 rfl ?_;show bgn l w λw=>ld1 _ w λt13 w=>bi .eql .i64 (Iw z) t13 w λt14 w=>_;refine ZB7 h6 λw7 h7=>Zb h7 5 rfl rfl<|ZoR (λc1=>Zi ?_)<|λc1=>Zf ?_
 .refine Zq h7 4 rfl (vs:=[Bt]) rfl rfl (by simp) (by simp[flat]) (cs':=[Bt]) (by rfl) λw8 h8=>?_;refine ZGj h8 λw9 h9=>Zch<|Zi ?_;have hb:b∈ZsD ps a:=by rw[hiff,c1];simp
  refine finr h9 λw10 h10=>Zvn h10 λw11 h11=>Zb h11 2 rfl rfl ?_;have:=hk _<|h11.sn 4 [];rw[decide_eq_true hb] at this;exact this
 .refine ZwR h7 λw9 h9=>ZaJ<|Zf<|Zb h9 3 rfl rfl<|Zb h9 2 rfl rfl ?_;obtain ⟨y,hy⟩:=Zk (l:=ps) (j:=z.toNat) (by omega);have hzN:z=((z.toNat:Nat):Int):=by omega
  have hp:=ht.2.2 z.toNat y hy;have hpl:=ht.2.1;have hgd:ps.getD z.toNat (-1)=y:=by rw[List.getD_eq_getElem?_getD,hy];rfl
  rw[hgd] at hiff;have hi9:(lpC LR l .ready::dfC E::blk ca 3 [Iw z]::blk cp 22 [v]::blk cr 4 [Bf]::blk cb 3 [Iw b]::L)[i+6]?=some S:=hi;rw[show Iw z=Iw ((z.toNat:Nat):Int) from by rw[<-hzN]];refine Zw h9 (i+6) hi9 hr (λ_=>rfl) hy λq hq=>Yt h9 (i+6) hi9 hq (v:=Iw y) rfl<|Zq h9 2 rfl (vs:=[Iw y]) rfl rfl (by simp) (by simp[flat]) (cs':=[Iw y]) (by rfl) λw10 h10=>?_;refine hg m _ (by omega) ⟨y,by omega,by omega,by omega,?_,h10⟩;rw[hiff];simp[Ne.symm c1]
def Zl1 (ps:List Int) (c:Int) (f:Fed):Bool:=f.Subs.any λs=>decide<|s∈ZsD ps c
def Zba (ps:List Int) (f c:Int) (l:List Fed):List Int:=(l.zipIdx.filter λp=>decide ((p.2:Int)≠f)&&Zl1 ps c p.1).map λp=>(p.2:Int)
theorem ZpM (ps:List Int) (f c:Int) (l:List Fed) (x:Fed):Zba ps f c (l++[x])=Zba ps f c l++if (l.length:Int)≠f/\Zl1 ps c x=true then [(l.length:Int)] else []:=by
 unfold Zba;rw[List.zipIdx_append,List.filter_append,List.map_append];congr 1;simp only[List.zipIdx_singleton,Nat.zero_add,List.filter_cons,List.filter_nil];by_cases h:(l.length:Int)≠f/\Zl1 ps c x=true
 .rw[if_pos h,if_pos (by simp[h])];rfl
 .rw[if_neg h,if_neg (by simpa using h)];rfl
theorem ZhD (ps:List Int) (f c:Int) (l:List Fed):(Zba ps f c l).length<=l.length:=by
 unfold Zba;rw[List.length_map];exact Nat.le_trans (List.length_filter_le _ _) (by simp)
theorem Zn9 {v fv:Value} {l:List Int} {p:Int->Bool} (i:Nat) (hi:L[i]?=some S) (hS:Sat e w L) (hr:∀g,S g->rdS 1 (Ye .i64) v l g) (hl:l.length<=1000000)
  (hp:∀o∈l,∀(w:World) (K:KV),Sat e w L->(∀w',Sat e w' L->K (.bool<|p o) w')->clV prog fv #[Iw o] w K)
  (hk:∀w',Sat e w' L->K (.bool<|l.any p) w'):Cl prog 187 #[v,fv] w K:=by
 refine Zcf ?_;unfold Zbq;refine ZcA ?_;unfold ZbV;refine Zt hS i hi hr<|Zdk (λq t8 w=>∃j:Nat,j<=l.length/\t8=Iw j/\q=l.length - j/\(∀o∈l.take j,p o=false)/\Sat e w L) l.length ⟨0,Nat.zero_le _,rfl,rfl,by simp,hS⟩ ?_;rintro q _ w g ⟨j,hj,rfl,rfl,hno,h1⟩ hg;refine Za7 (λc=>Zi ?_)<|λc=>Zf ?_
 .obtain ⟨o,ho⟩:=Zk (l:=l) (j:=j) (by omega);refine Zw h1 i hi hr (λ_=>rfl) ho λa ha=>Yt h1 i hi ha (v:=Iw o) rfl<|hp o (List.mem_of_getElem? ho) _ _ h1 λw2 h2=>?_;cases hpo:p o with
  | true=>
   refine Zi<|Qget ?_;have:=hk _ h2;rw[List.any_eq_true.2 ⟨o,List.mem_of_getElem? ho,hpo⟩] at this;exact this
  | false=>
   refine Zf<|Qincs<|hg _ _ _ (by omega) ⟨j+1,by omega,rfl,rfl,λy hy=>?_,h2⟩;rw[Zx ho] at hy;rcases List.mem_append.1 hy with h | h
   .exact hno y h
   .rw[List.mem_singleton.1 h];exact hpo
 .have ej:j=l.length:=by omega
  rw[ej,List.take_length] at hno;refine Qgef ?_;have:=hk _ h1;rw[List.any_eq_false.2 λo ho=>by rw[hno o ho];decide] at this;exact this
theorem Zwx {x:WdX} {f c:Int} (i:Nat) (hi:L[i]?=some S) (hS:Sat e w L) (hr:∀g,S g->ZtG x g) (hs:x.short) (ht:ZkT x.Parents) (hc:0<=c/\c<x.Parents.length)
  (hk:∀v w',Sat e w' (Zz 3 1 (Ye .i64) v (Zba x.w.Parents f c x.w.Feds)::L)->K v w'):Cl prog 141 #[.agg x.cs.toArray,Iw f,Iw c] w K:=by
 refine Zhu ?_;unfold ZiO;refine Yp (cs:=x.cs) hS rfl λb w1 h1=>Yp (cs:=[Iw c]) h1 rfl λcb w2 h2=>Za<|Zb h2 1 rfl (v:=x.fv) rfl ?_;have hi2:(blk cb 3 [Iw c]::blk b 25 x.cs::L)[i+2]?=some S:=hi;refine Zt h2 (i+2) hi2 (λ_ h=>(hr _ h).feds) ?_;have hfl:=hs.feds;rw[ZYE];refine ZjF (λq t7 t13 w=>∃j:Nat,j<=x.Feds.length/\t13=Iw j/\q=x.Feds.length - j/\Sat e w (Zz 3 1 (Ye .i64) t7 (Zba x.Parents f c<|(x.Feds.take j).map Zao.f)::blk cb 3 [Iw c]::blk b 25 x.cs::L)) x.Feds.length
  ⟨0,Nat.zero_le _,rfl,rfl,h2.own_nil 3 1<|Ye .i64⟩ ?_
 rintro q t7 _ w g ⟨j,hj,rfl,rfl,h3⟩ hg;have hi3:(Zz 3 1 (Ye .i64) t7 (Zba x.Parents f c<|(x.Feds.take j).map Zao.f)::blk cb 3 [Iw c]::blk b 25 x.cs::L)[i+3]?=some S:=hi;refine Za7 (λc0=>Zi ?_)<|λc0=>Zf ?_
 .obtain ⟨fd,hf⟩:=Zk (l:=x.Feds) (j:=j) (by omega);have hfm:=List.mem_of_getElem? hf;have hlen:((x.Feds.take j).map Zao.f).length=j:=by rw[List.length_map,List.length_take];omega
  have hsn:Zba x.Parents f c ((x.Feds.take<|j+1).map Zao.f)=Zba x.Parents f c ((x.Feds.take j).map Zao.f)++if (j:Int)≠f/\Zl1 x.Parents c fd.f=true then [(j:Int)] else []:=by
   rw[Zx hf,List.map_append,List.map_singleton,ZpM,hlen]
  have hrl:=ZhD x.Parents f c<|(x.Feds.take j).map Zao.f;rw[hlen] at hrl;refine J1.cut (λt7 w=>Sat e w<|Zz 3 1 (Ye .i64) t7 (Zba x.Parents f c<|(x.Feds.take<|j+1).map Zao.f)::blk cb 3 [Iw c]::blk b 25 x.cs::L) (λk2 hcut=>?_)<|λt7 w h4=>?_
  .rw[hsn] at hcut;refine Zw h3 (i+3) hi3 (λ_ h=>(hr _ h).feds) (λ_=>rfl) hf λa ha=>Ym h3 (i+3) hi3 ha rfl<|Yp (cs:=[Iw 0,Iw 0,Iw 0,Sn,Sn,Sn,Sn]) h3 rfl λt w5 h5=>Zq h5 0 rfl (vs:=fd.cs) rfl rfl (by simp) (Zc1 i hi hS λg hg=>(hr g hg).fed fd hfm) (cs':=fd.cs) (by rfl) λw6 h6=>?_;refine ZrP (λc1=>?_)<|λc1=>?_
   .refine Ze<|Za<|Ze<|Zb h6 0 rfl (v:=fd.sv) rfl<|Ze<|Ze<|Zn9 (p:=λs=>decide<|s∈ZsD x.Parents c) (i+4) hi h6 (λg hg=>((hr g hg).fed fd hfm).subs) (by have:=(hs.fed fd hfm).subs;omega) (λo ho w K h hK=>?_) λw7 h7=>?_
    .refine ⟨_,_,_,rfl,ZfE (t0:=Iw o) (t1:=pt b) (t2:=pt cb) ?_⟩;unfold ZfM;exact Za<|Zb h 3 rfl (v:=x.pv) rfl<|Zb h 2 rfl rfl<|ZFY (i+4) hi h (λ_ h=>(hr _ h).par) ht hc λw' h'=>hK _ h'
    .refine Yv<|ZBL _ (λhh=>?_)<|λhh=>?_
     .have hh':Zl1 x.Parents c fd.f=true:=hh;rw[if_pos ⟨c1,hh'⟩] at hcut;refine Zj7 Zvs (f:=Ye .i64) (λ_=>rfl) (λ_ _ h=>by simp[Ye] at h;subst h;rfl) (h7.pick 1 rfl) (x:=(j:Int)) rfl (by omega) λv' w8 h8=>?_;exact hcut _ _<|h8.sn 4 [0,2,3]
     .have hh':¬Zl1 x.Parents c fd.f=true:=by unfold Zl1;rw[show fd.f.Subs=fd.Subs from rfl,hh];decide
      rw[if_neg λh=>hh' h.2,List.append_nil] at hcut;exact hcut _ _ h7.drop
   .refine Zd<|Zd<|Zu<|Zd<|Yd<|Zf ?_;rw[if_neg λh=>h.1 c1,List.append_nil] at hcut;exact hcut _ _ h6.drop
  .exact Qincs<|hg _ _ _ _ (by omega) ⟨j+1,by omega,rfl,rfl,h4⟩
 .have ej:j=x.Feds.length:=by omega
  rw[ej,List.take_length] at h3;exact hk _ _<|h3.sn 3 [0]
end Go.Proofs.YtceipnkeijhebaaGreat
namespace Go.Proofs.YtceipnkeijhebaaGreat
open Go Go.E
set_option maxRecDepth 100000
variable {e w:World} {L R:List HP} {K:KV} {S S2:HP}
theorem ZFK (a:Int):∃k:Int,a=1000*k+a.tmod 1000/\-999<=a.tmod 1000/\a.tmod 1000<=999:=by
 refine ⟨a.tdiv 1000,(Int.mul_tdiv_add_tmod a 1000).symm,?_,?_⟩
 .by_cases h:0<=a
  .have:=Int.tmod_nonneg 1000 h;omega
  .have h1:=Int.neg_tmod a 1000;have h2:=Int.tmod_lt_of_pos (-a) (show (0:Int)<1000 by decide);rw[h1] at h2;omega
 .have:=Int.tmod_lt_of_pos a (show (0:Int)<1000 by decide);omega
theorem Zoo {n:Int} (hk:K (Iw<|n % 1000) w):Cl prog 186 #[Iw n] w K:=by
 refine Zjc ?_;unfold ZkS;refine Zwn (by decide) ?_;obtain ⟨k,h1,h2,h3⟩:=ZFK n;generalize n.tmod 1000=r at h1 h2 h3;refine Za7 (λc=>Zi ?_)<|λc=>Zf ?_
 .refine Qadds ?_;rw[show r+1000=n % 1000 from by omega];exact hk
 .rw[show r=n % 1000 from by omega];exact hk
def Zim (f seq now body:Int) (o:Out):Msg:=⟨⟨ZvS now o.Delay,f,seq⟩,-1,o.Class,(body+o.Add) % 1000⟩
theorem ZDb {f seq now body:Int} {o:Out} (hS:Sat e w L) (hk:∀w',Sat e w' L->K (.agg (Zim f seq now body o).cs.toArray) w') :
  Cl prog 140 #[Iw f,Iw seq,Iw now,Iw body,.agg o.cs.toArray] w K:=by
 refine ZkY ?_;unfold ZnJ;refine Yp (cs:=o.cs) hS rfl λt9 w1 h1=>?_;rw[ZOc];refine Yp (cs:=Msg.zero.cs) h1 rfl λt10 w2 h2=>ZaY h2 λw3 h3=>Za<|Zb h3 1 rfl (v:=Iw o.Delay) rfl<|Za<|Zb h3 1 rfl (v:=Iw o.Class) rfl<|Za<|Zb h3 1 rfl (v:=Iw o.Add) rfl<|ZhT ?_;have oA:ld1 (.pointer<|some ⟨t9,0+2,none⟩) w3 (λv' w''=>v'=Iw o.Add/\w''=w3):=Zb h3 1 rfl (v:=Iw o.Add) rfl ⟨rfl,rfl⟩;have oC:ld1 (.pointer<|some ⟨t9,0+0,none⟩) w3 (λv' w''=>v'=Iw o.Class/\w''=w3):=Zb h3 1 rfl (v:=Iw o.Class) rfl ⟨rfl,rfl⟩;have key:∀K:KV,K (.agg (Yi [ZvS now o.Delay,f,seq]).toArray) w3->bld (Zl prog 83) #[(0,1),(1,1),(2,1)] [(0,Iw<|ZvS now o.Delay),(1,Iw f),(2,Iw seq)] w3 K:=λK h=>Zaf (Yi [ZvS now o.Delay,f,seq]) (by kernel_rfl) h;have e0:(body % 1000+o.Add % 1000) % 1000=(body+o.Add) % 1000:=by omega
 have fin:bld #[Iw 0,Iw 0,Iw 0,Iw 0,Iw 0,Iw 0] #[(0,3),(3,1),(4,1),(5,1)] [(0,.agg (Yi [ZvS now o.Delay,f,seq]).toArray),(1,Iw (-1)),(2,Iw o.Class),(3,Iw<|(body % 1000+o.Add % 1000) % 1000)] w3 λt27 w=>
   stN 6 (pt t10) t27 w λ_ w=>ldN 6 (pt t10) w λr0 _=>K r0 w:=by
  rw[e0];refine Zaf (Zim f seq now body o).cs (by kernel_rfl) ?_;refine Zq h3 0 rfl (vs:=(Zim f seq now body o).cs) rfl rfl (by simp[Yi,Msg.ns,Msg.zero]) (Zg _) (cs':=(Zim f seq now body o).cs) (by rfl) λw4 h4=>?_;refine Zo h4 0 (vs:=(Zim f seq now body o).cs) rfl (by rfl) rfl ?_;exact hk _ h4.drop.drop
 have mA:∀K:KV,K (Iw<|o.Add % 1000) w3->Cl prog 186 #[Iw o.Add] w3 K:=λK h=>Zoo h;have mB:∀K:KV,K (Iw<|body % 1000) w3->Cl prog 186 #[Iw body] w3 K:=λK h=>Zoo h;have mS:∀K:KV,K (Iw<|(body % 1000+o.Add % 1000) % 1000) w3->Cl prog 186 #[Iw<|body % 1000+o.Add % 1000] w3 K:=λK h=>Zoo h;refine ⟨oA,oC,?_,?_⟩
 .exact key _ ⟨oA,oC,mB _ ⟨oA,oC,mA _ ⟨oC,Qadds<|mS _ ⟨oC,fin⟩⟩⟩⟩
 .refine mB _ ⟨oA,oC,key _ ⟨oA,oC,mA _ ⟨oC,Qadds<|mS _ ⟨oC,?_⟩⟩⟩,?_⟩
  .exact fin
  .refine mA _ ⟨oC,Qadds ⟨key _ ⟨oA,oC,mS _ ⟨oC,?_⟩⟩,mS _ ⟨oC,key _ ⟨oA,oC,?_⟩⟩⟩⟩
   .exact fin
   .exact fin
def Zau (ps:List Int) (feds:List Fed) (f seq now body:Int) (outs:List Out):List Msg:=outs.zipIdx.flatMap λp=>(Zba ps f p.1.Class feds).map λto=>{ Zim f (seq+p.2) now body p.1 with To:=to }
theorem ZpO (ps:List Int) (feds:List Fed) (f seq now body:Int) (outs:List Out) (o:Out):Zau ps feds f seq now body (outs++[o])=Zau ps feds f seq now body outs++(Zba ps f o.Class feds).map λto=>{ Zim f (seq+outs.length) now body o with To:=to }:=by
 unfold Zau;rw[List.zipIdx_append,List.flatMap_append];simp
theorem ZcU (ps:List Int) (feds:List Fed) (f seq now body:Int) (outs:List Out):(Zau ps feds f seq now body outs).length<=outs.length*feds.length:=by
 have key:∀(l:List<|Out × Nat),(l.flatMap λp=>(Zba ps f p.1.Class feds).map λto=>({ Zim f (seq+p.2) now body p.1 with To:=to }:Msg)).length<=l.length*feds.length:=by
  intro l;induction l with
  | nil=>simp
  | cons p l ih=>
   rw[List.flatMap_cons,List.length_append,List.length_map,List.length_cons,Nat.add_mul];have:=ZhD ps f p.1.Class feds;omega
 have:=key outs.zipIdx;rw[List.length_zipIdx] at this;exact this
def Zpq (n:Nat) (o:Out):Prop:=0<=o.Class/\o.Class<n/\0<=o.Add
theorem Zog {x:WdX} {f seq now body:Int} {v:Value} {outs:List Out} (i k:Nat) (hi:L[i]?=some S) (hk2:L[k]?=some S2) (hS:Sat e w L) (hr:∀g,S g->ZtG x g) (hr2:∀g,S2 g->rdS 3 Out.cs v outs g) (hs:x.short) (ht:ZkT x.Parents)
  (ho:∀o∈outs,Zpq x.Parents.length o) (hl:outs.length<=1000) (hq:0<=seq/\seq<=1125899906842624)
  (hk:∀v w',Sat e w' (Zz 85 6 Msg.cs v (Zau x.w.Parents x.w.Feds f seq now body outs)::L)->K v w'):Cl prog 78 #[.agg x.cs.toArray,Iw f,Iw seq,Iw now,Iw body,v] w K:=by
 refine Zht ?_;unfold ZiW;refine Yp (cs:=x.cs) hS rfl λb w1 h1=>?_;have hi1:(blk b 25 x.cs::L)[i+1]?=some S:=hi;have hk1:(blk b 25 x.cs::L)[k+1]?=some S2:=hk2;refine Zt h1 (k+1) hk1 hr2 ?_;have hfl:=hs.feds;rw[ZYy,ZOc];have hflat:=ZoI i hi hS hr;refine ZjF (λq t13 t21 w=>∃j:Nat,j<=outs.length/\t21=Iw j/\q=outs.length - j/\Sat e w (Zz 85 6 Msg.cs t13 (Zau x.w.Parents x.w.Feds f seq now body<|outs.take j)::blk b 25 x.cs::L)) outs.length
  ⟨0,Nat.zero_le _,rfl,rfl,h1.own_nil 85 6 Msg.cs⟩ ?_
 rintro q t13 _ w g ⟨j,hj,rfl,rfl,h2⟩ hg;refine Za7 (λc0=>Zi ?_)<|λc0=>Zf ?_
 .obtain ⟨o,hoj⟩:=Zk (l:=outs) (j:=j) (by omega);obtain ⟨o1,o2,o3⟩:=ho o<|List.mem_of_getElem? hoj;have hlen:(outs.take j).length=j:=by rw[List.length_take];omega
  have hsn:Zau x.w.Parents x.w.Feds f seq now body (outs.take<|j+1)=Zau x.w.Parents x.w.Feds f seq now body (outs.take j)++(Zba x.w.Parents f o.Class x.w.Feds).map λto=>{ Zim f (seq+j) now body o with To:=to }:=by
   rw[Zx hoj,ZpO,hlen]
  have hsl:=ZcU x.w.Parents x.w.Feds f seq now body<|outs.take j;have hfl2:x.w.Feds.length<=1000:=by simp only[WdX.w,List.length_map];exact hfl
  rw[hlen] at hsl;have hsl2:j*x.w.Feds.length<=1000*1000:=Nat.mul_le_mul (by omega) hfl2;have hi2:(Zz 85 6 Msg.cs t13 (Zau x.w.Parents x.w.Feds f seq now body<|outs.take j)::blk b 25 x.cs::L)[i+2]?=some S:=hi;have hk3:(Zz 85 6 Msg.cs t13 (Zau x.w.Parents x.w.Feds f seq now body<|outs.take j)::blk b 25 x.cs::L)[k+2]?=some S2:=hk2;refine Zw h2 (k+2) hk3 hr2 (λ_=>rfl) hoj λa ha=>Ym h2 (k+2) hk3 ha rfl<|Yp (cs:=Yi [0,0,0]) h2 rfl λt w3 h3=>Zq h3 0 rfl (vs:=o.cs) rfl rfl (by decide) (Zg _) (cs':=o.cs) (by rfl) λw4 h4=>?_;refine Qadds<|Zo h4 0 (vs:=o.cs) rfl (by rfl) rfl ?_;refine ZDb h4 λw5 h5=>Yp (cs:=Msg.zero.cs) h5 rfl λtm w6 h6=>?_;generalize hm:Zim f (seq+j) now body o=m at hsn h6 ⊢;have hmc:m.Class=o.Class:=by rw[<-hm];rfl
  refine Zq h6 0 rfl (vs:=m.cs) rfl rfl (by decide) (Zg _) (cs':=m.cs) (by rfl) λw7 h7=>?_;refine Zo h7 3 (vs:=x.cs) rfl (by rfl) rfl ?_;refine Za<|Zb h7 0 rfl (v:=Iw m.Class) rfl ?_;rw[hmc];refine Zwx (x:=x) (i+4) hi h7 hr hs ht ⟨o1,o2⟩ λtv w8 h8=>Qln h8 0 rfl ?_;generalize hrt:Zba x.w.Parents f o.Class x.w.Feds=rt at hsn h8 ⊢;have hrtl:rt.length<=1000:=by rw[<-hrt];exact Nat.le_trans (ZhD _ _ _ _) hfl2
  refine ZjF (λq t13 t40 w=>∃(n:Nat) (m':Msg),n<=rt.length/\t40=Iw n/\q=rt.length - n/\(∀to,{ m' with To:=to }={ m with To:=to })/\
    Sat e w (Zz 85 6 Msg.cs t13 (Zau x.w.Parents x.w.Feds f seq now body (outs.take j)++(rt.take n).map λto=>{ m with To:=to })::Zz 3 1 (Ye .i64) tv rt::blk tm 85 m'.cs::blk t 133 o.cs::blk b 25 x.cs::L)) rt.length
   ⟨0,m,Nat.zero_le _,rfl,rfl,λ_=>rfl,by simpa using h8.sn 5 [3,0,1,2,4]⟩ ?_
  rintro q t13' _ w g2 ⟨n,m',hn,rfl,rfl,hmm,h9⟩ hg2;refine Za7 (λc1=>Zi ?_)<|λc1=>Zf ?_
  .obtain ⟨to,hto⟩:=Zk (l:=rt) (j:=n) (by omega);refine Qix h9 1 rfl hto λa ha=>Yt h9 1 rfl ha (v:=Iw to) rfl<|Za<|Zq h9 2 rfl (vs:=Yi [to]) rfl rfl (Nat.le_of_ble_eq_true rfl) (Zg _) (cs':=({ m' with To:=to }:Msg).cs) (by rfl) λw10 h10=>?_;refine Zo h10 2 (vs:=({ m' with To:=to }:Msg).cs) rfl (by rfl) rfl ?_;refine Zj7 ZYs (f:=Msg.cs) (λ_=>rfl) (λ_=>Zg _) h10 (x:={ m' with To:=to }) rfl (by rw[List.length_append,List.length_map,List.length_take];omega) λv' w11 h11=>?_;refine Qincs<|hg2 _ _ _ _ (by omega) ⟨n+1,{ m' with To:=to },by omega,rfl,rfl,λto'=>hmm to',?_⟩;rw[Zx hto,List.map_append,<-List.append_assoc,List.map_singleton,<-hmm to];exact h11
  .have en:n=rt.length:=by omega
   rw[en,List.take_length,<-hsn] at h9;exact Qincs<|hg _ _ _ _ (by omega) ⟨j+1,by omega,rfl,rfl,h9.sn 5 [0,4]⟩
 .have ej:j=outs.length:=by omega
  rw[ej,List.take_length] at h2;exact hk _ _<|h2.sn 2 [0]
end Go.Proofs.YtceipnkeijhebaaGreat
namespace Go.Proofs.YtceipnkeijhebaaGreat
open Go Go.E
set_option maxRecDepth 100000
variable {e w:World} {L R:List HP} {K:KV} {S S2:HP}
structure Zak where
 m:Msg
 st:Int
 deriving DecidableEq
def Zak.ns (d:Zak):List Int:=[d.m.key.T,d.m.key.From,d.m.key.Seq,d.m.To,d.m.Class,d.m.Body,d.st]
abbrev Zak.cs (d:Zak):List Value:=Yi d.ns
def Zak.zero:Zak:=⟨Msg.zero,0⟩
theorem Zak.eq_ns (a b:Zak):(a.ns==b.ns)=decide (a=b):=by
 rw[Bool.eq_iff_iff];obtain ⟨⟨⟨a1,a2,a3⟩,a4,a5,a6⟩,a7⟩:=a;obtain ⟨⟨⟨b1,b2,b3⟩,b4,b5,b6⟩,b7⟩:=b;simp[Zak.ns,and_assoc]
theorem ZlK {α:Type} {size:Nat} {f:α->List Value} {n c:Nat} {l:List α} (hS:Sat e w<|S::R) (hr:∀g,S g->rdS size f (.slice none n c) l g):l=[]:=by
 obtain ⟨g,hg,_⟩:=hS.get 0 rfl;obtain ⟨A',c',h1,h2,h3⟩:=hr g hg;injection h1 with e1 e2 e3;by_cases h0:0<l.length
 .obtain ⟨a,ha,_⟩:=h3 h0;rw[<-e1] at ha;cases ha
 .exact List.length_eq_zero_iff.1 (by omega)
theorem Zqf {v:Value} {l:List Int} (hl:l.length<=1000000) (hff:∀x∈l,∀v∈(Ye .i64) x,flat v=true) (hS:Sat e w<|S::R) (hr:∀g,S g->rdS 1 (Ye .i64) v l g)
  (hk:∀v' w',Sat e w' (Zz 3 1 (Ye .i64) v' l::S::R)->K v' w'):Cl prog 136 #[v] w K:=by
 refine Zdc ?_;unfold ZcL;obtain ⟨A,c,rfl,_⟩:=hS.shape 0 rfl hr;cases A with
 | none=>
  refine Yn (w':=w) (v:=Bt) (by kernel_rfl) ?_;obtain rfl:=ZlK hS hr;exact Zi (hk _ _<|hS.own_nil 3 1<|Ye .i64)
 | some a=>
  refine Yn (w':=w) (v:=Bf) (by kernel_rfl) ?_;refine Zf<|Zw3 hS (Ye .i64) λv1 w2 h2=>Zcs Zvs ZxC (f:=(Ye .i64)) (λ_=>rfl) hff h2 hr (by simp;omega) λv2 w3 h3=>?_;rw[List.nil_append] at h3;exact hk _ _ h3
theorem ZkK {v:Value} {l:List Out} (hl:l.length<=1000000) (hff:∀x∈l,∀v∈Out.cs x,flat v=true) (hS:Sat e w<|S::R) (hr:∀g,S g->rdS 3 Out.cs v l g)
  (hk:∀v' w',Sat e w' (Zz 133 3 Out.cs v' l::S::R)->K v' w'):Cl prog 138 #[v] w K:=by
 refine ZbZ ?_;unfold Zbm;obtain ⟨A,c,rfl,_⟩:=hS.shape 0 rfl hr;cases A with
 | none=>
  refine Yn (w':=w) (v:=Bt) (by kernel_rfl) ?_;obtain rfl:=ZlK hS hr;exact Zi (hk _ _<|hS.own_nil 133 3 Out.cs)
 | some a=>
  refine Yn (w':=w) (v:=Bf) (by kernel_rfl) ?_;refine Zf<|Zw3 hS Out.cs λv1 w2 h2=>Zcs ZRB ZQM (f:=Out.cs) (λ_=>rfl) hff h2 hr (by simp;omega) λv2 w3 h3=>?_;rw[List.nil_append] at h3;exact hk _ _ h3
theorem Zob {v:Value} {l:List Yg} (hl:l.length<=1000000) (hff:∀x∈l,∀v∈Yg.cs x,flat v=true) (hS:Sat e w<|S::R) (hr:∀g,S g->rdS 4 Yg.cs v l g)
  (hk:∀v' w',Sat e w' (Zz 54 4 Yg.cs v' l::S::R)->K v' w'):Cl prog 139 #[v] w K:=by
 refine ZbH ?_;unfold Za3;obtain ⟨A,c,rfl,_⟩:=hS.shape 0 rfl hr;cases A with
 | none=>
  refine Yn (w':=w) (v:=Bt) (by kernel_rfl) ?_;obtain rfl:=ZlK hS hr;exact Zi (hk _ _<|hS.own_nil 54 4 Yg.cs)
 | some a=>
  refine Yn (w':=w) (v:=Bf) (by kernel_rfl) ?_;refine Zf<|Zw3 hS Yg.cs λv1 w2 h2=>Zcs Z2j Z0T (f:=Yg.cs) (λ_=>rfl) hff h2 hr (by simp;omega) λv2 w3 h3=>?_;rw[List.nil_append] at h3;exact hk _ _ h3
theorem ZoY {v:Value} {l:List Zao} (hl:l.length<=1000000) (hff:∀x∈l,∀v∈Zao.cs x,flat v=true) (hS:Sat e w<|S::R) (hr:∀g,S g->rdS 7 Zao.cs v l g)
  (hk:∀v' w',Sat e w' (Zz 52 7 Zao.cs v' l::S::R)->K v' w'):Cl prog 137 #[v] w K:=by
 refine Zb1 ?_;unfold Zbk;obtain ⟨A,c,rfl,_⟩:=hS.shape 0 rfl hr;cases A with
 | none=>
  refine Yn (w':=w) (v:=Bt) (by kernel_rfl) ?_;obtain rfl:=ZlK hS hr;exact Zi (hk _ _<|hS.own_nil 52 7 Zao.cs)
 | some a=>
  refine Yn (w':=w) (v:=Bf) (by kernel_rfl) ?_;refine Zf<|Zw3 hS Zao.cs λv1 w2 h2=>Zcs ZFN ZxQ (f:=Zao.cs) (λ_=>rfl) hff h2 hr (by simp;omega) λv2 w3 h3=>?_;rw[List.nil_append] at h3;exact hk _ _ h3
theorem ZiJ {v:Value} {l:List Zak} (hl:l.length<=1000000) (hff:∀x∈l,∀v∈Zak.cs x,flat v=true) (hS:Sat e w<|S::R) (hr:∀g,S g->rdS 7 Zak.cs v l g)
  (hk:∀v' w',Sat e w' (Zz 129 7 Zak.cs v' l::S::R)->K v' w'):Cl prog 244 #[v] w K:=by
 refine ZbG ?_;unfold Za1;obtain ⟨A,c,rfl,_⟩:=hS.shape 0 rfl hr;cases A with
 | none=>
  refine Yn (w':=w) (v:=Bt) (by kernel_rfl) ?_;obtain rfl:=ZlK hS hr;exact Zi (hk _ _<|hS.own_nil 129 7 Zak.cs)
 | some a=>
  refine Yn (w':=w) (v:=Bf) (by kernel_rfl) ?_;refine Zf<|Zw3 hS Zak.cs λv1 w2 h2=>Zcs ZVt ZUE (f:=Zak.cs) (λ_=>rfl) hff h2 hr (by simp;omega) λv2 w3 h3=>?_;rw[List.nil_append] at h3;exact hk _ _ h3
def Zaz (ps:List Int) (feds:List Fed) (l:List Fed):List Msg:=l.zipIdx.flatMap λp=>Zau ps feds (p.2:Int) 0 0 0 p.1.Init
theorem Zkw (ps:List Int) (feds:List Fed) (l:List Fed) (x:Fed):Zaz ps feds (l++[x])=Zaz ps feds l++Zau ps feds (l.length:Int) 0 0 0 x.Init:=by
 unfold Zaz;rw[List.zipIdx_append,List.flatMap_append];simp
theorem ZwB {x:WdX} (i:Nat) (hi:L[i]?=some S) (hS:Sat e w L) (hr:∀g,S g->ZtG x g) (hs:x.short) (ht:ZkT x.Parents) (hf8:x.Feds.length<=8)
  (ho:∀f∈x.Feds,f.Init.length<=4/\∀o∈f.Init,Zpq x.Parents.length o)
  (hk:∀v w',Sat e w' (Zz 85 6 Msg.cs v (Zaz x.w.Parents x.w.Feds x.w.Feds)::L)->(Zaz x.w.Parents x.w.Feds x.w.Feds).length<=1000->K v w'):Cl prog 29 #[.agg x.cs.toArray] w K:=by
 refine ZhE ?_;unfold Ziq;refine Yp (cs:=x.cs) hS rfl λb w1 h1=>?_;have hi1:(blk b 25 x.cs::L)[i+1]?=some S:=hi;refine Za<|Zb h1 0 rfl (v:=x.fv) rfl<|Zt h1 (i+1) hi1 (λ_ h=>(hr _ h).feds) ?_;rw[ZYE];have hflen:x.w.Feds.length=x.Feds.length:=by simp[WdX.w]
 refine ZjF (λq t3 t9 w=>∃j:Nat,j<=x.Feds.length/\t9=Iw j/\q=x.Feds.length - j/\(Zaz x.w.Parents x.w.Feds<|(x.Feds.take j).map Zao.f).length<=j*32/\
   Sat e w (Zz 85 6 Msg.cs t3 (Zaz x.w.Parents x.w.Feds<|(x.Feds.take j).map Zao.f)::blk b 25 x.cs::L)) x.Feds.length
  ⟨0,Nat.zero_le _,rfl,rfl,by simp[Zaz],h1.own_nil 85 6 Msg.cs⟩ ?_
 rintro q t3 _ w g ⟨j,hj,rfl,rfl,hb,h2⟩ hg;have hi2:(Zz 85 6 Msg.cs t3 (Zaz x.w.Parents x.w.Feds<|(x.Feds.take j).map Zao.f)::blk b 25 x.cs::L)[i+2]?=some S:=hi;refine Za7 (λc0=>Zi ?_)<|λc0=>Zf ?_
 .obtain ⟨fd,hf⟩:=Zk (l:=x.Feds) (j:=j) (by omega);have hfm:=List.mem_of_getElem? hf;obtain ⟨ho1,ho2⟩:=ho fd hfm;have hlen:((x.Feds.take j).map Zao.f).length=j:=by rw[List.length_map,List.length_take];omega
  have hsn:Zaz x.w.Parents x.w.Feds ((x.Feds.take<|j+1).map Zao.f)=Zaz x.w.Parents x.w.Feds ((x.Feds.take j).map Zao.f)++Zau x.w.Parents x.w.Feds (j:Int) 0 0 0 fd.Init:=by
   rw[Zx hf,List.map_append,List.map_singleton,Zkw,hlen];rfl
  have hsl:=ZcU x.w.Parents x.w.Feds (j:Int) 0 0 0 fd.Init;have hsl2:fd.Init.length*x.w.Feds.length<=4*8:=Nat.mul_le_mul ho1 (by rw[hflen];exact hf8);refine Zw h2 (i+2) hi2 (λ_ h=>(hr _ h).feds) (λ_=>rfl) hf λa ha=>Ym h2 (i+2) hi2 ha rfl<|Yp (cs:=[Iw 0,Iw 0,Iw 0,Sn,Sn,Sn,Sn]) h2 rfl λt w5 h5=>Zq h5 0 rfl (vs:=fd.cs) rfl rfl (by simp) (Zc1 i hi hS λg hg=>(hr g hg).fed fd hfm) (cs':=fd.cs) (by rfl) λw6 h6=>?_;refine Zo h6 2 (vs:=x.cs) rfl (by rfl) rfl ?_;refine Za<|Zb h6 0 rfl (v:=fd.iv) rfl<|Zog (x:=x) (outs:=fd.Init) (i+3) (i+3) hi hi h6 hr (λg hg=>((hr g hg).fed fd hfm).init) hs ht ho2 (by omega) (by decide) λmv w7 h7=>?_;have h8:=h7.sn 4 [2,0,1,3];refine Zeo ZYs ZYP (f:=Msg.cs) (λ_=>rfl) (λ_=>Zg _) h8 (λ_=>Zp) (by omega) λv2 w9 h9=>?_;refine Qincs<|hg _ _ _ _ (by omega) ⟨j+1,by omega,rfl,rfl,?_,?_⟩
  .rw[hsn,List.length_append];omega
  .rw[hsn];exact h9.sn 4 [0,3]
 .have ej:j=x.Feds.length:=by omega
  rw[ej,List.take_length] at h2 hb;exact hk _ _ (h2.sn 2 [0])<|Nat.le_trans hb (by omega)
def ZbY (l:List Zsp) (s c:Int):Int × List Out:=match l.find? λr=>decide (r.State=s)&&decide (r.Class=c) with
 | some r=>(r.Next,r.Sends)
 | none=>(s,[])
theorem Ztc {l:List Yg} {s c:Int} (h:∀r∈l,¬ZxS s c r):ZbY (l.map Yg.r) s c=(s,[]):=by
 unfold ZbY;rw[List.find?_eq_none.2];intro r hr;obtain ⟨x,hx,rfl⟩:=List.mem_map.1 hr;have:=h x hx;unfold ZxS at this;intro hd;rw[Bool.and_eq_true] at hd;exact this ⟨of_decide_eq_true hd.1,of_decide_eq_true hd.2⟩
theorem Ztq {l:List Yg} {s c:Int} {j:Nat} {r:Yg} (hj:l[j]?=some r) (hon:ZxS s c r) (hlo:∀y∈l.take j,¬ZxS s c y):ZbY (l.map Yg.r) s c=(r.Next,r.Sends):=by
 unfold ZbY;have hsp:l.map Yg.r=(l.take j).map Yg.r++r.r::(l.drop<|j+1).map Yg.r:=by
  conv=>lhs;rw[Zgn hj]
  simp
 rw[hsp,List.find?_append];have h1:((l.take j).map Yg.r).find? (λr=>decide (r.State=s)&&decide (r.Class=c))=none:=by
  rw[List.find?_eq_none];intro r hr;obtain ⟨x,hx,rfl⟩:=List.mem_map.1 hr;have:=hlo x hx;unfold ZxS at this;intro hd;rw[Bool.and_eq_true] at hd;exact this ⟨of_decide_eq_true hd.1,of_decide_eq_true hd.2⟩
 unfold ZxS at hon;rw[h1,Option.none_or,List.find?_cons_of_pos (by simp[Yg.r,hon])];rfl
theorem Zkr {v:Value} {l:List Yg} {s c:Int} (hS:Sat e w<|S::R) (hr:∀g,S g->Zew v l g) (hl:l.length<=1000) (hl2:∀r∈l,r.Sends.length<=1000)
  (hk:∀v' w',Sat e w' (Zz 133 3 Out.cs v' (ZbY (l.map Yg.r) s c).2::S::R)->K (.tuple #[Iw (ZbY (l.map Yg.r) s c).1,v']) w'):Cl prog 278 #[v,Iw s,Iw c] w K:=by
 refine Zk2 ?_;unfold Znm;refine Zk3 ?_;unfold Znc;refine Yp (cs:=[Iw s]) hS rfl λbs w1 h1=>Yp (cs:=[Iw c]) h1 rfl λbc w2 h2=>Zbp ?_;unfold ZaG;refine Zt h2 2 rfl (λ_ h=>(hr _ h).s)<|Zdk (λq t8 w=>∃j:Nat,j<=l.length/\t8=Iw j/\q=l.length - j/\(∀y∈l.take j,¬ZxS s c y)/\Sat e w (blk bc 3 [Iw c]::blk bs 3 [Iw s]::S::R)) l.length ⟨0,Nat.zero_le _,rfl,rfl,by simp,h2⟩ ?_;rintro q _ w g ⟨j,hj,rfl,rfl,hlo,h3⟩ hg;refine Za7 (λc0=>Zi ?_)<|λc0=>Zf ?_
 .obtain ⟨r,hrj⟩:=Zk (l:=l) (j:=j) (by omega);have hrm:=List.mem_of_getElem? hrj;refine Zw h3 2 rfl (λ_ h=>(hr _ h).s) (λ_=>rfl) hrj λa ha=>Ym h3 2 rfl ha rfl ⟨_,_,_,rfl,Zie (t0:=.agg r.cs.toArray) (t1:=pt bs) (t2:=pt bc) ?_⟩;unfold ZkP;refine Yp (cs:=r.cs) h3 rfl λt w4 h4=>Za<|Zb h4 0 rfl (v:=Iw r.State) rfl<|Zb h4 2 rfl rfl ?_;have hnext:¬ZxS s c r->bi .add .i64 (Iw j) (Iw 1) w4 λt18 w=>g [t18] w:=by
   intro h;refine Qincs<|hg _ _ _ (by omega) ⟨j+1,by omega,rfl,rfl,λy hy=>?_,h4.drop⟩;rw[Zx hrj] at hy;rcases List.mem_append.1 hy with h' | h'
   .exact hlo y h'
   .rw[List.mem_singleton.1 h'];exact h
  refine ZoR (λc1=>?_)<|λc1=>?_
  .refine Ze<|Za<|Ze<|Zb h4 0 rfl (v:=Iw r.Class) rfl<|Ze<|Zb h4 1 rfl rfl<|Ze<|ZoR (λc2=>?_)<|λc2=>?_
   .refine Yv<|Zi<|Qltf<|Zf ?_;rw[Ztq hrj ⟨c1,c2⟩ hlo] at hk;exact ZaY h4.drop.drop.drop λw5 h5=>Zw h5 0 rfl (λ_ h=>(hr _ h).s) (λ_=>rfl) hrj λa ha=>Zbd ha λa1 ha1=>Yt h5 0 rfl ha1 (v:=Iw r.Next) rfl<|Zw h5 0 rfl (λ_ h=>(hr _ h).s) (λ_=>rfl) hrj λa2 ha2=>Zbd ha2 λa3 ha3=>Yt h5 0 rfl ha3 (v:=r.sv) rfl<|ZkK (by have:=hl2 r hrm;omega) (λ_ _=>Zg _) h5 (λ_ h=>(hr _ h).e r hrm) λv' w6 h6=>⟨Yt h6 1 rfl ha1 (v:=Iw r.Next) rfl ⟨rfl,rfl⟩,hk _ _ h6⟩
   .exact Yv<|Zf<|hnext λh=>c2 h.2
  .exact Zd<|Zd<|Zd<|Zd<|Yd<|Zf<|hnext λh=>c1 h.1
 .have ej:j=l.length:=by omega
  rw[ej,List.take_length] at hlo;rw[Ztc hlo] at hk;exact Qltt<|Zi<|hk _ _<|h3.drop.drop.own_nil 133 3 Out.cs
end Go.Proofs.YtceipnkeijhebaaGreat
end
section
namespace Go.Proofs.YtceipnkeijhebaaGreat
open Go Go.E
set_option maxRecDepth 100000
variable {e w:World} {R:List HP} {K:KV}
def Zv (a b:Key):Prop:=a.T<b.T\/(a.T=b.T/\(a.From<b.From\/(a.From=b.From/\a.Seq<b.Seq)))
theorem Zke (a b:Key):(Zv a b/\ZeU a b=-1)\/(a=b/\ZeU a b=0)\/(Zv b a/\ZeU a b=1):=by
 obtain ⟨a1,a2,a3⟩:=a;obtain ⟨b1,b2,b3⟩:=b;unfold Zv ZeU Zlb;simp only[Key.mk.injEq];rcases Int.lt_trichotomy a1 b1 with h | h | h
 .left;rw[if_pos h];simp[h]
 .subst h;rcases Int.lt_trichotomy a2 b2 with h | h | h
  .left;simp[h]
  .subst h;rcases Int.lt_trichotomy a3 b3 with h | h | h
   .left;simp[h]
   .subst h;right;left;simp
   .right;right;have:¬a3<b3:=by omega
    simp[h,this]
  .right;right;have:¬a2<b2:=by omega
   simp[h,this]
 .right;right;have:¬a1<b1:=by omega
  simp[h,this]
theorem Zv.asymm {a b:Key} (h:Zv a b):¬Zv b a:=by unfold Zv at *;omega
theorem Zv.trans {a b c:Key} (h:Zv a b) (k:Zv b c):Zv a c:=by unfold Zv at *;omega
theorem Zv.irrefl (a:Key):¬Zv a a:=by unfold Zv;omega
theorem Zav {a b:Key}:ZeU a b<0↔Zv a b:=by
 rcases Zke a b with ⟨h,e⟩ | ⟨h,e⟩ | ⟨h,e⟩ <;> rw[e]
 .exact ⟨λ_=>h,λ_=>by decide⟩
 .subst h;exact ⟨λh=>by omega,λh=>absurd h<|Zv.irrefl a⟩
 .exact ⟨λh=>by omega,λk=>absurd k h.asymm⟩
theorem Zyv {a b:Key}:ZeU a b=0↔a=b:=by
 rcases Zke a b with ⟨h,e⟩ | ⟨h,e⟩ | ⟨h,e⟩ <;> rw[e]
 .exact ⟨λh=>by omega,λk=>by subst k;exact absurd h<|Zv.irrefl a⟩
 .exact ⟨λ_=>h,λ_=>rfl⟩
 .exact ⟨λh=>by omega,λk=>by subst k;exact absurd h<|Zv.irrefl a⟩
theorem Zv.tri (a b:Key):Zv a b\/a=b\/Zv b a:=by
 rcases Zke a b with ⟨h,_⟩ | ⟨h,_⟩ | ⟨h,_⟩
 .exact .inl h
 .exact .inr (.inl h)
 .exact .inr (.inr h)
theorem ZLj {a b:Key} (hS:Sat e w R) (hk:∀w',Sat e w' R->K (Iw<|ZeU a b) w'):Cl prog 204 #[.agg a.cs.toArray,.agg b.cs.toArray] w K:=by
 refine ZKh ?_;unfold ZKa;refine Yp (cs:=a.cs) hS rfl λb2 w1 h1=>Yp (cs:=b.cs) h1 rfl λb3 w2 h2=>Zo h2 1 (vs:=a.cs) rfl (by rfl) rfl ?_;refine Zo h2 0 (vs:=b.cs) rfl (by rfl) rfl ?_;refine ZFS (ns:=a.ns) (ms:=b.ns) ZYS ZYT ZZi (by decide) rfl ?_;rw[Key.eq_ns];have h3:=hk _ h2.drop.drop;by_cases hab:a=b
 .rw[decide_eq_true hab];rw[Zyv.2 hab] at h3;exact Zi h3
 .rw[decide_eq_false hab];refine Zf ?_;rcases Zke a b with ⟨h,e1⟩ | ⟨h,_⟩ | ⟨h,e1⟩
  .rw[e1] at h3;rcases h with h | ⟨h0,h | ⟨h1',h⟩⟩
   .exact Za<|Zb h2 1 rfl rfl<|Za<|Zb h2 0 rfl rfl<|Qltt<|Zd<|Zd<|Zd<|Zd<|Zd<|Zd<|Zd<|Zd<|Zd<|Zd<|Zd<|Zd<|Yv<|Zd<|Zd<|Zd<|Zd<|Zd<|Zd<|Zd<|Zd<|Zd<|Zd<|Zd<|Zd<|Zd<|Zd<|Zd<|Zd<|Zd<|Zd<|Zd<|Yv<|Zi h3
   .exact Za<|Zb h2 1 rfl rfl<|Za<|Zb h2 0 rfl rfl<|Qltf<|Ze<|Za<|Ze<|Zb h2 1 rfl rfl<|Ze<|Za<|Ze<|Zb h2 0 rfl rfl<|Ze<|Qeqt<|Zj<|Ze<|Za<|Ze<|Zb h2 1 rfl rfl<|Ze<|Za<|Ze<|Zb h2 0 rfl rfl<|Ze<|Qltt<|Ze<|Yv<|Yd<|Zd<|Zd<|Zd<|Zd<|Zd<|Zd<|Zd<|Zd<|Zd<|Zd<|Zd<|Zd<|Zd<|Zd<|Zd<|Zd<|Zd<|Zd<|Zd<|Yv<|Zi h3
   .exact Za<|Zb h2 1 rfl rfl<|Za<|Zb h2 0 rfl rfl<|Qltf<|Ze<|Za<|Ze<|Zb h2 1 rfl rfl<|Ze<|Za<|Ze<|Zb h2 0 rfl rfl<|Ze<|Qeqt<|Zj<|Ze<|Za<|Ze<|Zb h2 1 rfl rfl<|Ze<|Za<|Ze<|Zb h2 0 rfl rfl<|Ze<|Qltf<|Ze<|Yv<|Yd<|Ze<|Za<|Ze<|Zb h2 1 rfl rfl<|Ze<|Za<|Ze<|Zb h2 0 rfl rfl<|Ze<|Qeqt<|Zj<|Ze<|Za<|Ze<|Zb h2 1 rfl rfl<|Ze<|Za<|Ze<|Zb h2 0 rfl rfl<|Ze<|Qeqt<|Ze<|Yv<|Zj<|Ze<|Za<|Ze<|Zb h2 1 rfl rfl<|Ze<|Za<|Ze<|Zb h2 0 rfl rfl<|Ze<|Qltt<|Ze<|Yv<|Yd<|Zi h3
  .exact absurd h hab
  .rw[e1] at h3;rcases h with h | ⟨h0,h | ⟨h1',h⟩⟩
   .exact Za<|Zb h2 1 rfl rfl<|Za<|Zb h2 0 rfl rfl<|Qltf<|Ze<|Za<|Ze<|Zb h2 1 rfl rfl<|Ze<|Za<|Ze<|Zb h2 0 rfl rfl<|Ze<|Qeqf<|Zj<|Zd<|Zd<|Zd<|Zd<|Zd<|Ze<|Yd<|Yd<|Ze<|Za<|Ze<|Zb h2 1 rfl rfl<|Ze<|Za<|Ze<|Zb h2 0 rfl rfl<|Ze<|Qeqf<|Zj<|Zd<|Zd<|Zd<|Zd<|Zd<|Ze<|Yd<|Zj<|Zd<|Zd<|Zd<|Zd<|Zd<|Ze<|Yd<|Yd<|Zf h3
   .exact Za<|Zb h2 1 rfl rfl<|Za<|Zb h2 0 rfl rfl<|Qltf<|Ze<|Za<|Ze<|Zb h2 1 rfl rfl<|Ze<|Za<|Ze<|Zb h2 0 rfl rfl<|Ze<|Qeqt<|Zj<|Ze<|Za<|Ze<|Zb h2 1 rfl rfl<|Ze<|Za<|Ze<|Zb h2 0 rfl rfl<|Ze<|Qltf<|Ze<|Yv<|Yd<|Ze<|Za<|Ze<|Zb h2 1 rfl rfl<|Ze<|Za<|Ze<|Zb h2 0 rfl rfl<|Ze<|Qeqt<|Zj<|Ze<|Za<|Ze<|Zb h2 1 rfl rfl<|Ze<|Za<|Ze<|Zb h2 0 rfl rfl<|Ze<|Qeqf<|Ze<|Yv<|Zj<|Zd<|Zd<|Zd<|Zd<|Zd<|Ze<|Yd<|Yd<|Zf h3
   .exact Za<|Zb h2 1 rfl rfl<|Za<|Zb h2 0 rfl rfl<|Qltf<|Ze<|Za<|Ze<|Zb h2 1 rfl rfl<|Ze<|Za<|Ze<|Zb h2 0 rfl rfl<|Ze<|Qeqt<|Zj<|Ze<|Za<|Ze<|Zb h2 1 rfl rfl<|Ze<|Za<|Ze<|Zb h2 0 rfl rfl<|Ze<|Qltf<|Ze<|Yv<|Yd<|Ze<|Za<|Ze<|Zb h2 1 rfl rfl<|Ze<|Za<|Ze<|Zb h2 0 rfl rfl<|Ze<|Qeqt<|Zj<|Ze<|Za<|Ze<|Zb h2 1 rfl rfl<|Ze<|Za<|Ze<|Zb h2 0 rfl rfl<|Ze<|Qeqt<|Ze<|Yv<|Zj<|Ze<|Za<|Ze<|Zb h2 1 rfl rfl<|Ze<|Za<|Ze<|Zb h2 0 rfl rfl<|Ze<|Qltf<|Ze<|Yv<|Yd<|Zf h3
end Go.Proofs.YtceipnkeijhebaaGreat
end
section
namespace Go.E
open Go.RowKit
section
variable {κ ν:Type} [DecidableEq κ] {P:Program} {kt vt t:TypeId} {kf:κ->Value} {vf:ν->Value} {zv:Value} {e w:World} {L:List HP} {K:KV} {b:Nat} {m:List<|κ × ν}
theorem ZqR (es:Array MapEntry) (j:Nat) (e':MapEntry) (kv:Value) (he:es[j]?=some e') (hk:e'.key=kv):es.modify j (λe=>{ e with key:=kv })=es:=by
 apply Array.ext';rw[Array.toList_modify];apply List.ext_getElem?;intro n;rw[List.getElem?_modify];by_cases h:j=n
 .subst h;rw[<-Array.getElem?_toList] at he;rw[he];cases e';simp only[if_true] at hk ⊢;subst hk;rfl
 .simp[h]
theorem ZwP {es:Array MapEntry} {clock j:Nat} {e':MapEntry} (hb:ZBE es.toList clock) (he:es[j]?=some e'):es.findIdx? (λe=>(e.born:Int)==(e'.born:Int))=some j:=by
 obtain ⟨hj,hje⟩:=Array.getElem?_eq_some_iff.1 he;rw[Array.findIdx?_eq_some_iff_getElem];refine ⟨hj,by rw[hje];simp,λi hi=>?_⟩;have h1:=List.pairwise_iff_getElem.1 hb.1 i j (by simp;omega) hj hi;simp only[Array.getElem_toList] at h1;rw[hje] at h1;simp;omega
theorem ZE9 (KT:ZvT P kt kf) (MT:Zx6 P t kt vt zv) (hu:Znz m) (hS:Sat e w<|Zaj kf vf b m::L) (k:κ) (x:ν) {xv:Value} (hx:xv=vf x) (hin:(lkA m k).isSome=true)
  (hk:∀w',Sat e w' (Zaj kf vf b (upA m k x)::L)->K undef w'):meM P t (.map<|some b) (kf k) w λa w=>xt 1 a w λs _=>esM P t (.map<|some b) s xv w K:=by
 subst hx;obtain ⟨h1,h2,d,s1,s2,⟨es,clock,hb,hm,hbo⟩,r⟩:=hS.mem;have hh:w.heap[b]?=some (.map es clock):=s1 _ _ hb;have hS0:Sat e w ((λg=>g b=some (.map es clock))::L):=⟨hS.os,hS.tape,hS.output,hS.drawn,hS.size,h1,h2,d,s1,s2,hb,r⟩;have hf:=KT.fnd k es.toList (m.map (·.1)) (ZlZ hm) w;have hl:=ZlY m k;cases hx:(m.map (·.1)).findIdx? (λx=>decide<|x=k) with
 | none=>
  rw[hx] at hl;simp only[Option.bind_none] at hl;rw[<-hl] at hin;cases hin
 | some j=>
  rw[hx] at hl hf;simp only[Option.bind_some] at hl hf;obtain ⟨hj,hjk,hjn⟩:=List.findIdx?_eq_some_iff_getElem.1 hx;simp only[List.length_map] at hj;simp only[List.getElem_map,decide_eq_true_eq] at hjk;have hkey:=ZxT hm j;rw[List.getElem?_eq_getElem hj] at hkey hl;simp only[Option.map_some] at hkey hl;obtain ⟨e',he,hek⟩:=Option.map_eq_some_iff.1 hkey;rw[he] at hf;simp only[Option.map_some] at hf;have he2:es[j]?=some e':=by rw[<-Array.getElem?_toList];exact he
  have hks:e'.key=kf k:=by rw[hek,hjk]
  refine Yn (w':=World.setB w b (.map es clock)) (v:=.tuple #[e'.val,goInt e'.born]) ?_<|Zal ?_
  .unfold Instr.mapEntry;have hst:(Instr.keyThatStays (((es[j]?).map (·.key)).getD<|kf k)<|kf k).run P w=.ok (kf k) w:=by
    rw[he2];simp only[Option.map_some,Option.getD_some,hks,Instr.keyThatStays,KT.sam,if_true,Sem.run_pure]
   have hmd:=ZqR es j e' (kf k) he2 hks;simp only[Sem.run_bind,Yb MT.und,Result.andThen_ok,Zbf hh,KT.chk,hf,hst,setObj,Sem.run,hh,World.setB];rw[he2];simp only[Option.map_some,Option.getD_some];rw[hmd];rfl
  .have hS1:=hS0.setB (o':=.map es clock);have hlt:b<w.heap.size:=(Array.getElem?_eq_some_iff.1 hh).1;have hh1:(World.setB w b (.map es clock)).heap[b]?=some (.map es clock):=by simp[World.setB,hlt]
   refine Zwl (w':=World.setB (World.setB w b (.map es clock)) b (.map (es.modify j λe=>{ e with val:=vf x }) clock)) ?_<|hk _ ?_
   .unfold Instr.entryStore;have hai:(asInt<|goInt e'.born).run P (World.setB w b (.map es clock))=.ok (e'.born:Int) (World.setB w b (.map es clock)):=rfl;simp only[Sem.run_bind,Result.andThen_ok,Zbf hh1,hai,ZwP hbo he2,setObj,Sem.run,hh1];rfl
   .refine hS1.setB.imp λg hg=>⟨_,_,hg,?_,?_⟩
    .unfold upA;rw[<-hl];simp only[Option.isSome_some,if_true];apply List.ext_getElem?;intro n;have hn:=congrArg (λl=>l[n]?) hm;simp only[List.getElem?_map] at hn ⊢;rw[Array.toList_modify,List.getElem?_modify];cases hen:es.toList[n]? with
     | none=>
      rw[hen] at hn;cases hmn:m[n]? with
      | none=>rfl
      | some p=>rw[hmn] at hn;cases hn
     | some en=>
      rw[hen] at hn;cases hmn:m[n]? with
      | none=>rw[hmn] at hn;cases hn
      | some p=>
       rw[hmn] at hn;simp only[Option.map_some,Option.some.injEq] at hn ⊢;by_cases hjn':j=n
       .subst hjn';have hp:p.1=k:=by
         rw[List.getElem?_eq_getElem hj] at hmn;cases hmn;exact hjk
        have hek2:en.key=kf p.1:=by
         have:=congrArg Prod.fst hn;exact this
        simp[hp,Zcn,hek2]
       .have hp:p.1≠k:=by
         intro hpk;have hnl:=(List.getElem?_eq_some_iff.1 hmn).1;have e1:(m.map (·.1))[j]?=some k:=by simp[List.getElem?_eq_getElem hj,hjk]
         have e2:(m.map (·.1))[n]?=some k:=by simp[hmn,hpk]
         have:=(List.getElem?_inj (by simpa using hj) hu).1<|e1.trans e2.symm;exact hjn' this
        simp only[hjn',if_false,hp];exact congrArg some hn
    .rw[Array.toList_modify];exact ZlP hbo j _<|λ_=>rfl
end
section
variable {P:Program} {w:World} {K:KV}
theorem ZvQ {x:Value} {s t:TypeId} (h:(Instr.typeAssert (.iface t x) s t false).run P w=.ok x w) (hk:K x w):tyA P (.iface t x) s t false w K:=Yn h hk
end
end Go.E
end
section
namespace Go.Proofs.YtceipnkeijhebaaGreat
open Go Go.E
set_option maxRecDepth 100000
variable {e w:World} {L R:List HP} {K:KV} {S S2:HP}
def MLt (a b:Msg):Prop:=Zv a.key b.key\/(a.key=b.key/\a.To<b.To)
def ZHW (a b:Msg):Int:=if ZeU a.key b.key≠0 then ZeU a.key b.key else Zlb a.To b.To
theorem MLt.irrefl (a:Msg):¬MLt a a:=by
 rintro (h | h)
 .exact Zv.irrefl _ h
 .omega
theorem MLt.trans {a b c:Msg} (h:MLt a b) (k:MLt b c):MLt a c:=by
 rcases h with h | ⟨h1,h2⟩
 .rcases k with k | ⟨k1,k2⟩
  .exact .inl<|h.trans k
  .rw[k1] at h;exact .inl h
 .rcases k with k | ⟨k1,k2⟩
  .rw[<-h1] at k;exact .inl k
  .exact .inr ⟨h1.trans k1,by omega⟩
theorem MLt.asymm {a b:Msg} (h:MLt a b):¬MLt b a:=λk=>MLt.irrefl _<|h.trans k
theorem MLt.tri (a b:Msg):MLt a b\/(a.key=b.key/\a.To=b.To)\/MLt b a:=by
 rcases Zv.tri a.key b.key with h | h | h
 .exact .inl (.inl h)
 .rcases Int.lt_trichotomy a.To b.To with k | k | k
  .exact .inl (.inr ⟨h,k⟩)
  .exact .inr (.inl ⟨h,k⟩)
  .exact .inr (.inr (.inr ⟨h.symm,k⟩))
 .exact .inr (.inr (.inl h))
theorem Zpc {a b c:Msg} (h:¬MLt a b) (k:¬MLt b c):¬MLt a c:=by
 intro hac;rcases MLt.tri a b with h1 | h1 | h1
 .exact h h1
 .apply k;rcases hac with h2 | h2
  .left;rw[<-h1.1];exact h2
  .right;rw[<-h1.1,<-h1.2];exact h2
 .exact k<|h1.trans hac
def ZwI (l:List Msg) (i k:Nat) (x y:Msg):List Msg:=(l.set i y).set k x
theorem Zo2 {l:List Msg} {i k:Nat} {x y:Msg} (hx:l[i]?=some x) (hy:l[k]?=some y) (n:Nat):(ZwI l i k x y)[n]?=if n=k then some x else if n=i then some y else l[n]?:=by
 have hi:=(List.getElem?_eq_some_iff.1 hx).1;have hk:=(List.getElem?_eq_some_iff.1 hy).1;unfold ZwI;rw[List.getElem?_set];by_cases h:k=n
 .subst h;simp[hk]
 .have h':¬n=k:=λe=>h e.symm;rw[if_neg h,if_neg h',List.getElem?_set];by_cases h2:i=n
  .subst h2;simp[hi]
  .have h2':¬n=i:=λe=>h2 e.symm;rw[if_neg h2,if_neg h2']
end Go.Proofs.YtceipnkeijhebaaGreat
namespace Go.Proofs.YtceipnkeijhebaaGreat
open Go Go.E
set_option maxRecDepth 100000
variable {e w:World} {R:List HP} {K:KV}
def Zr3 (l:List Msg) (n:Nat):Prop:=∀(i:Nat) (x y:Msg),0<i->i<n->l[i]?=some x->l[(i - 1) / 2]?=some y->¬MLt x y
def UpW (l:List Msg) (j:Nat):Prop:=
 (∀(i:Nat) (x y:Msg),0<i->i≠j->l[i]?=some x->l[(i - 1) / 2]?=some y->¬MLt x y)/\
 ∀(i:Nat) (x y:Msg),0<i->0<j->(i - 1) / 2=j->l[i]?=some x->l[(j - 1) / 2]?=some y->¬MLt x y
def Zt4 (l:List Msg) (j n:Nat):Prop:=
 (∀(i:Nat) (x y:Msg),0<i->i<n->(i - 1) / 2≠j->l[i]?=some x->l[(i - 1) / 2]?=some y->¬MLt x y)/\
 ∀(i:Nat) (x y:Msg),0<i->i<n->0<j->(i - 1) / 2=j->l[i]?=some x->l[(j - 1) / 2]?=some y->¬MLt x y
theorem Zr3.min {l:List Msg} {n:Nat} (h:Zr3 l n) (hn:n<=l.length) {z:Msg} (hz:l[0]?=some z):∀(i:Nat) (x:Msg),i<n->l[i]?=some x->¬MLt x z:=by
 intro i;induction i using Nat.strongRecOn with
 | _ i ih=>
  intro x hi hx;by_cases h0:i=0
  .subst h0;rw[hz] at hx;injection hx with hx;subst hx;exact MLt.irrefl _
  .obtain ⟨y,hy⟩:=Zk (l:=l) (j:=(i - 1) / 2) (by omega);exact Zpc (h i x y (by omega) hi hx hy)<|ih _ (by omega) y (by omega) hy
theorem UpW.done {l:List Msg} {j:Nat} (h:UpW l j) (hj:j=0\/∃x y,l[j]?=some x/\l[(j - 1) / 2]?=some y/\¬MLt x y):Zr3 l l.length:=by
 intro i x y hi _ hx hy;by_cases hij:i=j
 .subst hij;rcases hj with hj | ⟨x',y',hx',hy',hn⟩
  .omega
  .rw[hx] at hx';rw[hy] at hy';injection hx' with hx';injection hy' with hy';subst hx' hy';exact hn
 .exact h.1 i x y hi hij hx hy
theorem UpW.step {l:List Msg} {j:Nat} {x y:Msg} (h:UpW l j) (hj:0<j) (hx:l[j]?=some x) (hy:l[(j - 1) / 2]?=some y) (hlt:MLt x y):UpW (ZwI l ((j - 1) / 2) j y x) ((j - 1) / 2):=by
 obtain ⟨h1,h2⟩:=h;have hg:=Zo2 (i:=(j - 1) / 2) (k:=j) hy hx;constructor
 .intro i a b hi hij ha hb;rw[hg] at ha hb;by_cases e1:i=j
  .subst e1;rw[if_pos rfl] at ha;rw[if_neg (by omega),if_pos rfl] at hb;injection ha with ha;injection hb with hb;subst ha hb;exact hlt.asymm
  .rw[if_neg e1,if_neg hij] at ha;by_cases e2:(i - 1) / 2=j
   .rw[if_pos e2] at hb;injection hb with hb;subst hb;exact h2 i a y hi hj e2 ha hy
   .rw[if_neg e2] at hb;by_cases e3:(i - 1) / 2=(j - 1) / 2
    .rw[if_pos e3] at hb;injection hb with hb;subst hb;have:=h1 i a y hi e1 ha (by rw[e3];exact hy);intro hax;exact this<|hax.trans hlt
    .rw[if_neg e3] at hb;exact h1 i a b hi e1 ha hb
 .intro i a b hi hp hpar ha hb;rw[hg] at ha hb;rw[if_neg (by omega),if_neg (by omega)] at hb;have hyb:=h1 ((j - 1) / 2) y b hp (by omega) hy hb;by_cases e1:i=j
  .rw[if_pos e1] at ha;injection ha with ha;subst ha;exact hyb
  .rw[if_neg e1,if_neg (by omega)] at ha;have:=h1 i a y hi e1 ha (by rw[hpar];exact hy);exact Zpc this hyb
theorem Zt4.done {l:List Msg} {j n:Nat} (h:Zt4 l j n) (hj:∀(i:Nat) (x y:Msg),0<i->i<n->(i - 1) / 2=j->l[i]?=some x->l[j]?=some y->¬MLt x y):Zr3 l n:=by
 intro i x y hi hn hx hy;by_cases hij:(i - 1) / 2=j
 .exact hj i x y hi hn hij hx (by rw[<-hij];exact hy)
 .exact h.1 i x y hi hn hij hx hy
theorem Zt4.step {l:List Msg} {j c n:Nat} {x y:Msg} (h:Zt4 l j n) (hc0:0<c) (hcn:c<n) (hcj:(c - 1) / 2=j) (hx:l[j]?=some x) (hy:l[c]?=some y) (hlt:MLt y x)
  (hmin:∀(i:Nat) (a:Msg),0<i->i<n->(i - 1) / 2=j->l[i]?=some a->¬MLt a y):Zt4 (ZwI l j c x y) c n:=by
 obtain ⟨h1,h2⟩:=h;have hg:=Zo2 (i:=j) (k:=c) hx hy;constructor
 .intro i a b hi hn hij ha hb;rw[hg] at ha hb;rw[if_neg hij] at hb;by_cases e1:i=c
  .subst e1;rw[if_pos rfl] at ha;rw[if_pos hcj] at hb;injection ha with ha;injection hb with hb;subst ha hb;exact hlt.asymm
  .rw[if_neg e1] at ha;by_cases e2:(i - 1) / 2=j
   .rw[if_pos e2] at hb;rw[if_neg (by omega)] at ha;injection hb with hb;subst hb;exact hmin i a hi hn e2 ha
   .rw[if_neg e2] at hb;by_cases e3:i=j
    .rw[if_pos e3] at ha;injection ha with ha;subst ha;subst e3;exact h2 c y b hc0 hcn hi hcj hy hb
    .rw[if_neg e3] at ha;exact h1 i a b hi hn e2 ha hb
 .intro i a b hi hn hc hpar ha hb;rw[hg] at ha hb;rw[if_neg (by omega),if_neg (by omega)] at ha;rw[if_neg (by omega),if_pos hcj] at hb;injection hb with hb;subst hb;exact h1 i a y hi hn (by omega) ha (by rw[hpar];exact hy)
end Go.Proofs.YtceipnkeijhebaaGreat
end
section
namespace Go.Proofs.YtceipnkeijhebaaGreat
open Go Go.E
set_option maxRecDepth 100000
variable {e w:World} {L R:List HP} {K:KV} {S S2:HP}
theorem unpick {A:HP} {i:Nat} (hi:L[i]?=some S) (h:Sat e w<|A::S::L.eraseIdx i):Sat e w (A::L):=h.perm<|(ZfR L i S hi).symm.cons A
theorem ZbR {v:Value} {l:List Int} (i:Nat) (hi:L[i]?=some S) (hl:l.length<=1000000) (hff:∀x∈l,∀v∈(Ye .i64) x,flat v=true) (hS:Sat e w L) (hr:∀g,S g->rdS 1 (Ye .i64) v l g)
  (hk:∀v' w',Sat e w' (Zz 3 1 (Ye .i64) v' l::L)->K v' w'):Cl prog 136 #[v] w K:=
 Zqf hl hff (hS.pick i hi) hr λv' w' h=>hk v' w'<|unpick hi h
theorem Zde {v:Value} {l:List Out} (i:Nat) (hi:L[i]?=some S) (hl:l.length<=1000000) (hff:∀x∈l,∀v∈Out.cs x,flat v=true) (hS:Sat e w L) (hr:∀g,S g->rdS 3 Out.cs v l g)
  (hk:∀v' w',Sat e w' (Zz 133 3 Out.cs v' l::L)->K v' w'):Cl prog 138 #[v] w K:=
 ZkK hl hff (hS.pick i hi) hr λv' w' h=>hk v' w'<|unpick hi h
theorem Zjh {v:Value} {l:List Yg} (i:Nat) (hi:L[i]?=some S) (hl:l.length<=1000000) (hff:∀x∈l,∀v∈Yg.cs x,flat v=true) (hS:Sat e w L) (hr:∀g,S g->rdS 4 Yg.cs v l g)
  (hk:∀v' w',Sat e w' (Zz 54 4 Yg.cs v' l::L)->K v' w'):Cl prog 139 #[v] w K:=
 Zob hl hff (hS.pick i hi) hr λv' w' h=>hk v' w'<|unpick hi h
theorem ZkD {v:Value} {l:List Zao} (i:Nat) (hi:L[i]?=some S) (hl:l.length<=1000000) (hff:∀x∈l,∀v∈Zao.cs x,flat v=true) (hS:Sat e w L) (hr:∀g,S g->rdS 7 Zao.cs v l g)
  (hk:∀v' w',Sat e w' (Zz 52 7 Zao.cs v' l::L)->K v' w'):Cl prog 137 #[v] w K:=
 ZoY hl hff (hS.pick i hi) hr λv' w' h=>hk v' w'<|unpick hi h
theorem Zos {v:Value} {l:List Zak} (i:Nat) (hi:L[i]?=some S) (hl:l.length<=1000000) (hff:∀x∈l,∀v∈Zak.cs x,flat v=true) (hS:Sat e w L) (hr:∀g,S g->rdS 7 Zak.cs v l g)
  (hk:∀v' w',Sat e w' (Zz 129 7 Zak.cs v' l::L)->K v' w'):Cl prog 244 #[v] w K:=
 ZiJ hl hff (hS.pick i hi) hr λv' w' h=>hk v' w'<|unpick hi h
def ZfY (r:Yg):HP:=Zz 133 3 Out.cs r.sv r.Sends
def Zea (f:Zao):HP:=Yh [Zz 3 1 (Ye .i64) f.pv f.Pubs,Zz 3 1 (Ye .i64) f.sv f.Subs,Zz 133 3 Out.cs f.iv f.Init,Zz 54 4 Yg.cs f.rv f.Rules,Yh<|f.Rules.map ZfY]
def Zag (x:WdX):HP:=Yh [Zz 3 1 (Ye .i64) x.pv x.Parents,Zz 52 7 Zao.cs x.fv x.Feds,Yh<|x.Feds.map Zea]
theorem Zbl {α:Type} {size:Nat} {f:α->List Value} {v:Value} {l:List α} {h g:Hp} (s:Sub h g) (k:rdS size f v l h):rdS size f v l g:=by
 obtain ⟨A,c,h1,h2,h3⟩:=k;exact ⟨A,c,h1,h2,λh0=>by obtain ⟨a,h4,h5⟩:=h3 h0;exact ⟨a,h4,h5.up s⟩⟩
theorem Yy {l:List HP} {g:Hp} {i:Nat} {P:HP} (h:Yh l g) (hi:l[i]?=some P):∃g',P g'/\Sub g' g:=ZcB.get (S:=P) h hi
theorem Zv9 {f:Zao} {g:Hp} (h1:rdS 4 Yg.cs f.rv f.Rules g) (h2:Yh (f.Rules.map ZfY) g):Zew f.rv f.Rules g:=by
 refine ⟨h1,λr hr=>?_⟩;obtain ⟨i,hi⟩:=List.getElem?_of_mem hr;obtain ⟨g',h3,h4⟩:=Yy (i:=i) (P:=ZfY r) h2 (by rw[List.getElem?_map,hi];rfl);exact Zbl h4<|Zp h3
theorem Zew.up {v:Value} {l:List Yg} {h g:Hp} (s:Sub h g) (k:Zew v l h):Zew v l g:=⟨Zbl s k.s,λr hr=>Zbl s<|k.e r hr⟩
theorem ZmQ.up {f:Zao} {h g:Hp} (s:Sub h g) (k:ZmQ f h):ZmQ f g:=⟨k.rules.up s,Zbl s k.pubs,Zbl s k.subs,Zbl s k.init⟩
theorem ZuJ {f:Zao} {g:Hp} (h:Zea f g):ZmQ f g:=by
 obtain ⟨g1,k1,s1⟩:=Yy (i:=0) h rfl;obtain ⟨g2,k2,s2⟩:=Yy (i:=1) h rfl;obtain ⟨g3,k3,s3⟩:=Yy (i:=2) h rfl;obtain ⟨g4,k4,s4⟩:=Yy (i:=3) h rfl;obtain ⟨g5,k5,s5⟩:=Yy (i:=4) h rfl;have k5':Yh (f.Rules.map ZfY) g:=ZcB.up k5 s5;exact ⟨Zv9 (Zbl s4<|Zp k4) k5',Zbl s1<|Zp k1,Zbl s2<|Zp k2,Zbl s3<|Zp k3⟩
theorem Zct {x:WdX} {g:Hp} (h:Zag x g):ZtG x g:=by
 obtain ⟨g1,k1,s1⟩:=Yy (i:=0) h rfl;obtain ⟨g2,k2,s2⟩:=Yy (i:=1) h rfl;obtain ⟨g3,k3,s3⟩:=Yy (i:=2) h rfl;refine ⟨Zbl s1<|Zp k1,Zbl s2<|Zp k2,λf hf=>?_⟩;obtain ⟨i,hi⟩:=List.getElem?_of_mem hf;obtain ⟨g',h3,h4⟩:=Yy (i:=i) (P:=Zea f) k3 (by rw[List.getElem?_map,hi];rfl);exact (ZuJ h3).up<|h4.trans s3
theorem ZoX {α:Type} {t:TypeId} {size:Nat} {f:α->List Value} {v:Value} {l l':List α} {g:Hp} (hl:l.map f=l'.map f) (h:Zz t size f v l g):Zz t size f v l' g:=by
 have hlen:l.length=l'.length:=by simpa using congrArg List.length hl
 have hfm:l.flatMap f=l'.flatMap f:=by rw[List.flatMap_def,List.flatMap_def,hl]
 rcases h with ⟨h1,h2⟩ | ⟨b,c,cs,h1,h2,h3,h4,h5⟩
 .subst h2;refine .inl ⟨h1,List.length_eq_zero_iff.1<|by rw[<-hlen];rfl⟩
 .exact .inr ⟨b,c,cs,by rw[<-hlen];exact h1,h2,h3,by omega,by rw[<-hlen,<-hfm];exact h5⟩
theorem Znr {v:Value} {l:List Yg} (i:Nat) (hi:L[i]?=some S) (hS:Sat e w L) (hr:∀g,S g->Zew v l g):∀r∈l,∀c∈r.cs,flat c=true:=by
 intro r hrm c hc;obtain ⟨g,hg,_⟩:=hS.get i hi;obtain ⟨A,c',hsv,_⟩:=(hr g hg).e r hrm;simp only[Yg.cs,List.mem_cons,List.not_mem_nil,or_false] at hc;rcases hc with rfl | rfl | rfl | rfl
 .rfl
 .rfl
 .rfl
 .rw[hsv];rfl
theorem ZiX {A:HP} {l:List HP} (h:Sat e w<|A::Yh l::R):Sat e w (Yh (l++[A])::R):=by
 have h1:Sat e w (Yh (A::l)::R):=Sat.join (l':=A::l) (by
  have:=h.swap.split;exact this.perm<|List.perm_middle (a:=A) (l₁:=l) (l₂:=R))
 exact h1.imp λg hg=>ZcB.perm (List.perm_append_singleton A l).symm hg
end Go.Proofs.YtceipnkeijhebaaGreat
namespace Go.Proofs.YtceipnkeijhebaaGreat
open Go Go.E
set_option maxRecDepth 100000
structure FA where
 st:Int
 sent:Int
 log:List Zak
structure RS where
 feds:List FA
 wait:List Msg
def ZGx (m:Msg):List Msg->List Msg
 | []=>[m]
 | a::l=>if ZHW m a<0 then m::a::l else a::ZGx m l
def putL (l ms:List Msg):List Msg:=ms.foldl (λl m=>ZGx m l) l
def ZF5 (wd:Wd) (f:Fed) (a:FA) (m:Msg) (rest:List Msg) (R:RS):Zak × RS:=
 (⟨m,(ZbY f.Rules a.st m.Class).1⟩,⟨R.feds.set m.To.toNat ⟨(ZbY f.Rules a.st m.Class).1,a.sent+(ZbY f.Rules a.st m.Class).2.length,a.log++[⟨m,(ZbY f.Rules a.st m.Class).1⟩]⟩,
  putL rest (Zau wd.Parents wd.Feds m.To a.sent m.key.T m.Body (ZbY f.Rules a.st m.Class).2)⟩)
def ZFO (wd:Wd) (R:RS):Option (Zak × RS):=match R.wait with
 | []=>none
 | m::rest=>if wd.End<=m.key.T then none else match wd.Feds[m.To.toNat]?,R.feds[m.To.toNat]? with
  | some f,some a=>some (ZF5 wd f a m rest R)
  | _,_=>none
def ZF4 (wd:Wd):RS:=⟨wd.Feds.map λf=>⟨f.Start,f.Init.length,[]⟩,putL []<|Zaz wd.Parents wd.Feds wd.Feds⟩
structure ZoS (wd:Wd):Prop where
 tree:ZkT wd.Parents
 n:1<=wd.Feds.length/\wd.Feds.length<=8
 en:0<=wd.End/\wd.End<=1099511627776
 sends:∀f∈wd.Feds,∀r∈f.Rules,r.Sends.length<=3/\∀o∈r.Sends,Zpq wd.Parents.length o/\1<=o.Delay
 init:∀f∈wd.Feds,f.Init.length<=4/\∀o∈f.Init,Zpq wd.Parents.length o/\0<=o.Delay
theorem Zl9 {f:Fed}:∀{l:List Out},ZbW f l=0->∀o∈l,o.Class∈f.Pubs/\f.Look<=o.Delay
 | [],_,o,ho=>by cases ho
 | x::l,h,o,ho=>by
  rw[Zco] at h;split at h
  .cases h
  .rename_i h1;split at h
   .cases h
   .rename_i h2;rcases List.mem_cons.1 ho with rfl | ho
    .exact ⟨Classical.not_not.1 h1,by omega⟩
    .exact Zl9 h o ho
theorem ZlL {f:Fed} {most:Int}:∀{l:List Zsp},Zca f most l=0->∀r∈l,ZbW f r.Sends=0
 | [],_,o,ho=>by cases ho
 | x::l,h,r,hr=>by
  rw[Zcp] at h;split at h
  .cases h
  .rename_i h1;split at h
   .rename_i h2;exact absurd h h2
   .rename_i h2;rcases List.mem_cons.1 hr with rfl | hr
    .exact Classical.not_not.1 h2
    .exact ZlL h r hr
theorem ZlN {most:Int}:∀{l:List Int} {lo:Int},ZaF most lo l->∀c∈l,c<most
 | [],_,_,c,hc=>by cases hc
 | a::l,lo,h,c,hc=>by
  obtain ⟨h1,h2,h3⟩:=h;rcases List.mem_cons.1 hc with rfl | hc
  .exact h2
  .exact ZlN h3 c hc
theorem Zp6 {f:Fed} {most:Int} (h:Zre f most=0):1<=f.Look/\Zc4 f.Rules/\ZaF most (-1) f.Pubs/\Zca f most f.Rules=0/\ZlW f:=by
 rw[ZjK] at h;split at h
 .cases h
 .split at h
  .cases h
  .rename_i h1 h2;split at h
   .cases h
   .split at h
    .cases h
    .rename_i h3 h4;split at h
     .cases h
     .rename_i h5;split at h
      .rename_i h6;exact absurd h h6
      .rename_i h6;split at h
       .cases h
       .rename_i h7;exact ⟨(Classical.not_not.1 h2).1,Classical.not_not.1 h4,(Classical.not_not.1 h5).1,Classical.not_not.1 h6,Classical.not_not.1 h7⟩
theorem ZjJ {most:Int}:∀{l:List Fed} {i:Nat},(Zm3 most i l).2=0->∀f∈l,Zre f most=0
 | [],_,_,f,hf=>by cases hf
 | x::l,i,h,f,hf=>by
  rw[ZdR] at h;split at h
  .rename_i h1;exact absurd h h1
  .rename_i h1;rcases List.mem_cons.1 hf with rfl | hf
   .exact Classical.not_not.1 h1
   .exact ZjJ h f hf
theorem ZfI {wd:Wd} (h:(Za4 wd).2=0):ZoS wd:=by
 unfold Za4 at h;split at h
 .rename_i h1;exact absurd h h1
 .rename_i h1;split at h
  .cases h
  .rename_i h2;have ht:ZkT wd.Parents:=by
    have:=Classical.not_not.1 h1;unfold ZhY at this;split at this
    .assumption
    .cases this
   have h2:=Classical.not_not.1 h2;have hf:=ZjJ h;refine ⟨ht,by omega,h2.1,λf hfm r hr=>?_,λf hfm=>?_⟩
   .obtain ⟨k1,k2,k3,k4,k5⟩:=Zp6<|hf f hfm;have hok:=k2.2.1 r hr;refine ⟨hok.2.2.2.2.2.2.1,λo ho=>?_⟩;obtain ⟨p1,p2⟩:=Zl9 (ZlL k4 r hr) o ho;have p3:=hok.2.2.2.2.2.2.2 o ho;exact ⟨⟨p3.1,ZlN k3 _ p1,p3.2.2.2.2.1⟩,by omega⟩
   .obtain ⟨k1,k2,k3,k4,k5⟩:=Zp6<|hf f hfm;refine ⟨k5.1,λo ho=>?_⟩;obtain ⟨p1,p2,p3,p4,p5⟩:=k5.2 o ho;have:=Zqq k3 _ p1;exact ⟨⟨by omega,ZlN k3 _ p1,p4⟩,p2⟩
theorem ZhA {ps:List Int} {f c:Int} {l:List Fed} {to:Int} (h:to∈Zba ps f c l):0<=to/\to<l.length/\to≠f:=by
 unfold Zba at h;obtain ⟨p,hp,rfl⟩:=List.mem_map.1 h;obtain ⟨h1,h2⟩:=List.mem_filter.1 hp;rw[Bool.and_eq_true] at h2;have h3:=of_decide_eq_true h2.1;have h4:=List.snd_lt_of_mem_zipIdx h1;exact ⟨by omega,by omega,h3⟩
structure ZCy (feds:List Fed) (f seq now:Int) (k:Nat) (m:Msg):Prop where
 from':m.key.From=f
 seq:seq<=m.key.Seq/\m.key.Seq<seq+k
 to:0<=m.To/\m.To<feds.length/\m.To≠f
 body:0<=m.Body
 time:∃o:Out,m.key.T=ZvS now o.Delay
def D3 (a b:Msg):Prop:=a.key.From<b.key.From\/(a.key.From=b.key.From/\(a.key.Seq<b.key.Seq\/(a.key.Seq=b.key.Seq/\a.To<b.To)))
theorem Znf {ps:List Int} {feds:List Fed} {f seq now body:Int} {outs:List Out} {m:Msg} (h:m∈Zau ps feds f seq now body outs) :
  ∃(i:Nat) (o:Out) (to:Int),outs[i]?=some o/\to∈Zba ps f o.Class feds/\m={ Zim f (seq+i) now body o with To:=to }:=by
 unfold Zau at h;obtain ⟨p,hp,h⟩:=List.mem_flatMap.1 h;obtain ⟨to,hto,rfl⟩:=List.mem_map.1 h;have:=List.mem_zipIdx_iff_getElem?.1 hp;exact ⟨p.2,p.1,to,this,hto,rfl⟩
theorem Zpu {ps:List Int} {feds:List Fed} {f seq now body:Int} {outs:List Out} {m:Msg} (h:m∈Zau ps feds f seq now body outs):ZCy feds f seq now outs.length m:=by
 obtain ⟨i,o,to,h1,h2,rfl⟩:=Znf h;have hi:=(List.getElem?_eq_some_iff.1 h1).1;exact ⟨rfl,⟨by simp only[Zim];omega,by simp only[Zim];omega⟩,ZhA h2,by simp only[Zim];omega,o,rfl⟩
theorem ZBf {α:Type} {P:List α->Prop} (h0:P []) (hs:∀l x,P l->P (l++[x])):∀l,P l:=by
 intro l;have key:∀n (l:List α),l.length=n->P l:=by
  intro n;induction n with
  | zero=>intro l hl;rw[List.length_eq_zero_iff.1 hl];exact h0
  | succ n ih=>
   intro l hl;have hne:l≠[]:=λh=>by rw[h] at hl;cases hl
   rw[<-List.dropLast_concat_getLast hne];exact hs _ _<|ih _ (by rw[List.length_dropLast];omega)
 exact key _ l rfl
theorem Znu {ps:List Int} {feds:List Fed} {l:List Fed} {m:Msg} (h:m∈Zaz ps feds l):∃(i:Nat) (fd:Fed),l[i]?=some fd/\m∈Zau ps feds (i:Int) 0 0 0 fd.Init:=by
 unfold Zaz at h;obtain ⟨p,hp,h⟩:=List.mem_flatMap.1 h;exact ⟨p.2,p.1,List.mem_zipIdx_iff_getElem?.1 hp,h⟩
theorem ZtB {ps:List Int} {feds:List Fed} (hn:feds.length<=8):∀{l:List Fed},(∀f∈l,f.Init.length<=4)->(Zaz ps feds l).length<=l.length*32:=by
 intro l;induction l using ZBf with
 | h0=>simp[Zaz]
 | hs l x ih=>
  intro h;rw[Zkw,List.length_append,List.length_append,List.length_singleton,Nat.add_mul];have h1:=ih λf hf=>h f (by simp[hf]);have h2:=ZcU ps feds (l.length:Int) 0 0 0 x.Init;have h3:x.Init.length*feds.length<=4*8:=Nat.mul_le_mul (h x<|by simp) hn;omega
end Go.Proofs.YtceipnkeijhebaaGreat
namespace Go.Proofs.YtceipnkeijhebaaGreat
open Go Go.E
set_option maxRecDepth 100000
theorem ZqX (l:List Zsp) (s c:Int):(∃r∈l,r.State=s/\r.Class=c/\ZbY l s c=(r.Next,r.Sends))\/((∀r∈l,¬(r.State=s/\r.Class=c))/\ZbY l s c=(s,[])):=by
 unfold ZbY;cases h:l.find? λr=>decide (r.State=s)&&decide (r.Class=c) with
 | some r=>
  have h1:=List.find?_some h;rw[Bool.and_eq_true] at h1;exact .inl ⟨r,List.mem_of_find?_eq_some h,of_decide_eq_true h1.1,of_decide_eq_true h1.2,rfl⟩
 | none=>
  rw[List.find?_eq_none] at h;exact .inr ⟨λr hr hn=>h r hr (by rw[Bool.and_eq_true];exact ⟨decide_eq_true hn.1,decide_eq_true hn.2⟩),rfl⟩
theorem ZlA {wd:Wd} (hw:ZoS wd) {f:Fed} (hf:f∈wd.Feds) (s c:Int):(ZbY f.Rules s c).2.length<=3/\∀o∈(ZbY f.Rules s c).2,Zpq wd.Parents.length o/\1<=o.Delay:=by
 rcases ZqX f.Rules s c with ⟨r,hr,_,_,h⟩ | ⟨_,h⟩
 .rw[h];exact hw.sends f hf r hr
 .rw[h];exact ⟨by simp,by simp⟩
def Zul (wd:Wd):Nat->RS->Nat × RS
 | 0,R=>(0,R)
 | n+1,R=>match ZFO wd R with
  | none=>(0,R)
  | some x=>((Zul wd n x.2).1+1,(Zul wd n x.2).2)
end Go.Proofs.YtceipnkeijhebaaGreat
end
section
namespace Go.Proofs.YtceipnkeijhebaaGreat
open Go Go.E
set_option maxRecDepth 100000
structure Clk where
 (L:List Int) (self:Int) (told:Int)
def Clk.okJ (c:Clk) (j:Int):Prop:=0<=j/\j<c.L.length/\j≠c.self
instance (c:Clk) (j:Int):Decidable (c.okJ j):=inferInstanceAs<|Decidable<|_/\_
def Clk.get (c:Clk) (j:Int):Int:=c.L.getD j.toNat 0
def Clk.at' (c:Clk) (j:Int):Int:=if c.okJ j then c.get j else -1
def Clk.hearE (c:Clk) (j t:Int):Int:=if ¬c.okJ j\/Yu t=false then 1 else if t<c.get j then 110 else 0
def Clk.hear (c:Clk) (j t:Int):Clk:=if c.hearE j t=0 then ⟨c.L.set j.toNat t,c.self,c.told⟩ else c
def Clk.bound (c:Clk):Int:=(List.range c.L.length).foldl (λ(n:Int) (j:Nat)=>if (j:Int)=c.self then n else min n (c.get j)) Inf
def Clk.tellT (c:Clk) (first look:Int):Int:=ZvS (ZaP [first,c.bound]) look
def Clk.tell (c:Clk) (first look:Int):Clk:=if c.tellT first look<=c.told then c else ⟨c.L,c.self,c.tellT first look⟩
def Clk.tellB (c:Clk) (first look:Int):Bool:=decide<|c.told<c.tellT first look
theorem Clk.hearE_bad {c:Clk} {j t:Int} (h:¬c.okJ j\/Yu t=false):c.hearE j t=1:=if_pos h
theorem Clk.hearE_early {c:Clk} {j t:Int} (h:c.okJ j) (hv:Yu t=true) (h1:t<c.get j):c.hearE j t=110:=by
 unfold Clk.hearE;rw[if_neg (by simp[h,hv]),if_pos h1]
theorem Clk.hearE_ok {c:Clk} {j t:Int} (h:c.okJ j) (hv:Yu t=true) (h1:¬t<c.get j):c.hearE j t=0:=by
 unfold Clk.hearE;rw[if_neg (by simp[h,hv]),if_neg h1]
theorem Clk.hear_bad {c:Clk} {j t:Int} (h:¬c.okJ j\/Yu t=false):c.hear j t=c:=by
 unfold Clk.hear;rw[hearE_bad h,if_neg (by decide)]
theorem Clk.hear_early {c:Clk} {j t:Int} (h:c.okJ j) (hv:Yu t=true) (h1:t<c.get j):c.hear j t=c:=by
 unfold Clk.hear;rw[hearE_early h hv h1,if_neg (by decide)]
theorem Clk.hear_ok {c:Clk} {j t:Int} (h:c.okJ j) (hv:Yu t=true) (h1:¬t<c.get j):c.hear j t=⟨c.L.set j.toNat t,c.self,c.told⟩:=by
 unfold Clk.hear;rw[hearE_ok h hv h1,if_pos rfl]
def Clk.IsBound (c:Clk) (b:Int):Prop:=b<=Inf/\(∀j,c.okJ j->b<=c.get j)/\(b=Inf\/∃j,c.okJ j/\b=c.get j)
theorem Clk.IsBound.uniq {c:Clk} {a b:Int} (ha:c.IsBound a) (hb:c.IsBound b):a=b:=by
 obtain ⟨a1,a2,a3⟩:=ha;obtain ⟨b1,b2,b3⟩:=hb;have h1:a<=b:=by
  rcases b3 with rfl | ⟨j,hj,rfl⟩
  .exact a1
  .exact a2 j hj
 have h2:b<=a:=by
  rcases a3 with rfl | ⟨j,hj,rfl⟩
  .exact b1
  .exact b2 j hj
 omega
def Clk.upTo (c:Clk) (n:Nat):Int:=(List.range n).foldl (λ(n:Int) (j:Nat)=>if (j:Int)=c.self then n else min n (c.get j)) Inf
theorem Clk.upTo_succ (c:Clk) (n:Nat):c.upTo (n+1)=if (n:Int)=c.self then c.upTo n else min (c.upTo n) (c.get n):=by
 simp only[Clk.upTo,List.range_succ,List.foldl_append,List.foldl_cons,List.foldl_nil]
theorem Clk.upTo_spec (c:Clk):∀n:Nat,n<=c.L.length->c.upTo n<=Inf/\(∀j,c.okJ j->j<n->c.upTo n<=c.get j)/\(c.upTo n=Inf\/∃j,c.okJ j/\c.upTo n=c.get j)
 | 0,_=>⟨Int.le_refl _,λj hj hl=>by have:=hj.1;omega,.inl<|by rfl⟩
 | n+1,hn=>by
  obtain ⟨h1,h2,h3⟩:=c.upTo_spec n (by omega);rw[c.upTo_succ];split
  .rename_i hs;refine ⟨h1,λj hj hl=>h2 j hj ?_,h3⟩;have:=hj.2.2;omega
  .rename_i hs;refine ⟨by omega,λj hj hl=>?_,?_⟩
   .by_cases hjn:j=n
    .subst hjn;omega
    .have:=h2 j hj (by omega);omega
   .by_cases hm:c.upTo n<=c.get n
    .rw[Int.min_eq_left hm];exact h3
    .rw[Int.min_eq_right (by omega)];exact .inr ⟨n,⟨by omega,by omega,hs⟩,rfl⟩
theorem Clk.bound_is (c:Clk):c.IsBound c.bound:=by
 obtain ⟨h1,h2,h3⟩:=c.upTo_spec c.L.length<|Nat.le_refl _;exact ⟨h1,λj hj=>h2 j hj hj.2.1,h3⟩
def kI:Int->Value:=λn=>Iw n
def Zpv (c:Clk) (m:List<|Int × Int):Prop:=Znz m/\∀j,lkA m j=if c.okJ j then some (c.get j) else none
def Zbv (g:Nat) (c:Clk):HP:=hex λp:Nat × List (Int × Int)=>Yh [blk g 213 [.map<|some p.1,Iw c.told],Zaj kI kI p.1 p.2,pur<|Zpv c p.2]
variable {e w:World} {R:List HP} {K:KV}
theorem Zpv.mem {c:Clk} {m:List<|Int × Int} (h:Zpv c m) {p:Int × Int}:p∈m↔c.okJ p.1/\p.2=c.get p.1:=by
 have hk:=h.2 p.1;constructor
 .intro hp;have hf:lkA m p.1=some p.2:=by
   unfold lkA;rw[ZlB h.1 hp];rfl
  rw[hf] at hk;by_cases ho:c.okJ p.1
  .rw[if_pos ho] at hk;exact ⟨ho,Option.some.inj hk⟩
  .rw[if_neg ho] at hk;cases hk
 .rintro ⟨ho,he⟩;rw[if_pos ho] at hk;unfold lkA at hk;obtain ⟨q,hq,hv⟩:=Option.map_eq_some_iff.1 hk;have h1:=List.mem_of_find?_eq_some hq;have h2:=List.find?_some hq;simp only[decide_eq_true_eq] at h2;have:q=p:=by cases q;cases p;simp_all
  exact this▸h1
theorem Zpv.step {c:Clk} {m:List<|Int × Int} (h:Zpv c m) {j t:Int} (hj:c.okJ j) (told:Int):Zpv ⟨c.L.set j.toNat t,c.self,told⟩ (upA m j t):=by
 refine ⟨h.1.up j t,λi=>?_⟩;rw[ZiY h.1];have hok:∀i,Clk.okJ ⟨c.L.set j.toNat t,c.self,told⟩ i↔c.okJ i:=λi=>by simp[Clk.okJ]
 have hlt:j.toNat<c.L.length:=by have:=hj.2.1;have:=hj.1;omega
 by_cases hij:i=j
 .subst hij;rw[if_pos rfl,if_pos<|(hok _).2 hj];simp[Clk.get,List.getD_eq_getElem?_getD,hlt]
 .rw[if_neg hij,h.2 i];by_cases ho:c.okJ i
  .rw[if_pos ho,if_pos<|(hok _).2 ho];have hne:j.toNat≠i.toNat:=by have:=ho.1;have:=hj.1;omega
   simp[Clk.get,List.getD_eq_getElem?_getD,hne]
  .rw[if_neg ho,if_neg<|λk=>ho<|(hok _).1 k]
theorem Zbv.open {g:Nat} {c:Clk} (hS:Sat e w<|Zbv g c::R):∃b m,Zpv c m/\Sat e w (blk g 213 [.map<|some b,Iw c.told]::Zaj kI kI b m::R):=by
 obtain ⟨⟨b,m⟩,h0⟩:=hS.ex;have h1:=h0.split;have h2:=h1.pick 2 rfl;obtain ⟨h3,h4⟩:=h2.pure;exact ⟨b,m,h3,h4⟩
theorem Zbv.close {g b:Nat} {c:Clk} {m:List<|Int × Int} (h:Zpv c m) (hS:Sat e w<|blk g 213 [.map<|some b,Iw c.told]::Zaj kI kI b m::R):Sat e w (Zbv g c::R):=by
 exact .mk_ex (b,m) (.join (l':=[_,_,_])<|(Sat.mk_pure h hS).sn 3 [1,2,0])
theorem ZqU {n:Nat} {self:Int} (h1:1<=n) (h2:n<=8) (h3:0<=self) (h4:self<n) (hS:Sat e w R)
  (hk:∀g w',Sat e w' (Zbv g ⟨List.replicate n 0,self,0⟩::R)->K (.tuple #[pt g,Iw 0]) w'):Cl prog 72 #[Iw n,Iw self] w K:=by
 refine Zlo ?_;unfold ZpA;refine Qltf<|Zj<|Ze<|Qgtf<|Yd<|Zj<|Ze<|Qltf<|Yd<|Zj<|Zj<|Ze<|Qgef<|Yd<|Zf<|Zfx kI kI hS λb w1 hm=>?_;rw[Z1j];refine Zaf [.map<|some b,Iw 0] (by rfl) ?_;refine Yp (cs:=[.map<|some b,Iw 0]) hm rfl λg w2 hg=>?_;refine lp1 (λt27 w=>∃j:Nat,j<=n/\t27=Iw j/\∃m:List<|Int × Int,(Znz m/\∀i,lkA m i=if 0<=i/\i<(j:Int)/\i≠self then some 0 else none)/\
  Sat e w (blk g 213 [.map<|some b,Iw 0]::Zaj kI kI b m::R)) (λt27 _=>n - nOf t27) ⟨0,Nat.zero_le _,rfl,[],⟨List.Pairwise.nil,λi=>?_⟩,hg⟩ ?_
 .rw[if_neg (by omega)];rfl
 rintro _ w g1 ⟨j,hj,rfl,m,⟨hu,hl⟩,h0⟩ hg;refine Za7 (λc=>?_)<|λc=>?_
 .refine Zi<|J0.cut (λw=>∃m:List<|Int × Int,(Znz m/\∀i,lkA m i=if 0<=i/\i<((j+1:Nat):Int)/\i≠self then some 0 else none)/\Sat e w (blk g 213 [.map<|some b,Iw 0]::Zaj kI kI b m::R)) (λk hcut=>?_)<|λw hA=>?_
  .refine ZrP (λc2=>?_)<|λc2=>?_
   .refine Zi<|Zh<|Za<|Zb h0 0 rfl rfl<|ZsG ZXX ZXY hu h0.swap (j:Int) (0:Int) (vf:=kI) rfl λw3 h3=>hcut _ ⟨upA m j 0,⟨hu.up _ _,λi=>?_⟩,h3.swap⟩;rw[ZiY hu,hl];by_cases hij:i=j
    .subst hij;rw[if_pos rfl,if_pos (by omega)]
    .rw[if_neg hij];by_cases hq:0<=i/\i<(j:Int)/\i≠self
     .rw[if_pos hq,if_pos (by omega)]
     .rw[if_neg hq,if_neg (by omega)]
   .refine Zf<|hcut _ ⟨m,⟨hu,λi=>?_⟩,h0⟩;rw[hl];by_cases hq:0<=i/\i<(j:Int)/\i≠self
    .rw[if_pos hq,if_pos (by omega)]
    .rw[if_neg hq,if_neg (by omega)]
  .obtain ⟨m',hm',h3⟩:=hA;exact Qincs<|hg _ _ ⟨j+1,by omega,rfl,m',hm',h3⟩ (by simp[nOf];omega)
 .refine Zf<|hk _ _<|Zbv.close (m:=m) ⟨hu,λi=>?_⟩ h0;obtain rfl:j=n:=by omega
  rw[hl];have:(Clk.okJ ⟨List.replicate j 0,self,0⟩ i)↔(0<=i/\i<(j:Int)/\i≠self):=by simp[Clk.okJ]
  by_cases hq:0<=i/\i<(j:Int)/\i≠self
  .rw[if_pos hq,if_pos<|this.2 hq];simp only[Clk.get,List.getD_eq_getElem?_getD,List.getElem?_replicate];split <;> rfl
  .rw[if_neg hq,if_neg<|λk=>hq<|this.1 k]
theorem ZsP {g:Nat} {c:Clk} {j:Int} (hS:Sat e w<|Zbv g c::R) (hk:K (Iw<|c.at' j) w):Cl prog 274 #[pt g,Iw j] w K:=by
 obtain ⟨b,m,hm,h1⟩:=Zbv.open hS;refine ZfS<|Zh<|Za<|Zb h1 0 rfl rfl<|ZsE ZXX ZXY h1 1 rfl j ?_;rw[hm.2 j];unfold Clk.at' at hk;by_cases ho:c.okJ j
 .rw[if_pos ho] at hk ⊢;exact Zid rfl<|Zid rfl<|Zi hk
 .rw[if_neg ho] at hk ⊢;exact Zid rfl<|Zid rfl<|Zf hk
theorem ZpD {g:Nat} {c:Clk} {j t:Int} (ht:ZmY t) (hS:Sat e w<|Zbv g c::R) (hk:∀w',Sat e w' (Zbv g (c.hear j t)::R)->K (Iw<|c.hearE j t) w'):Cl prog 273 #[pt g,Iw j,Iw t] w K:=by
 obtain ⟨b,m,hm,h1⟩:=Zbv.open hS;refine Zeg<|Zh<|Za<|Zb h1 0 rfl rfl<|ZsE ZXX ZXY h1 1 rfl j ?_;rw[hm.2 j];by_cases ho:c.okJ j
 .rw[if_pos ho];refine Zid rfl<|Zid rfl<|ZaJ<|Zj<|Zj<|ZcO ht<|Zj ?_;cases hv:Yu t with
  | false=>
   rw[Clk.hear_bad<|Or.inr hv,Clk.hearE_bad<|Or.inr hv] at hk;exact Zch (Yd<|Zi<|hk _ hS)
  | true=>
   refine ZaJ<|Yd<|Zf<|Za7 (λc1=>?_)<|λc1=>?_
   .rw[Clk.hear_early ho hv c1,Clk.hearE_early ho hv c1] at hk;exact Zi<|hk _ hS
   .rw[Clk.hear_ok ho hv c1,Clk.hearE_ok ho hv c1] at hk;exact Zf<|Zh<|Za<|Zb h1 0 rfl rfl<|ZsG ZXX ZXY hm.1 h1.swap j t (vf:=kI) rfl λw3 h3=>hk _<|Zbv.close (c:=⟨c.L.set j.toNat t,c.self,c.told⟩) (hm.step ho c.told) h3.swap
 .rw[if_neg ho];rw[Clk.hear_bad<|Or.inl ho,Clk.hearE_bad<|Or.inl ho] at hk;exact Zid rfl<|Zid rfl<|Zch<|Zd<|Zd<|Zd<|Yv<|Zi<|hk _ hS
theorem ZmM {b:Nat} {a t:Int} (hS:Sat e w<|blk b 3 [Iw a]::R) (hk:∀w',Sat e w' (blk b 3 [Iw<|min a t]::R)->K (.tuple #[]) w'):Cl prog 282 #[Iw t,pt b] w K:=by
 refine Zda<|Zb hS 0 rfl rfl<|Zty<|Zq hS 0 rfl (vs:=[Iw<|min a t]) rfl rfl (by simp) (by simp[flat]) (cs':=[Iw<|min a t]) (by rfl) λw' h'=>?_;exact hk _ h'
theorem Zjs {g:Nat} {c:Clk} (hS:Sat e w<|Zbv g c::R) (hk:∀w',Sat e w' (Zbv g c::R)->K (Iw c.bound) w'):Cl prog 240 #[pt g] w K:=by
 obtain ⟨b,m,hm,h1⟩:=Zbv.open hS;refine ZdW ?_;unfold Zdp;rw[Zr6];refine Yp (cs:=[Iw 0]) h1 rfl λx w2 h2=>Zq h2 0 rfl (vs:=[Iw Inf]) rfl rfl (by simp) (by simp[flat]) (cs':=[Iw Inf]) (by rfl) λw3 h3=>?_;refine Zh<|Za<|Zb h3 1 rfl rfl<|ZB0 Z0e (h3.pick 2 rfl) λr w4 h4=>?_;refine ZG9 (λn w=>∃(a:Int) (rem:List<|Int × Int) (cur:Option<|Int × Int),Sat e w (ZwS kI kI b r m rem cur::blk x 3 [Iw a]::blk g 213 [.map<|some b,Iw c.told]::R)/\
  a<=Inf/\(∀p∈m,p∈rem\/a<=p.2)/\(∀p∈rem,p∈m)/\(a=Inf\/∃p∈m,a=p.2)/\n=rem.length) m.length ⟨Inf,m,none,h4,Int.le_refl _,λp hp=>.inl hp,λp hp=>hp,.inl rfl,rfl⟩ ?_
 rintro n w g1 ⟨a,rem,cur,h5,i1,i2,i3,i4,rfl⟩ hg;refine ZBW h5 (λhr w6 h6=>?_)<|λi p w6 hp h6=>?_
 .refine Zid rfl<|Zf<|Zb h6 1 rfl rfl ?_;have hb:a=c.bound:=by
   refine Clk.IsBound.uniq ⟨i1,λj hj=>?_,?_⟩ c.bound_is
   .rcases i2 (j,c.get j) (hm.mem.2 ⟨hj,rfl⟩) with h | h
    .rw[hr] at h;cases h
    .exact h
   .rcases i4 with h | ⟨p,hp,h⟩
    .exact .inl h
    .have:=hm.mem.1 hp;exact .inr ⟨p.1,this.1,h.trans this.2⟩
  subst hb;refine hk _<|Zbv.close (b:=b) hm ?_;have h7:=h6.imp Zsr;exact h7.sn 3 [2,0]
 .refine Zid rfl<|Zi<|ZCg 0 h6 rfl<|Zid rfl<|⟨_,_,_,rfl,ZmM (h6.swap) λw7 h7=>?_⟩;have hil:=(List.getElem?_eq_some_iff.1 hp).1;have hpm:p∈rem:=List.mem_of_getElem? hp;refine hg _ _ ?_ ⟨min a p.2,rem.eraseIdx i,some p,h7.swap,by omega,λq hq=>?_,λq hq=>i3 q<|List.mem_of_mem_eraseIdx hq,?_,rfl⟩
  .rw[List.length_eraseIdx_of_lt hil];omega
  .rcases i2 q hq with h | h
   .rw[List.mem_eraseIdx_iff_getElem?];obtain ⟨k,hk',hqk⟩:=List.getElem_of_mem h;by_cases hki:k=i
    .subst hki;rw[List.getElem?_eq_getElem hk',hqk] at hp;cases hp;exact .inr (by omega)
    .exact .inl ⟨k,hki,by rw[List.getElem?_eq_getElem hk',hqk]⟩
   .exact .inr (by omega)
  .by_cases hm2:a<=p.2
   .rw[Int.min_eq_left hm2];exact i4
   .rw[Int.min_eq_right (by omega)];exact .inr ⟨p,i3 p hpm,rfl⟩
theorem Zp8 {g:Nat} {c:Clk} {first look:Int} (hS:Sat e w<|Zbv g c::R) (hk:∀w',Sat e w' (Zbv g (c.tell first look)::R)->K (.tuple #[Iw (c.tell first look).told,.bool<|c.tellB first look]) w') :
  Cl prog 280 #[pt g,Iw first,Iw look] w K:=by
 refine Zem<|Zjs hS λw1 h1=>Zfk [Iw first,Iw c.bound] h1 (by rw[Zr6];kernel_rfl) λb w2 h2=>?_;refine Zeu (l:=[first,c.bound]) h2 (Zbx (size:=1) (f:=Ye .i64) [first,c.bound] rfl<|Nat.le_refl _) (by simp) λw3 h3=>?_;refine ZhT ?_;obtain ⟨m,x,hm,h4⟩:=Zbv.open h3.drop;refine Zh<|Za<|Zb h4 0 rfl rfl<|ZFH (λc1=>?_)<|λc1=>?_
 .refine Zi<|Zh<|Za<|Zb h4 0 rfl rfl ?_;have h5:c.tell first look=c:=if_pos c1
  have h6:c.tellB first look=false:=decide_eq_false (show ¬c.told<c.tellT first look from by have:c.tellT first look<=c.told:=c1;omega)
  rw[h5,h6] at hk;exact hk _ h3.drop
 .have h5:c.tell first look=⟨c.L,c.self,c.tellT first look⟩:=if_neg c1
  have h6:c.tellB first look=true:=decide_eq_true (show c.told<c.tellT first look from by have:¬c.tellT first look<=c.told:=c1;omega)
  rw[h5,h6] at hk;refine Zf<|Zh<|Za<|Zq h4 0 rfl (vs:=[Iw<|c.tellT first look]) rfl rfl (by simp) (by simp[flat]) (cs':=[.map<|some m,Iw<|c.tellT first look]) (by rfl) λw5 h5=>?_;exact hk _<|Zbv.close (c:=⟨c.L,c.self,c.tellT first look⟩) (m:=x) ⟨hm.1,hm.2⟩ h5
end Go.Proofs.YtceipnkeijhebaaGreat
end
section
namespace Go.Proofs.YtceipnkeijhebaaGreat
open Go Go.E
set_option maxRecDepth 100000
variable {e w:World} {R:List HP} {K:KV}
theorem ZtS {t:Int} (h0:0<=t) (h1:t<=Zsq):ZaD t=t:=by unfold ZaD;rw[if_neg (by omega),if_neg (by omega)]
structure Zbs where
 (Kind A B:Int)
 deriving DecidableEq
def Zbs.ns (s:Zbs):List Int:=[s.Kind,s.A,s.B]
abbrev Zbs.cs (s:Zbs):List Value:=Yi s.ns
def Zbs.of (l:List Int):Zbs:=⟨l.getD 0 0,l.getD 1 0,l.getD 2 0⟩
theorem Zbs.of_ns {l:List Int} (h:l.length=3):(Zbs.of l).ns=l:=by
 match l,h with
 | [_,_,_],_=>rfl
theorem Zbs.of_cs {l:List Int} (h:l.length=3):(Zbs.of l).cs=Yi l:=congrArg Yi<|Zbs.of_ns h
end Go.Proofs.YtceipnkeijhebaaGreat
namespace Go.Proofs.YtceipnkeijhebaaGreat
open Go Go.E
set_option maxRecDepth 100000
variable {e w:World} {R:List HP} {K:KV}
def Clk.Good (c:Clk):Prop:=∀x∈c.L,0<=x/\x<=Inf
theorem ZlM {t:Int} (h:Yu t=true):0<=t/\t<=Inf:=by
 simp only[Yu,decide_eq_true_eq] at h;unfold Inf Zsq at*;omega
theorem Clk.Good.get {c:Clk} (h:c.Good) {j:Int} (hj:c.okJ j):0<=c.get j/\c.get j<=Inf:=by
 refine h _ ?_;have hl:j.toNat<c.L.length:=by have:=hj.1;have:=hj.2.1;omega
 unfold Clk.get;rw[List.getD_eq_getElem?_getD,List.getElem?_eq_getElem hl];exact List.getElem_mem hl
theorem Clk.hear_cases (c:Clk) (j t:Int):(c.hearE j t≠0/\c.hear j t=c)\/(c.okJ j/\Yu t=true/\¬t<c.get j/\c.hearE j t=0/\c.hear j t=⟨c.L.set j.toNat t,c.self,c.told⟩):=by
 by_cases h:¬c.okJ j\/Yu t=false
 .exact .inl ⟨by rw[Clk.hearE_bad h];decide,Clk.hear_bad h⟩
 .have ho:c.okJ j:=by by_cases k:c.okJ j;exact k;exact absurd (Or.inl k) h
  have hv:Yu t=true:=by cases k:Yu t;exact absurd (Or.inr k) h;rfl
  by_cases h1:t<c.get j
  .exact .inl ⟨by rw[Clk.hearE_early ho hv h1];decide,Clk.hear_early ho hv h1⟩
  .exact .inr ⟨ho,hv,h1,Clk.hearE_ok ho hv h1,Clk.hear_ok ho hv h1⟩
theorem Clk.Good.hear {c:Clk} (h:c.Good) (j t:Int):(c.hear j t).Good:=by
 rcases c.hear_cases j t with ⟨_,h1⟩ | ⟨_,hv,_,_,h1⟩
 .rw[h1];exact h
 .rw[h1];intro x hx;rcases List.mem_or_eq_of_mem_set hx with hx | rfl
  .exact h x hx
  .exact ZlM hv
theorem Clk.hear_len (c:Clk) (j t:Int):(c.hear j t).L.length=c.L.length:=by
 rcases c.hear_cases j t with ⟨_,h1⟩ | ⟨_,_,_,_,h1⟩ <;> simp[h1]
theorem Clk.hear_self (c:Clk) (j t:Int):(c.hear j t).self=c.self:=by
 rcases c.hear_cases j t with ⟨_,h1⟩ | ⟨_,_,_,_,h1⟩ <;> simp[h1]
theorem Clk.hear_told (c:Clk) (j t:Int):(c.hear j t).told=c.told:=by
 rcases c.hear_cases j t with ⟨_,h1⟩ | ⟨_,_,_,_,h1⟩ <;> simp[h1]
end Go.Proofs.YtceipnkeijhebaaGreat
end
section
namespace Go.Proofs.YtceipnkeijhebaaGreat
open Go Go.E
set_option maxRecDepth 100000
variable {e w:World} {R:List HP} {K:KV}
def kfK (k:Key):Value:=.agg k.cs.toArray
def vfN (n:Nat):Value:=Iw (n:Int)
theorem Zgm:ZvT prog 83 kfK:=
 Zr0 (κ:=Key) (ns:=Key.ns) (n:=6) Tryz.underlying83 ZYS ZYT (by decide) (λ_=>rfl) Key.eq_ns (λb k w=>by cases b <;> kernel_rfl)
structure Znp (m:List<|Key × Nat) (l:List Msg):Prop where
 u:Znz m
 ok:∀(k:Key) (i:Nat),lkA m k=some i↔∃x,l[i]?=some x/\x.key=k
theorem Znp.nil:Znp [] []:=⟨List.nodup_nil,λk i=>by simp[lkA]⟩
theorem Znp.inj {m:List<|Key × Nat} {l:List Msg} (h:Znp m l) {i j:Nat} {x y:Msg} (hx:l[i]?=some x) (hy:l[j]?=some y) (hk:x.key=y.key):i=j:=by
 have h1:=(h.ok x.key i).2 ⟨x,hx,rfl⟩;have h2:=(h.ok x.key j).2 ⟨y,hy,hk.symm⟩;rw[h1] at h2;injection h2
theorem Znp.has {m:List<|Key × Nat} {l:List Msg} (h:Znp m l) (k:Key):(lkA m k).isSome=true↔∃x∈l,x.key=k:=by
 constructor
 .intro hs;obtain ⟨i,hi⟩:=Option.isSome_iff_exists.1 hs;obtain ⟨x,hx,hk⟩:=(h.ok k i).1 hi;exact ⟨x,List.mem_of_getElem? hx,hk⟩
 .rintro ⟨x,hx,hk⟩;obtain ⟨i,hi⟩:=List.mem_iff_getElem?.1 hx;rw[(h.ok k i).2 ⟨x,hi,hk⟩];rfl
theorem Znp.push {m:List<|Key × Nat} {l:List Msg} (h:Znp m l) {x:Msg} (hx:∀y∈l,y.key≠x.key):Znp (upA m x.key l.length) (l++[x]):=by
 refine ⟨h.u.up _ _,λk i=>?_⟩;rw[ZiY h.u];by_cases hk:k=x.key
 .rw[if_pos hk];constructor
  .intro hi;injection hi with hi;subst hi;exact ⟨x,by simp,hk.symm⟩
  .rintro ⟨y,hy,hyk⟩;by_cases hil:i<l.length
   .rw[List.getElem?_append_left hil] at hy;exact absurd (hyk.trans hk)<|hx y<|List.mem_of_getElem? hy
   .have hle:=(List.getElem?_eq_some_iff.1 hy).1;rw[List.length_append] at hle;simp only[List.length_cons,List.length_nil] at hle;rw[show i=l.length by omega]
 .rw[if_neg hk,h.ok k i];constructor
  .rintro ⟨y,hy,hyk⟩;exact ⟨y,by rw[List.getElem?_append_left (List.getElem?_eq_some_iff.1 hy).1];exact hy,hyk⟩
  .rintro ⟨y,hy,hyk⟩;by_cases hil:i<l.length
   .rw[List.getElem?_append_left hil] at hy;exact ⟨y,hy,hyk⟩
   .have hle:=(List.getElem?_eq_some_iff.1 hy).1;rw[List.length_append] at hle;simp only[List.length_cons,List.length_nil] at hle;rw[show i=l.length by omega] at hy;have:y=x:=by simpa using hy.symm
    rw[this] at hyk;exact absurd hyk.symm hk
def ZeZ (l:List Msg) (i k:Nat) (x y:Msg):List Msg:=(l.set i y).set k x
theorem Zcx (l:List Msg) (i k:Nat) (x y:Msg):(ZeZ l i k x y).length=l.length:=by simp[ZeZ]
theorem ZaL {l:List Msg} {i k:Nat} {x y:Msg} (hx:l[i]?=some x) (hy:l[k]?=some y) (n:Nat):(ZeZ l i k x y)[n]?=if n=k then some x else if n=i then some y else l[n]?:=by
 have hi:=(List.getElem?_eq_some_iff.1 hx).1;have hk:=(List.getElem?_eq_some_iff.1 hy).1;unfold ZeZ;rw[List.getElem?_set];by_cases h:k=n
 .subst h;simp[hk]
 .have h':¬n=k:=λe=>h e.symm;rw[if_neg h,if_neg h',List.getElem?_set];by_cases h2:i=n
  .subst h2;simp[hi]
  .have h2':¬n=i:=λe=>h2 e.symm;rw[if_neg h2,if_neg h2']
theorem Znp.swap {m:List<|Key × Nat} {l:List Msg} (h:Znp m l) {i k:Nat} {x y:Msg} (hx:l[i]?=some x) (hy:l[k]?=some y):Znp (upA (upA m y.key i) x.key k) (ZeZ l i k x y):=by
 have u1:=h.u.up y.key i;refine ⟨u1.up _ _,λq n=>?_⟩;rw[ZiY u1,ZiY h.u,ZaL hx hy];by_cases h1:q=x.key
 .rw[if_pos h1];constructor
  .intro hn;injection hn with hn;subst hn;exact ⟨x,by rw[if_pos rfl],h1.symm⟩
  .rintro ⟨z,hz,hzk⟩;split at hz
   .rename_i e;rw[e]
   .split at hz
    .rename_i e1 e2;injection hz with hz;subst hz;have:=h.inj hx hy (by rw[hzk,h1]);omega
    .rename_i e1 e2;have:=h.inj hz hx (by rw[hzk,h1]);omega
 .rw[if_neg h1];by_cases h2:q=y.key
  .rw[if_pos h2];constructor
   .intro hn;injection hn with hn;subst hn;refine ⟨y,?_,h2.symm⟩;by_cases hik:i=k
    .subst hik;rw[hx] at hy;injection hy with hy;subst hy;exact absurd h2 h1
    .rw[if_neg hik,if_pos rfl]
   .rintro ⟨z,hz,hzk⟩;split at hz
    .injection hz with hz;subst hz;exact absurd hzk.symm h1
    .split at hz
     .rename_i e1 e2;rw[e2]
     .rename_i e1 e2;have:=h.inj hz hy (by rw[hzk,h2]);omega
  .rw[if_neg h2,h.ok q n];constructor
   .rintro ⟨z,hz,hzk⟩;refine ⟨z,?_,hzk⟩;have n1:n≠k:=λe=>by subst e;rw[hy] at hz;injection hz with hz;subst hz;exact h2 hzk.symm
    have n2:n≠i:=λe=>by subst e;rw[hx] at hz;injection hz with hz;subst hz;exact h1 hzk.symm
    rw[if_neg n1,if_neg n2];exact hz
   .rintro ⟨z,hz,hzk⟩;split at hz
    .injection hz with hz;subst hz;exact absurd hzk.symm h1
    .split at hz
     .injection hz with hz;subst hz;exact absurd hzk.symm h2
     .exact ⟨z,hz,hzk⟩
theorem ZcT {l:List Msg} {i k:Nat} {x y:Msg} (hx:l[i]?=some x) (hy:l[k]?=some y):(ZeZ l i k x y).Perm l:=by
 have hi:=(List.getElem?_eq_some_iff.1 hx);have hk:=(List.getElem?_eq_some_iff.1 hy);by_cases hik:i=k
 .subst hik;rw[hx] at hy;injection hy with hy;subst hy;have:ZeZ l i i x x=l:=by
   apply List.ext_getElem?;intro n;rw[ZaL hx hx];split
   .rename_i e;subst e;exact hx.symm
   .rfl
  rw[this]
 .unfold ZeZ;have h1:=List.set_set_perm hi.1 hk.1;rw[hi.2,hk.2] at h1;exact h1
structure PX where
 (v:Value) (b:Nat) (m:List<|Key × Nat)
def Yc (q:Nat) (room:Int) (l:List Msg):HP:=hex λx:PX=>Yh [pur<|Znp x.m l,blk q 216 [Iw room,x.v,.map<|some x.b],Zz 85 6 Msg.cs x.v l,Zaj kfK vfN x.b x.m]
theorem Zcq {q:Nat} {room:Int} {l:List Msg} (h:Sat e w<|Yc q room l::R):∃v b m,Znp m l/\Sat e w (blk q 216 [Iw room,v,.map<|some b]::Zz 85 6 Msg.cs v l::Zaj kfK vfN b m::R):=by
 obtain ⟨x,h0⟩:=h.ex;exact ⟨x.v,x.b,x.m,Sat.pure h0.split⟩
theorem ZbP {q:Nat} {room:Int} {l:List Msg} {v:Value} {b:Nat} {m:List<|Key × Nat} (ha:Znp m l) (h:Sat e w<|blk q 216 [Iw room,v,.map<|some b]::Zz 85 6 Msg.cs v l::Zaj kfK vfN b m::R):Sat e w (Yc q room l::R):=
 .mk_ex ⟨v,b,m⟩ (.join (l':=[_,_,_,_]) (.mk_pure ha h))
theorem Zts {n:Int} (hS:Sat e w R) (hk:∀q w',Sat e w' (Yc q (max 0<|min n 64) []::R)->K (pt q) w'):Cl prog 73 #[Iw n] w K:=by
 refine Zm2 ?_;unfold Zso;refine Zty<|ZwQ<|Zfx kfK vfN hS λb w1 h1=>?_;rw[Z1m];refine Zaf [Iw<|max 0<|min n 64,Sn,.map<|some b] (by kernel_rfl) ?_;refine Yp (cs:=[Iw<|max 0<|min n 64,Sn,.map<|some b]) h1 rfl λq w2 h2=>hk _ _<|ZbP (v:=Sn) Znp.nil<|(h2.own_nil 85 6 Msg.cs).sn 3 [1,0,2]
theorem Zs4 {q:Nat} {room:Int} {l:List Msg} (hS:Sat e w<|Yc q room l::R) (hk:K (Iw (l.length:Int)) w):Cl prog 307 #[pt q] w K:=by
 obtain ⟨v,b,m,ha,h1⟩:=Zcq hS;exact ZgE<|Zh<|Za<|Zb h1 0 rfl (v:=v) rfl<|Qln h1 1 rfl hk
abbrev rcv (q:Nat):Value:=.agg #[pt q]
theorem Zh2 {q:Nat} {room:Int} {l:List Msg} (hS:Sat e w<|Yc q room l::R) (hk:∀w',Sat e w' (Yc q room l::R)->K (Iw (l.length:Int)) w'):clI prog (.iface 343<|rcv q) "Len" #[] w K:=by
 refine Zrj (f:=334) (rcv:=rcv q) (by kernel_rfl) ?_;refine ZgG (t0:=rcv q) ?_;unfold Zg1;obtain ⟨v,b,m,ha,h1⟩:=Zcq hS;exact Yp (cs:=[pt q]) h1 rfl λc w2 h2=>Za<|Zb h2 0 rfl (v:=pt q) rfl<|Zh<|Za<|Zb h2 1 rfl (v:=v) rfl<|Qln h2 2 rfl<|hk _<|ZbP ha h2.drop
theorem ZbS {q i k:Nat} {room:Int} {l:List Msg} {x y:Msg} (hx:l[i]?=some x) (hy:l[k]?=some y) (hS:Sat e w<|Yc q room l::R) (hk:∀w',Sat e w' (Yc q room l::R)->K (.bool<|decide<|ZeU x.key y.key<0) w') :
  clI prog (.iface 343<|rcv q) "Less" #[Iw (i:Int),Iw (k:Int)] w K:=by
 refine Zrj (f:=335) (rcv:=rcv q) (by kernel_rfl) ?_;refine Zf4 (t0:=rcv q) (t1:=Iw (i:Int)) (t2:=Iw (k:Int)) ?_;unfold Zfg;obtain ⟨v,b,m,ha,h1⟩:=Zcq hS;refine Yp (cs:=[pt q]) h1 rfl λc w2 h2=>ZaY h2 λw3 h3=>Za<|Zb h3 0 rfl (v:=pt q) rfl<|Zh<|Za<|Zb h3 1 rfl (v:=v) rfl<|Qix h3 2 rfl hx λp hp=>Zbd hp λp1 hp1=>Zn0 (us:=x.key.cs) h3 2 rfl hp1 (by rfl) rfl ?_;refine Za<|Zb h3 0 rfl (v:=pt q) rfl<|Zh<|Za<|Zb h3 1 rfl (v:=v) rfl<|Qix h3 2 rfl hy λp hp=>Zbd hp λp1 hp1=>Zn0 (us:=y.key.cs) h3 2 rfl hp1 (by rfl) rfl ?_;exact Zcr h3 λw4 h4=>ZwL<|hk _<|ZbP ha h4.drop
theorem ZbT {q i k:Nat} {room:Int} {l:List Msg} {x y:Msg} (hx:l[i]?=some x) (hy:l[k]?=some y) (hS:Sat e w<|Yc q room l::R) (hk:∀w',Sat e w' (Yc q room (ZeZ l i k x y)::R)->K (.tuple #[]) w') :
  clI prog (.iface 343<|rcv q) "Swap" #[Iw (i:Int),Iw (k:Int)] w K:=by
 refine Zrj (f:=338) (rcv:=rcv q) (by kernel_rfl) ?_;refine Zfd (t0:=rcv q) (t1:=Iw (i:Int)) (t2:=Iw (k:Int)) ?_;unfold Zf2;obtain ⟨v,b,m,ha,h1⟩:=Zcq hS;have hi:=(List.getElem?_eq_some_iff.1 hx).1;have hkl:=(List.getElem?_eq_some_iff.1 hy).1;refine Yp (cs:=[pt q]) h1 rfl λc w2 h2=>ZaY h2 λw3 h3=>Za (Zb h3 0 rfl (v:=pt q) rfl<|Zh<|Za<|Zb h3 1 rfl (v:=v) rfl<|Za<|Zb h3 0 rfl (v:=pt q) rfl<|Zh<|Za<|Zb h3 1 rfl (v:=v) rfl<|Za<|Zb h3 0 rfl (v:=pt q) rfl<|Zh<|Za<|Zb h3 1 rfl (v:=v) rfl<|Qix h3 2 rfl hy λp hp=>Ym h3 2 rfl hp rfl<|Za<|Zb h3 0 rfl (v:=pt q) rfl<|Zh<|Za<|Zb h3 1 rfl (v:=v) rfl<|Qix h3 2 rfl hx λp hp=>Ym h3 2 rfl hp rfl<|ZdJ h3 2 rfl (λ_=>rfl) hi (x:=y) rfl (Zg _) λw4 h4=>ZdJ h4 2 rfl (λ_=>rfl) (by rw[List.length_set];exact hkl) (x:=x) rfl (Zg _) λw5 h5=>?_)
 replace h5:Sat e w5 (blk c 343 [pt q]::blk q 216 [Iw room,v,.map<|some b]::Zz 85 6 Msg.cs v (ZeZ l i k x y)::Zaj kfK vfN b m::R):=h5
 have hgi:(ZeZ l i k x y)[i]?=some y:=by
  rw[ZaL hx hy];by_cases hik:i=k
  .subst hik;rw[if_pos rfl];rw[hx] at hy;exact hy
  .rw[if_neg hik,if_pos rfl]
 have hgk:(ZeZ l i k x y)[k]?=some x:=by rw[ZaL hx hy,if_pos rfl]
 refine ZaY h5 λw6 h6=>Za<|Zb h6 0 rfl (v:=pt q) rfl<|Zh<|Za<|Zb h6 1 rfl (v:=.map<|some b) rfl<|Za<|Zb h6 0 rfl (v:=pt q) rfl<|Zh<|Za<|Zb h6 1 rfl (v:=v) rfl<|Qix h6 2 rfl hgi λp hp=>Zbd hp λp1 hp1=>Zn0 (us:=y.key.cs) h6 2 rfl hp1 (by rfl) rfl ?_;refine Za<|Zb h6 0 rfl (v:=pt q) rfl<|Zh<|Za<|Zb h6 1 rfl (v:=.map<|some b) rfl<|Za<|Zb h6 0 rfl (v:=pt q) rfl<|Zh<|Za<|Zb h6 1 rfl (v:=v) rfl<|Qix h6 2 rfl hgk λp hp=>Zbd hp λp1 hp1=>Zn0 (us:=x.key.cs) h6 2 rfl hp1 (by rfl) rfl ?_;have hy1:(lkA m y.key).isSome=true:=(ha.has y.key).2 ⟨y,List.mem_of_getElem? hy,rfl⟩;have hx1:(lkA (upA m y.key i) x.key).isSome=true:=by
  rw[ZiY ha.u];split
  .rfl
  .exact (ha.has x.key).2 ⟨x,List.mem_of_getElem? hx,rfl⟩
 exact ZE9 Zgm ZYl ha.u (h6.pick 3 rfl) y.key i rfl hy1 λw7 h7=>ZE9 Zgm ZYl (ha.u.up _ _) h7 x.key k rfl hx1 λw8 h8=>hk _<|ZbP (ha.swap hx hy)<|h8.sn 4 [2,3,0]
theorem ZpF {q:Nat} {room:Int} {l:List Msg} {x:Msg} (hx:∀y∈l,y.key≠x.key) (hl:l.length<=1000) (hS:Sat e w<|Yc q room l::R) (hk:∀w',Sat e w' (Yc q room (l++[x])::R)->K (.tuple #[]) w') :
  clI prog (.iface 343<|rcv q) "Push" #[.iface 85 (.agg x.cs.toArray)] w K:=by
 refine Zrj (f:=337) (rcv:=rcv q) (by kernel_rfl) ?_;refine Zff (t0:=rcv q) (t1:=.iface 85 (.agg x.cs.toArray)) ?_;unfold Zf0;obtain ⟨v,b,m,ha,h1⟩:=Zcq hS;refine Yp (cs:=[pt q]) h1 rfl λc w2 h2=>ZvQ (by kernel_rfl) ?_;rw[ZOc];refine Yp (cs:=Yi [0,0,0,0,0,0]) h2 rfl λd w3 h3=>Zq h3 0 rfl (vs:=x.cs) rfl rfl (Nat.le_of_ble_eq_true rfl) (Zg _) (cs':=x.cs) (by kernel_rfl) λw4 h4=>?_;refine ZaY h4 λw5 h5=>Za<|Zb h5 1 rfl (v:=pt q) rfl<|Zh<|Za<|Zb h5 2 rfl (v:=.map<|some b) rfl<|Za<|Zo h5 0 (vs:=x.key.cs) rfl (by rfl) rfl ?_;refine Za (Zb h5 1 rfl (v:=pt q) rfl<|Zh<|Za<|Zb h5 2 rfl (v:=v) rfl<|Qln h5 3 rfl<|ZsG Zgm ZYl ha.u (h5.pick 4 rfl) x.key l.length rfl λw6 h6=>?_)
 replace h6:Sat e w6 (Zz 85 6 Msg.cs v l::blk d 85 x.cs::blk c 343 [pt q]::blk q 216 [Iw room,v,.map<|some b]::Zaj kfK vfN b (upA m x.key l.length)::R):=
  h6.sn 5 [4,1,2,3,0]
 refine ZaY h6 λw7 h7=>Za<|Zb h7 2 rfl (v:=pt q) rfl<|Za<|Zb h7 2 rfl (v:=pt q) rfl<|Zh<|Za<|Zb h7 3 rfl (v:=v) rfl<|Zo h7 1 (vs:=x.cs) rfl (by rfl) rfl ?_;refine ZwC (vs:=x.cs) rfl rfl h7 λb30 w8 h8=>⟨Zb h8 4 rfl rfl ⟨rfl,rfl⟩,Zb h8 3 rfl rfl ⟨rfl,rfl⟩,Zb h8 3 rfl rfl ⟨rfl,rfl⟩,Zeo ZYs ZYP (f:=Msg.cs) (λ_=>rfl) (λ_=>Zg _) h8.swap (m:=[x]) (Zfu (f:=Msg.cs) (x:=x)<|Nat.le_refl _) (by simp;omega) λv' w9 h9=>?_⟩;exact ⟨Zb h9 3 rfl rfl ⟨rfl,rfl⟩,Zh<|Za<|Zpm h9 4 rfl (h9.own_cells 0 rfl) (Nat.le_of_ble_eq_true rfl) rfl λw10 h10=>hk _<|ZbP (ha.push hx)<|h10.sn 6 [4,0,5]⟩
end Go.Proofs.YtceipnkeijhebaaGreat
end
section
namespace Go.Proofs.YtceipnkeijhebaaGreat
open Go Go.E
set_option maxRecDepth 100000
variable {e w:World} {R:List HP} {K:KV}
theorem ZCv {k:IntKind} {a b:Int} (hb:b≠0) (h:K (.int k<|k.wrap<|a.tdiv b) w):bi .quo k (.int k a) (.int k b) w K:=⟨a,b,rfl,rfl,λ_=>hb,h⟩
theorem ZbN {a b c:Key} (h:¬Zv a b) (k:¬Zv b c):¬Zv a c:=by
 intro hac;rcases Zv.tri a b with h1 | h1 | h1
 .exact h h1
 .subst h1;exact k hac
 .exact k<|h1.trans hac
def Zb0 (l:List Msg) (n:Nat):Prop:=∀(i:Nat) (x y:Msg),0<i->i<n->l[i]?=some x->l[(i - 1) / 2]?=some y->¬Zv x.key y.key
def Zp9 (l:List Msg) (j:Nat):Prop:=
 (∀(i:Nat) (x y:Msg),0<i->i≠j->l[i]?=some x->l[(i - 1) / 2]?=some y->¬Zv x.key y.key)/\
 ∀(i:Nat) (x y:Msg),0<i->0<j->(i - 1) / 2=j->l[i]?=some x->l[(j - 1) / 2]?=some y->¬Zv x.key y.key
def Zc5 (l:List Msg) (j n:Nat):Prop:=
 (∀(i:Nat) (x y:Msg),0<i->i<n->(i - 1) / 2≠j->l[i]?=some x->l[(i - 1) / 2]?=some y->¬Zv x.key y.key)/\
 ∀(i:Nat) (x y:Msg),0<i->i<n->0<j->(i - 1) / 2=j->l[i]?=some x->l[(j - 1) / 2]?=some y->¬Zv x.key y.key
theorem Zb0.min {l:List Msg} {n:Nat} (h:Zb0 l n) (hn:n<=l.length) {z:Msg} (hz:l[0]?=some z):∀(i:Nat) (x:Msg),i<n->l[i]?=some x->¬Zv x.key z.key:=by
 intro i;induction i using Nat.strongRecOn with
 | _ i ih=>
  intro x hi hx;by_cases h0:i=0
  .subst h0;rw[hz] at hx;injection hx with hx;subst hx;exact Zv.irrefl _
  .obtain ⟨y,hy⟩:=Zk (l:=l) (j:=(i - 1) / 2) (by omega);exact ZbN (h i x y (by omega) hi hx hy)<|ih _ (by omega) y (by omega) hy
theorem Zp9.done {l:List Msg} {j:Nat} (h:Zp9 l j) (hj:j=0\/∃x y,l[j]?=some x/\l[(j - 1) / 2]?=some y/\¬Zv x.key y.key):Zb0 l l.length:=by
 intro i x y hi _ hx hy;by_cases hij:i=j
 .subst hij;rcases hj with hj | ⟨x',y',hx',hy',hn⟩
  .omega
  .rw[hx] at hx';rw[hy] at hy';injection hx' with hx';injection hy' with hy';subst hx' hy';exact hn
 .exact h.1 i x y hi hij hx hy
theorem Zp9.step {l:List Msg} {j:Nat} {x y:Msg} (h:Zp9 l j) (hj:0<j) (hx:l[j]?=some x) (hy:l[(j - 1) / 2]?=some y) (hlt:Zv x.key y.key):Zp9 (ZeZ l ((j - 1) / 2) j y x) ((j - 1) / 2):=by
 obtain ⟨h1,h2⟩:=h;have hg:=ZaL (i:=(j - 1) / 2) (k:=j) hy hx;constructor
 .intro i a b hi hij ha hb;rw[hg] at ha hb;by_cases e1:i=j
  .subst e1;rw[if_pos rfl] at ha;rw[if_neg (by omega),if_pos rfl] at hb;injection ha with ha;injection hb with hb;subst ha hb;exact hlt.asymm
  .rw[if_neg e1,if_neg hij] at ha;by_cases e2:(i - 1) / 2=j
   .rw[if_pos e2] at hb;injection hb with hb;subst hb;exact h2 i a y hi hj e2 ha hy
   .rw[if_neg e2] at hb;by_cases e3:(i - 1) / 2=(j - 1) / 2
    .rw[if_pos e3] at hb;injection hb with hb;subst hb;have:=h1 i a y hi e1 ha (by rw[e3];exact hy);intro hax;exact this<|hax.trans hlt
    .rw[if_neg e3] at hb;exact h1 i a b hi e1 ha hb
 .intro i a b hi hp hpar ha hb;rw[hg] at ha hb;rw[if_neg (by omega),if_neg (by omega)] at hb;have hyb:=h1 ((j - 1) / 2) y b hp (by omega) hy hb;by_cases e1:i=j
  .rw[if_pos e1] at ha;injection ha with ha;subst ha;exact hyb
  .rw[if_neg e1,if_neg (by omega)] at ha;have:=h1 i a y hi e1 ha (by rw[hpar];exact hy);exact ZbN this hyb
theorem ZH4 {q j0:Nat} {room:Int} {l:List Msg} (hj:j0<l.length) (hl:l.length<=1001) (hS:Sat e w<|Yc q room l::R) (hk:∀l' w',l'.Perm l->(Zp9 l j0->Zb0 l' l'.length)->Sat e w' (Yc q room l'::R)->K (.tuple #[]) w') :
  Cl prog 285 #[.iface 343<|rcv q,Iw (j0:Int)] w K:=by
 refine ZiM ?_;refine Zdk (λz t1 w=>∃(j:Nat) (l':List Msg),t1=Iw (j:Int)/\z=j/\j<l'.length/\l'.Perm l/\(Zp9 l j0->Zp9 l' j)/\Sat e w (Yc q room l'::R)) j0
  ⟨j0,l,rfl,rfl,hj,.refl _,id,hS⟩ ?_
 rintro j _ w g ⟨j',l',rfl,rfl,hjl,hp,hinv,h1⟩ hg;have hlen:=hp.length_eq;refine Qsubs<|ZCv (by decide) ?_;by_cases h0:j=0
 .subst h0;refine Znq rfl<|Zd<|Zd<|Zd<|Zd<|Zd<|Yv<|Zi<|hk _ _ hp (λhu=>(hinv hu).done (.inl rfl)) h1
 .have e1:IntKind.i64.wrap (((j:Int) - 1).tdiv 2)=(((j - 1) / 2:Nat):Int):=by
   rw[Int.tdiv_eq_ediv_of_nonneg (by omega),Zdl (by omega) (by omega)];omega
  rw[e1];obtain ⟨x,hx⟩:=Zk hjl;obtain ⟨y,hy⟩:=Zk (l:=l') (j:=(j - 1) / 2) (by omega);refine Qeqf<|Zj<|Zj<|Zj<|Zj<|ZbS hx hy h1 λw2 h2=>?_;by_cases hlt:ZeU x.key y.key<0
  .rw[decide_eq_true hlt];refine Zj<|ZaJ<|Yd<|Zf<|ZbT hy hx h2 λw3 h3=>hg _ _ _ (by omega) ⟨(j - 1) / 2,_,rfl,rfl,by rw[Zcx];omega,(ZcT hy hx).trans hp,λhu=>(hinv hu).step (by omega) hx hy<|Zav.1 hlt,h3⟩
  .rw[decide_eq_false hlt];refine Zj<|Zch<|Yd<|Zi<|hk _ _ hp (λhu=>(hinv hu).done (.inr ⟨x,y,hx,hy,λh=>hlt<|Zav.2 h⟩)) h2
theorem Zc5.done {l:List Msg} {j n:Nat} (h:Zc5 l j n) (hj:∀(i:Nat) (x y:Msg),0<i->i<n->(i - 1) / 2=j->l[i]?=some x->l[j]?=some y->¬Zv x.key y.key):Zb0 l n:=by
 intro i x y hi hn hx hy;by_cases hij:(i - 1) / 2=j
 .exact hj i x y hi hn hij hx (by rw[<-hij];exact hy)
 .exact h.1 i x y hi hn hij hx hy
theorem Zc5.step {l:List Msg} {j c n:Nat} {x y:Msg} (h:Zc5 l j n) (hc0:0<c) (hcn:c<n) (hcj:(c - 1) / 2=j) (hx:l[j]?=some x) (hy:l[c]?=some y) (hlt:Zv y.key x.key)
  (hmin:∀(i:Nat) (a:Msg),0<i->i<n->(i - 1) / 2=j->l[i]?=some a->¬Zv a.key y.key):Zc5 (ZeZ l j c x y) c n:=by
 obtain ⟨h1,h2⟩:=h;have hg:=ZaL (i:=j) (k:=c) hx hy;constructor
 .intro i a b hi hn hij ha hb;rw[hg] at ha hb;rw[if_neg hij] at hb;by_cases e1:i=c
  .subst e1;rw[if_pos rfl] at ha;rw[if_pos hcj] at hb;injection ha with ha;injection hb with hb;subst ha hb;exact hlt.asymm
  .rw[if_neg e1] at ha;by_cases e2:(i - 1) / 2=j
   .rw[if_pos e2] at hb;rw[if_neg (by omega)] at ha;injection hb with hb;subst hb;exact hmin i a hi hn e2 ha
   .rw[if_neg e2] at hb;by_cases e3:i=j
    .rw[if_pos e3] at ha;injection ha with ha;subst ha;subst e3;exact h2 c y b hc0 hcn hi hcj hy hb
    .rw[if_neg e3] at ha;exact h1 i a b hi hn e2 ha hb
 .intro i a b hi hn hc hpar ha hb;rw[hg] at ha hb;rw[if_neg (by omega),if_neg (by omega)] at ha;rw[if_neg (by omega),if_pos hcj] at hb;injection hb with hb;subst hb;exact h1 i a y hi hn (by omega) ha (by rw[hpar];exact hy)
theorem ZC2 {q i0 n:Nat} {room:Int} {l:List Msg} (hn:n<=l.length) (hi0:i0<=n) (hl:l.length<=1001) (hS:Sat e w<|Yc q room l::R)
  (hk:∀l' b w',l'.Perm l->(∀i,n<=i->l'[i]?=l[i]?)->(Zc5 l i0 n->Zb0 l' n)->Sat e w' (Yc q room l'::R)->K (.bool b) w') :
  Cl prog 286 #[.iface 343<|rcv q,Iw (i0:Int),Iw (n:Int)] w K:=by
 refine Zf3 ?_;unfold Zmo;refine J1.cut (λt7 w=>∃(i:Nat) (l':List Msg),t7=Iw (i:Int)/\l'.Perm l/\(∀i,n<=i->l'[i]?=l[i]?)/\(Zc5 l i0 n->Zb0 l' n)/\Sat e w (Yc q room l'::R)) (λk1 hcut=>?_) ?_
 .refine Zdk (λz t7 w=>∃(j:Nat) (l':List Msg),t7=Iw (j:Int)/\z=n - j/\j<=n/\l'.Perm l/\(∀i,n<=i->l'[i]?=l[i]?)/\(Zc5 l i0 n->Zc5 l' j n)/\Sat e w (Yc q room l'::R)) (n - i0)
   ⟨i0,l,rfl,rfl,hi0,.refl _,λ_ _=>rfl,id,hS⟩ ?_
  rintro z _ w g ⟨j,l',rfl,rfl,hjn,hp,htail,hinv,h1⟩ hg;have hlen:=hp.length_eq;refine Zp5 (a:=2) (by omega)<|Zb9 (b:=1) (by omega) ?_;refine Zu5 (λc1=>?_)<|λc1=>?_
  .refine Zd<|Zd<|Yv<|Zi<|hcut _ _ ⟨j,l',rfl,hp,htail,λhd=>(hinv hd).done λi x y hi hin hpar _ _=>?_,h1⟩;omega
  .refine Zj<|Zj<|Qltf<|Yd<|Zf<|Zb9 (b:=1) (by omega) ?_;obtain ⟨x,hx⟩:=Zk (l:=l') (j:=j) (by omega);obtain ⟨y1,hy1⟩:=Zk (l:=l') (j:=2*j+1) (by omega);have hrest:∀(c:Nat) (y:Msg) w',(c=2*j+1\/c=2*j+1+1)->c<n->l'[c]?=some y->(∀(i:Nat) (a:Msg),0<i->i<n->(i - 1) / 2=j->l'[i]?=some a->¬Zv a.key y.key)->Sat e w' (Yc q room l'::R)->
     clI prog (.iface 343<|rcv q) "Less" #[Iw (c:Int),Iw (j:Int)] w' λt38 w=>Zb3 t38 w λt39 w=>Zr t39 (k1 (Iw (j:Int)) w)
      (clI prog (.iface 343<|rcv q) "Swap" #[Iw (j:Int),Iw (c:Int)] w λ_ w=>g [Iw (c:Int)] w):=by
    intro c y w' hc hcn hy hmin h2;refine ZbS hy hx h2 λw3 h3=>?_;by_cases hlt:ZeU y.key x.key<0
    .rw[decide_eq_true hlt];refine ZaJ<|Zf<|ZbT hx hy h3 λw4 h4=>hg _ _ _ (by omega) ⟨c,_,rfl,rfl,by omega,(ZcT hx hy).trans hp,λi hi=>?_,λhd=>(hinv hd).step (by omega) hcn (by omega) hx hy (Zav.1 hlt) hmin,h4⟩;rw[ZaL hx hy,if_neg (by omega),if_neg (by omega)];exact htail i hi
    .rw[decide_eq_false hlt];refine Zch<|Zi<|hcut _ _ ⟨j,l',rfl,hp,htail,λhd=>(hinv hd).done λi a b hi hin hpar ha hb=>?_,h3⟩;rw[hx] at hb;injection hb with hb;subst hb;exact ZbN (hmin i a hi hin hpar ha)<|λh=>hlt<|Zav.2 h
   refine Za7 (λc2=>?_)<|λc2=>?_
   .obtain ⟨y2,hy2⟩:=Zk (l:=l') (j:=2*j+1+1) (by omega);refine Ze<|Ze<|Ze<|Ze<|ZbS hy2 hy1 h1 λw2 h2=>?_;by_cases hlt:ZeU y2.key y1.key<0
    .rw[decide_eq_true hlt];refine Yv<|Zi<|hrest (2*j+1+1) y2 _ (.inr rfl) (by omega) hy2 (λi a hi hin hpar ha=>?_) h2;have:i=2*j+1\/i=2*j+1+1:=by omega
     rcases this with rfl | rfl
     .rw[hy1] at ha;injection ha with ha;subst ha;exact (Zav.1 hlt).asymm
     .rw[hy2] at ha;injection ha with ha;subst ha;exact Zv.irrefl _
    .rw[decide_eq_false hlt];refine Yv<|Zf<|hrest (2*j+1) y1 _ (.inl rfl) (by omega) hy1 (λi a hi hin hpar ha=>?_) h2;have:i=2*j+1\/i=2*j+1+1:=by omega
     rcases this with rfl | rfl
     .rw[hy1] at ha;injection ha with ha;subst ha;exact Zv.irrefl _
     .rw[hy2] at ha;injection ha with ha;subst ha;exact λh=>hlt<|Zav.2 h
   .refine Zu<|Zu<|Zu<|Zu<|Yd<|Zf<|hrest (2*j+1) y1 _ (.inl rfl) (by omega) hy1 (λi a hi hin hpar ha=>?_) h1;have:i=2*j+1:=by omega
    subst this;rw[hy1] at ha;injection ha with ha;subst ha;exact Zv.irrefl _
 .rintro _ w ⟨i,l',rfl,hp,htail,hd,h2⟩;exact ZFJ<|hk _ _ _ hp htail hd h2
theorem ZsK {q:Nat} {room:Int} {l:List Msg} {x:Msg} (hx:∀y∈l,y.key≠x.key) (hl:l.length<=1000) (hS:Sat e w<|Yc q room l::R)
  (hk:∀l' w',l'.Perm (l++[x])->(Zb0 l l.length->Zb0 l' l'.length)->Sat e w' (Yc q room l'::R)->K (.tuple #[]) w') :
  Cl prog 281 #[.iface 343<|rcv q,.iface 85 (.agg x.cs.toArray)] w K:=by
 refine Zme<|ZpF hx hl hS λw2 h2=>Zh2 h2 λw3 h3=>?_;have hlen:(l++[x]).length=l.length+1:=by simp
 refine ZjR (by omega) (by omega) ?_;refine ZH4 (by omega) (by omega) h3 λl' w4 hp hu h4=>hk _ _ hp (λhh=>hu ⟨λi a b hi hij ha hb=>?_,λi a b hi hj hpar ha hb=>?_⟩) h4
 .have hil:=(List.getElem?_eq_some_iff.1 ha).1;rw[List.getElem?_append_left (by omega)] at ha hb;exact hh i a b hi (by omega) ha hb
 .have hil:=(List.getElem?_eq_some_iff.1 ha).1;omega
def ZdT (room:Int) (l:List Msg) (x:Msg):Int:=if (l.any λy=>decide<|y.key=x.key)=true then 3 else if room<=l.length then 2 else 0
theorem ZrG {q:Nat} {room:Int} {l:List Msg} {x:Msg} (hl:l.length<=1000) (hS:Sat e w<|Yc q room l::R)
  (hbad:ZdT room l x≠0->∀w',Sat e w' (Yc q room l::R)->K (Iw<|ZdT room l x) w')
  (hok:ZdT room l x=0->(∀y∈l,y.key≠x.key)->l.length<room->∀l' w',l'.Perm (l++[x])->(Zb0 l l.length->Zb0 l' l'.length)->Sat e w' (Yc q room l'::R)->K (Iw 0) w') :
  Cl prog 275 #[pt q,.agg x.cs.toArray] w K:=by
 refine Zfb ?_;unfold Zfj;obtain ⟨v,b,m,ha,h1⟩:=Zcq hS;refine Yp (cs:=x.cs) h1 rfl λc w2 h2=>ZaY h2 λw3 h3=>Zh<|Za<|Zb h3 1 rfl (v:=.map<|some b) rfl<|Za<|Zo h3 0 (vs:=x.key.cs) rfl (by rfl) rfl ?_;refine ZsE Zgm ZYl h3 3 rfl x.key<|Zam<|Zal ?_;have hany:(lkA m x.key).isSome=l.any λy=>decide (y.key=x.key):=by
  rw[Bool.eq_iff_iff,ha.has,List.any_eq_true];constructor
  .rintro ⟨y,hy,hk⟩;exact ⟨y,hy,by simpa using hk⟩
  .rintro ⟨y,hy,hk⟩;exact ⟨y,hy,by simpa using hk⟩
 rw[hany];cases hh:l.any λy=>decide (y.key=x.key) with
 | true=>
  have e1:ZdT room l x=3:=if_pos hh;have:=hbad (by rw[e1];decide) w3<|ZbP ha h3.drop;rw[e1] at this;exact Zi this
 | false=>
  refine Zf<|ZaY h3 λw4 h4=>Zh<|Za<|Zb h4 1 rfl (v:=v) rfl<|Qln h4 2 rfl<|Zh<|Za<|Zb h4 1 rfl (v:=Iw room) rfl ?_;have hno:¬(l.any λy=>decide<|y.key=x.key)=true:=by rw[hh];decide
  refine Zu5 (λc1=>Zi ?_)<|λc1=>Zf ?_
  .have e1:ZdT room l x=2:=by unfold ZdT;rw[if_neg hno,if_pos c1]
   have:=hbad (by rw[e1];decide) w4<|ZbP ha h4.drop;rw[e1] at this;exact this
  .have e1:ZdT room l x=0:=by unfold ZdT;rw[if_neg hno,if_neg c1]
   rw[ZZq];refine Zaf [pt q] (by kernel_rfl) ?_;refine Zo h4 0 (vs:=x.cs) rfl (by rfl) rfl ?_;have hne:∀y∈l,y.key≠x.key:=λy hy hk=>by
    rw[List.any_eq_false] at hh;exact hh y hy (by simpa using hk)
   exact ZsK hne hl (ZbP ha h4.drop) λl' w5 hp hheap h5=>hok e1 hne (by omega) l' w5 hp hheap h5
end Go.Proofs.YtceipnkeijhebaaGreat
namespace Go.Proofs.YtceipnkeijhebaaGreat
open Go Go.E
set_option maxRecDepth 100000
variable {e w:World} {R:List HP} {K:KV}
theorem Znp.pop {m:List<|Key × Nat} {l:List Msg} {x:Msg} (h:Znp m<|l++[x]):Znp (dlA m x.key) l:=by
 have hxl:(l++[x])[l.length]?=some x:=by simp
 refine ⟨h.u.dl _,λk i=>?_⟩;rw[ZEP h.u];by_cases hk:k=x.key
 .rw[if_pos hk];constructor
  .intro hn;cases hn
  .rintro ⟨y,hy,hyk⟩;have hil:=(List.getElem?_eq_some_iff.1 hy).1;have:=h.inj (i:=i) (j:=l.length) (by rw[List.getElem?_append_left hil];exact hy) hxl (by rw[hyk,hk]);omega
 .rw[if_neg hk,h.ok k i];constructor
  .rintro ⟨y,hy,hyk⟩;by_cases hil:i<l.length
   .rw[List.getElem?_append_left hil] at hy;exact ⟨y,hy,hyk⟩
   .have hle:=(List.getElem?_eq_some_iff.1 hy).1;rw[List.length_append] at hle;simp only[List.length_cons,List.length_nil] at hle;rw[show i=l.length by omega,hxl] at hy;injection hy with hy;subst hy;exact absurd hyk.symm hk
  .rintro ⟨y,hy,hyk⟩;exact ⟨y,by rw[List.getElem?_append_left (List.getElem?_eq_some_iff.1 hy).1];exact hy,hyk⟩
theorem Zlm {q:Nat} {room:Int} {l:List Msg} {x:Msg} (hl:l.length<=1000) (hS:Sat e w<|Yc q room (l++[x])::R) (hk:∀w',Sat e w' (Yc q room l::R)->K (.iface 85 (.agg x.cs.toArray)) w') :
  clI prog (.iface 343<|rcv q) "Pop" #[] w K:=by
 refine Zrj (f:=336) (rcv:=rcv q) (by kernel_rfl) ?_;refine Zgo (t0:=rcv q) ?_;unfold Zhd;obtain ⟨v,b,m,ha,h1⟩:=Zcq hS;have hlen:(l++[x]).length=l.length+1:=by simp
 have hxl:(l++[x])[l.length]?=some x:=by simp
 refine Yp (cs:=[pt q]) h1 rfl λc w2 h2=>Za<|Zb h2 0 rfl (v:=pt q) rfl<|Zh<|Za<|Zb h2 1 rfl (v:=v) rfl<|Qln h2 2 rfl ?_;rw[hlen];refine ZjR (by omega) (by omega) ?_;rw[Nat.add_sub_cancel];refine Za<|Zb h2 0 rfl (v:=pt q) rfl<|Zh<|Za<|Zb h2 1 rfl (v:=v) rfl<|Qix h2 2 rfl hxl λp hp=>Ym h2 2 rfl hp rfl ?_;rw[ZOc];refine Yp (cs:=Yi [0,0,0,0,0,0]) h2 rfl λd w3 h3=>Zq h3 0 rfl (vs:=x.cs) rfl rfl (Nat.le_of_ble_eq_true rfl) (Zg _) (cs':=x.cs) (by kernel_rfl) λw4 h4=>?_;refine ZaY h4 λw5 h5=>Za<|Zb h5 1 rfl (v:=pt q) rfl<|Za<|Zb h5 1 rfl (v:=pt q) rfl<|Zh<|Za<|Zb h5 2 rfl (v:=v) rfl<|ZuF h5 3 rfl (λ_=>rfl) (hi:=l.length) (by omega) λv' h6=>?_;rw[List.take_left' rfl] at h6;refine Zh (Za<|Zpm h6 2 rfl (h6.own_cells 3 rfl) (Nat.le_of_ble_eq_true rfl) (cs':=[Iw room,v',.map<|some b]) rfl λw7 h7=>?_)
 replace h7:Sat e w7 (blk d 85 x.cs::blk c 343 [pt q]::blk q 216 [Iw room,v',.map<|some b]::Zz 85 6 Msg.cs v' l::Zaj kfK vfN b m::R):=h7
 refine ZaY h7 λw8 h8=>Za<|Zb h8 1 rfl (v:=pt q) rfl<|Zh<|Za<|Zb h8 2 rfl (v:=.map<|some b) rfl<|Za<|Zo h8 0 (vs:=x.key.cs) rfl (by rfl) rfl ?_;refine ZGa Zgm ZYl (h8.pick 4 rfl) x.key λw9 h9=>Zo h9 1 (vs:=x.cs) rfl (by rfl) rfl ?_;exact hk _<|ZbP ha.pop<|h9.sn 5 [3,4,0]
theorem ZtI {q:Nat} {room:Int} {l:List Msg} {x:Msg} (hx:l[0]?=some x) (hl:l.length<=1001) (hS:Sat e w<|Yc q room l::R)
  (hk:∀l' w',(l'++[x]).Perm l->(Zb0 l l.length->Zb0 l' l'.length)->Sat e w' (Yc q room l'::R)->K (.iface 85 (.agg x.cs.toArray)) w') :
  Cl prog 283 #[.iface 343<|rcv q] w K:=by
 refine ZmV ?_;unfold Zr2;have h0:=(List.getElem?_eq_some_iff.1 hx).1;obtain ⟨n,hn⟩:∃n,l.length=n+1:=⟨l.length - 1,by omega⟩;obtain ⟨y,hy⟩:=Zk (l:=l) (j:=n) (by omega);refine Zh2 hS λw2 h2=>?_;rw[hn];refine ZjR (by omega) (by omega) ?_;rw[Nat.add_sub_cancel];refine ZbT (i:=0) (k:=n) hx hy h2 λw3 h3=>?_;have hp1:=ZcT hx hy;refine ZC2 (i0:=0) (n:=n) (by rw[Zcx];omega) (by omega) (by rw[Zcx];omega) h3 λl2 bb w4 hp2 htail hd h4=>?_;have hl2:l2.length=n+1:=by rw[hp2.length_eq,Zcx,hn]
 have hln:l2[n]?=some x:=by rw[htail n<|Nat.le_refl _,ZaL hx hy,if_pos rfl]
 have hsp:l2=l2.take n++[x]:=by
  have:=Zx hln;rw[List.take_of_length_le (by omega)] at this;exact this
 have hpf:(l2.take n++[x]).Perm l:=by rw[<-hsp];exact hp2.trans hp1
 rw[hsp] at h4;refine Zlm (by rw[List.length_take];omega) h4 λw5 h5=>hk _ _ hpf (λhh=>?_) h5;have hh2:=hd ⟨λi a b hi hin hpar ha hb=>?_,λi a b hi hin hj=>by omega⟩
 .intro i a b hi hin ha hb;rw[List.length_take] at hin;rw[List.getElem?_take,if_pos (by omega)] at ha hb;exact hh2 i a b hi (by omega) ha hb
 .rw[ZaL hx hy,if_neg (by omega),if_neg (by omega)] at ha hb;exact hh i a b hi (by omega) ha hb
theorem Zn8 {q:Nat} {room:Int} (hS:Sat e w<|Yc q room []::R) (hk:∀w',Sat e w' (Yc q room []::R)->K (.tuple #[.agg Msg.zero.cs.toArray,Bf]) w'):Cl prog 277 #[pt q] w K:=by
 refine ZcK ?_;unfold ZdA;rw[ZOc];obtain ⟨v,b,m,ha,h1⟩:=Zcq hS;refine Yp (cs:=Yi [0,0,0,0,0,0]) h1 rfl λd w3 h3=>Zh<|Za<|Zb h3 1 rfl (v:=v) rfl<|Qln h3 2 rfl<|Znq rfl<|Zi<|Zaf Msg.zero.cs (by kernel_rfl) ?_;refine Zq h3 0 rfl (vs:=Msg.zero.cs) rfl rfl (Nat.le_of_ble_eq_true rfl) (Zg _) (cs':=Msg.zero.cs) (by kernel_rfl) λw4 h4=>?_;refine Zo h4 0 (vs:=Msg.zero.cs) rfl (by rfl) rfl ?_;exact hk _<|ZbP ha h4.drop
theorem ZsH {q:Nat} {room:Int} {l:List Msg} {x:Msg} (hx:l[0]?=some x) (hl:l.length<=1001) (hS:Sat e w<|Yc q room l::R)
  (hk:∀l' w',(l'++[x]).Perm l->(Zb0 l l.length->Zb0 l' l'.length)->Sat e w' (Yc q room l'::R)->K (.tuple #[.agg x.cs.toArray,Bt]) w'):Cl prog 277 #[pt q] w K:=by
 refine ZcK ?_;unfold ZdA;rw[ZOc,ZZq];obtain ⟨v,b,m,ha,h1⟩:=Zcq hS;have h0:=(List.getElem?_eq_some_iff.1 hx).1;refine Yp (cs:=Yi [0,0,0,0,0,0]) h1 rfl λd w3 h3=>Zh<|Za<|Zb h3 1 rfl (v:=v) rfl<|Qln h3 2 rfl<|Qeqf<|Zf<|Zaf [pt q] (by kernel_rfl) ?_;refine ZtI hx hl (ZbP ha<|h3.sn 4 [1,2,3,0]) λl' w4 hp hh h4=>ZvQ (by kernel_rfl) ?_;refine Zq h4 1 rfl (vs:=x.cs) rfl rfl (Nat.le_of_ble_eq_true rfl) (Zg _) (cs':=x.cs) (by kernel_rfl) λw5 h5=>?_;refine Zo h5 1 (vs:=x.cs) rfl (by rfl) rfl ?_;exact hk _ _ hp hh<|h5.sn 2 [0]
end Go.Proofs.YtceipnkeijhebaaGreat
namespace Go.Proofs.YtceipnkeijhebaaGreat
open Go Go.E
set_option maxRecDepth 100000
variable {e w:World} {R:List HP} {K:KV}
def UpN (l:List Msg) (j n:Nat):Prop:=
 (∀(i:Nat) (x y:Msg),0<i->i<n->i≠j->l[i]?=some x->l[(i - 1) / 2]?=some y->¬Zv x.key y.key)/\
 ∀(i:Nat) (x y:Msg),0<i->i<n->0<j->(i - 1) / 2=j->l[i]?=some x->l[(j - 1) / 2]?=some y->¬Zv x.key y.key
theorem UpN.done {l:List Msg} {j n:Nat} (h:UpN l j n) (hj:j=0\/∃x y,l[j]?=some x/\l[(j - 1) / 2]?=some y/\¬Zv x.key y.key):Zb0 l n:=by
 intro i x y hi hin hx hy;by_cases hij:i=j
 .subst hij;rcases hj with hj | ⟨x',y',hx',hy',hn⟩
  .omega
  .rw[hx] at hx';rw[hy] at hy';injection hx' with hx';injection hy' with hy';subst hx' hy';exact hn
 .exact h.1 i x y hi hin hij hx hy
theorem UpN.step {l:List Msg} {j n:Nat} {x y:Msg} (h:UpN l j n) (hj:0<j) (hjn:j<n) (hx:l[j]?=some x) (hy:l[(j - 1) / 2]?=some y) (hlt:Zv x.key y.key):UpN (ZeZ l ((j - 1) / 2) j y x) ((j - 1) / 2) n:=by
 obtain ⟨h1,h2⟩:=h;have hg:=ZaL (i:=(j - 1) / 2) (k:=j) hy hx;constructor
 .intro i a b hi hin hij ha hb;rw[hg] at ha hb;by_cases e1:i=j
  .subst e1;rw[if_pos rfl] at ha;rw[if_neg (by omega),if_pos rfl] at hb;injection ha with ha;injection hb with hb;subst ha hb;exact hlt.asymm
  .rw[if_neg e1,if_neg hij] at ha;by_cases e2:(i - 1) / 2=j
   .rw[if_pos e2] at hb;injection hb with hb;subst hb;exact h2 i a y hi hin hj e2 ha hy
   .rw[if_neg e2] at hb;by_cases e3:(i - 1) / 2=(j - 1) / 2
    .rw[if_pos e3] at hb;injection hb with hb;subst hb;have:=h1 i a y hi hin e1 ha (by rw[e3];exact hy);intro hax;exact this<|hax.trans hlt
    .rw[if_neg e3] at hb;exact h1 i a b hi hin e1 ha hb
 .intro i a b hi hin hp hpar ha hb;rw[hg] at ha hb;rw[if_neg (by omega),if_neg (by omega)] at hb;have hyb:=h1 ((j - 1) / 2) y b hp (by omega) (by omega) hy hb;by_cases e1:i=j
  .rw[if_pos e1] at ha;injection ha with ha;subst ha;exact hyb
  .rw[if_neg e1,if_neg (by omega)] at ha;have:=h1 i a y hi hin e1 ha (by rw[hpar];exact hy);exact ZbN this hyb
theorem ZFZ {q j0 n:Nat} {room:Int} {l:List Msg} (hj:j0<n) (hn:n<=l.length) (hl:l.length<=1001) (hS:Sat e w<|Yc q room l::R)
  (hk:∀l' w',l'.Perm l->(∀i,n<=i->l'[i]?=l[i]?)->(UpN l j0 n->Zb0 l' n)->Sat e w' (Yc q room l'::R)->K (.tuple #[]) w') :
  Cl prog 285 #[.iface 343<|rcv q,Iw (j0:Int)] w K:=by
 refine ZiM ?_;refine Zdk (λz t1 w=>∃(j:Nat) (l':List Msg),t1=Iw (j:Int)/\z=j/\j<n/\l'.Perm l/\(∀i,n<=i->l'[i]?=l[i]?)/\(UpN l j0 n->UpN l' j n)/\Sat e w (Yc q room l'::R)) j0
  ⟨j0,l,rfl,rfl,hj,.refl _,λ_ _=>rfl,id,hS⟩ ?_
 rintro j _ w g ⟨j',l',rfl,rfl,hjn,hp,htail,hinv,h1⟩ hg;have hlen:=hp.length_eq;refine Qsubs<|ZCv (by decide) ?_;by_cases h0:j=0
 .subst h0;refine Znq rfl<|Zd<|Zd<|Zd<|Zd<|Zd<|Yv<|Zi<|hk _ _ hp htail (λhu=>(hinv hu).done (.inl rfl)) h1
 .have e1:IntKind.i64.wrap (((j:Int) - 1).tdiv 2)=(((j - 1) / 2:Nat):Int):=by
   rw[Int.tdiv_eq_ediv_of_nonneg (by omega),Zdl (by omega) (by omega)];omega
  rw[e1];obtain ⟨x,hx⟩:=Zk (l:=l') (j:=j) (by omega);obtain ⟨y,hy⟩:=Zk (l:=l') (j:=(j - 1) / 2) (by omega);refine Qeqf<|Zj<|Zj<|Zj<|Zj<|ZbS hx hy h1 λw2 h2=>?_;by_cases hlt:ZeU x.key y.key<0
  .rw[decide_eq_true hlt];refine Zj<|ZaJ<|Yd<|Zf<|ZbT hy hx h2 λw3 h3=>hg _ _ _ (by omega) ⟨(j - 1) / 2,_,rfl,rfl,by omega,(ZcT hy hx).trans hp,λi hi=>?_,λhu=>(hinv hu).step (by omega) hjn hx hy<|Zav.1 hlt,h3⟩;rw[ZaL hy hx,if_neg (by omega),if_neg (by omega)];exact htail i hi
  .rw[decide_eq_false hlt];refine Zj<|Zch<|Yd<|Zi<|hk _ _ hp htail (λhu=>(hinv hu).done (.inr ⟨x,y,hx,hy,λh=>hlt<|Zav.2 h⟩)) h2
def ZBF (l:List Msg) (j n:Nat):Prop:=
 (∀(i:Nat) (x y:Msg),0<i->i<n->i≠j->(i - 1) / 2≠j->l[i]?=some x->l[(i - 1) / 2]?=some y->¬Zv x.key y.key)/\
 ∀(i:Nat) (x y:Msg),0<i->i<n->0<j->(i - 1) / 2=j->l[i]?=some x->l[(j - 1) / 2]?=some y->¬Zv x.key y.key
theorem ZBF.step {l:List Msg} {j c n:Nat} {x y:Msg} (h:ZBF l j n) (hc0:0<c) (hcn:c<n) (hcj:(c - 1) / 2=j) (hx:l[j]?=some x) (hy:l[c]?=some y) (hlt:Zv y.key x.key)
  (hmin:∀(i:Nat) (a:Msg),0<i->i<n->(i - 1) / 2=j->l[i]?=some a->¬Zv a.key y.key):Zc5 (ZeZ l j c x y) c n:=by
 obtain ⟨h1,h2⟩:=h;have hg:=ZaL (i:=j) (k:=c) hx hy;constructor
 .intro i a b hi hn hij ha hb;rw[hg] at ha hb;rw[if_neg hij] at hb;by_cases e1:i=c
  .subst e1;rw[if_pos rfl] at ha;rw[if_pos hcj] at hb;injection ha with ha;injection hb with hb;subst ha hb;exact hlt.asymm
  .rw[if_neg e1] at ha;by_cases e2:(i - 1) / 2=j
   .rw[if_pos e2] at hb;rw[if_neg (by omega)] at ha;injection hb with hb;subst hb;exact hmin i a hi hn e2 ha
   .rw[if_neg e2] at hb;by_cases e3:i=j
    .rw[if_pos e3] at ha;injection ha with ha;subst ha;subst e3;exact h2 c y b hc0 hcn hi hcj hy hb
    .rw[if_neg e3] at ha;exact h1 i a b hi hn e3 e2 ha hb
 .intro i a b hi hn hc hpar ha hb;rw[hg] at ha hb;rw[if_neg (by omega),if_neg (by omega)] at ha;rw[if_neg (by omega),if_pos hcj] at hb;injection hb with hb;subst hb;exact h1 i a y hi hn (by omega) (by omega) ha (by rw[hpar];exact hy)
theorem ZzM {q i0 n:Nat} {room:Int} {l:List Msg} (hn:n<=l.length) (hi0:i0<=n) (hl:l.length<=1001) (hS:Sat e w<|Yc q room l::R)
  (hk0:(∀(i:Nat) (x y:Msg),0<i->i<n->(i - 1) / 2=i0->l[i]?=some x->l[i0]?=some y->¬Zv x.key y.key)->∀w',Sat e w' (Yc q room l::R)->K Bf w')
  (hk:∀l' w',l'.Perm l->(∀i,n<=i->l'[i]?=l[i]?)->(ZBF l i0 n->Zb0 l' n)->Sat e w' (Yc q room l'::R)->K Bt w') :
  Cl prog 286 #[.iface 343<|rcv q,Iw (i0:Int),Iw (n:Int)] w K:=by
 refine Zf3 ?_;unfold Zmo;refine J1.cut (λt7 w=>∃(i:Nat) (l':List Msg),t7=Iw (i:Int)/\i0<=i/\l'.Perm l/\(∀i,n<=i->l'[i]?=l[i]?)/\(i=i0->l'=l/\∀(i:Nat) (x y:Msg),0<i->i<n->(i - 1) / 2=i0->l[i]?=some x->l[i0]?=some y->¬Zv x.key y.key)/\
   (i0<i->ZBF l i0 n->Zb0 l' n)/\Sat e w (Yc q room l'::R)) (λk1 hcut=>?_) ?_
 .refine Zdk (λz t7 w=>∃(j:Nat) (l':List Msg),t7=Iw (j:Int)/\z=n - j/\i0<=j/\j<=n/\l'.Perm l/\(∀i,n<=i->l'[i]?=l[i]?)/\(j=i0->l'=l)/\(i0<j->ZBF l i0 n->Zc5 l' j n)/\Sat e w (Yc q room l'::R)) (n - i0)
   ⟨i0,l,rfl,rfl,Nat.le_refl _,hi0,.refl _,λ_ _=>rfl,λ_=>rfl,(λh=>absurd h<|Nat.lt_irrefl _),hS⟩ ?_
  rintro z _ w g ⟨j,l',rfl,rfl,hij,hjn,hp,htail,hsame,hinv,h1⟩ hg;have hlen:=hp.length_eq;refine Zp5 (a:=2) (by omega)<|Zb9 (b:=1) (by omega) ?_;have hend:∀w',(∀(i:Nat) (x y:Msg),0<i->i<n->(i - 1) / 2=j->l'[i]?=some x->l'[j]?=some y->¬Zv x.key y.key)->Sat e w' (Yc q room l'::R)->k1 (Iw (j:Int)) w':=by
   intro w' hch h;refine hcut _ _ ⟨j,l',rfl,hij,hp,htail,λe=>⟨hsame e,?_⟩,λhlt hh=>(hinv hlt hh).done hch,h⟩;subst e;have:=hsame rfl;subst this;exact hch
  refine Zu5 (λc1=>?_)<|λc1=>?_
  .refine Zd<|Zd<|Yv<|Zi<|hend _ (λi x y hi hin hpar _ _=>?_) h1;omega
  .refine Zj<|Zj<|Qltf<|Yd<|Zf<|Zb9 (b:=1) (by omega) ?_;obtain ⟨x,hx⟩:=Zk (l:=l') (j:=j) (by omega);obtain ⟨y1,hy1⟩:=Zk (l:=l') (j:=2*j+1) (by omega);have hrest:∀(c:Nat) (y:Msg) w',(c=2*j+1\/c=2*j+1+1)->c<n->l'[c]?=some y->(∀(i:Nat) (a:Msg),0<i->i<n->(i - 1) / 2=j->l'[i]?=some a->¬Zv a.key y.key)->Sat e w' (Yc q room l'::R)->
     clI prog (.iface 343<|rcv q) "Less" #[Iw (c:Int),Iw (j:Int)] w' λt38 w=>Zb3 t38 w λt39 w=>Zr t39 (k1 (Iw (j:Int)) w)
      (clI prog (.iface 343<|rcv q) "Swap" #[Iw (j:Int),Iw (c:Int)] w λ_ w=>g [Iw (c:Int)] w):=by
    intro c y w' hc hcn hy hmin h2;refine ZbS hy hx h2 λw3 h3=>?_;by_cases hlt:ZeU y.key x.key<0
    .rw[decide_eq_true hlt];refine ZaJ<|Zf<|ZbT hx hy h3 λw4 h4=>hg _ _ _ (by omega) ⟨c,_,rfl,rfl,by omega,by omega,(ZcT hx hy).trans hp,λi hi=>?_,λe=>by omega,λ_ hh=>?_,h4⟩
     .rw[ZaL hx hy,if_neg (by omega),if_neg (by omega)];exact htail i hi
     .by_cases hj0:j=i0
      .subst hj0;have:=hsame rfl;subst this;exact hh.step (by omega) hcn (by omega) hx hy (Zav.1 hlt) hmin
      .exact (hinv (by omega) hh).step (by omega) hcn (by omega) hx hy (Zav.1 hlt) hmin
    .rw[decide_eq_false hlt];refine Zch<|Zi<|hend _ (λi a b hi hin hpar ha hb=>?_) h3;rw[hx] at hb;injection hb with hb;subst hb;exact ZbN (hmin i a hi hin hpar ha)<|λh=>hlt<|Zav.2 h
   refine Za7 (λc2=>?_)<|λc2=>?_
   .obtain ⟨y2,hy2⟩:=Zk (l:=l') (j:=2*j+1+1) (by omega);refine Ze<|Ze<|Ze<|Ze<|ZbS hy2 hy1 h1 λw2 h2=>?_;by_cases hlt:ZeU y2.key y1.key<0
    .rw[decide_eq_true hlt];refine Yv<|Zi<|hrest (2*j+1+1) y2 _ (.inr rfl) (by omega) hy2 (λi a hi hin hpar ha=>?_) h2;have:i=2*j+1\/i=2*j+1+1:=by omega
     rcases this with rfl | rfl
     .rw[hy1] at ha;injection ha with ha;subst ha;exact (Zav.1 hlt).asymm
     .rw[hy2] at ha;injection ha with ha;subst ha;exact Zv.irrefl _
    .rw[decide_eq_false hlt];refine Yv<|Zf<|hrest (2*j+1) y1 _ (.inl rfl) (by omega) hy1 (λi a hi hin hpar ha=>?_) h2;have:i=2*j+1\/i=2*j+1+1:=by omega
     rcases this with rfl | rfl
     .rw[hy1] at ha;injection ha with ha;subst ha;exact Zv.irrefl _
     .rw[hy2] at ha;injection ha with ha;subst ha;exact λh=>hlt<|Zav.2 h
   .refine Zu<|Zu<|Zu<|Zu<|Yd<|Zf<|hrest (2*j+1) y1 _ (.inl rfl) (by omega) hy1 (λi a hi hin hpar ha=>?_) h1;have:i=2*j+1:=by omega
    subst this;rw[hy1] at ha;injection ha with ha;subst ha;exact Zv.irrefl _
 .rintro _ w ⟨i,l',rfl,hii,hp,htail,hsame,hd,h2⟩;refine Ztu (λc=>?_)<|λc=>?_
  .exact hk l' _ hp htail (hd<|by omega) h2
  .have:i=i0:=by omega
   obtain ⟨hs1,hs2⟩:=hsame this;subst hs1;exact hk0 hs2 _ h2
theorem Zp7 {q i:Nat} {room:Int} {l:List Msg} {x:Msg} (hx:l[i]?=some x) (hl:l.length<=1001) (hS:Sat e w<|Yc q room l::R)
  (hk:∀l' w',(l'++[x]).Perm l->(Zb0 l l.length->Zb0 l' l'.length)->Sat e w' (Yc q room l'::R)->K (.iface 85 (.agg x.cs.toArray)) w') :
  Cl prog 319 #[.iface 343<|rcv q,Iw (i:Int)] w K:=by
 refine ZjV ?_;unfold Zl7;have h0:=(List.getElem?_eq_some_iff.1 hx).1;obtain ⟨n,hn⟩:∃n,l.length=n+1:=⟨l.length - 1,by omega⟩;obtain ⟨y,hy⟩:=Zk (l:=l) (j:=n) (by omega);refine Zh2 hS λw2 h2=>?_;rw[hn];refine ZjR (by omega) (by omega) ?_;rw[Nat.add_sub_cancel];have hlast:∀l2 w',l2.Perm l->l2[n]?=some x->(Zb0 l l.length->Zb0 l2 n)->Sat e w' (Yc q room l2::R)->clI prog (.iface 343<|rcv q) "Pop" #[] w' K:=by
  intro l2 w' hp hln hh h;have hl2:l2.length=n+1:=by rw[hp.length_eq,hn]
  have hsp:l2=l2.take n++[x]:=by
   have:=Zx hln;rw[List.take_of_length_le (by omega)] at this;exact this
  have hpf:(l2.take n++[x]).Perm l:=by rw[<-hsp];exact hp
  rw[hsp] at h;refine Zlm (by rw[List.length_take];omega) h λw5 h5=>hk _ _ hpf (λhl=>?_) h5;have hh2:=hh hl;intro i a b hi hin ha hb;rw[List.length_take] at hin;rw[List.getElem?_take,if_pos (by omega)] at ha hb;exact hh2 i a b hi (by omega) ha hb
 refine ZrP (λc=>?_)<|λc=>?_
 .have hin:i≠n:=λe=>c (by rw[e]);refine Zi<|ZbT hx hy h2 λw3 h3=>?_;have hp1:=ZcT hx hy;have hg1:=ZaL hx hy;have hln1:(ZeZ l i n x y)[n]?=some x:=by rw[hg1,if_pos rfl]
  have hhole:Zb0 l l.length->ZBF (ZeZ l i n x y) i n:=by
   intro hh;constructor
   .intro a u v ha han hai hpi hu hv;rw[hg1,if_neg (by omega),if_neg hai] at hu;rw[hg1,if_neg (by omega),if_neg hpi] at hv;exact hh a u v ha (by omega) hu hv
   .intro a u v ha han hi0 hpar hu hv;rw[hg1,if_neg (by omega),if_neg (by omega)] at hu;rw[hg1,if_neg (by omega),if_neg (by omega)] at hv;have h3:=hh a u x ha (by omega) hu (by rw[hpar];exact hx);have h4:=hh i x v hi0 (by omega) hx hv;exact ZbN h3 h4
  refine ZzM (by rw[Zcx];omega) (by omega) (by rw[Zcx];omega) h3 (λhch w4 h4=>?_)<|λl2 w4 hp2 htail hd h4=>?_
  .refine Zch<|Zi<|ZFZ (n:=n) (by omega) (by rw[Zcx];omega) (by rw[Zcx];omega) h4 λl2 w5 hp2 htail hu h5=>?_;refine hlast l2 _ (hp2.trans hp1) (by rw[htail n<|Nat.le_refl _];exact hln1) (λhh=>hu ⟨λa u v ha han hai hu' hv'=>?_,(hhole hh).2⟩) h5;by_cases hpi:(a - 1) / 2=i
   .rw[hpi] at hv';exact hch a u v ha han hpi hu' hv'
   .exact (hhole hh).1 a u v ha han hai hpi hu' hv'
  .exact ZaJ<|Zf<|hlast l2 _ (hp2.trans hp1) (by rw[htail n<|Nat.le_refl _];exact hln1) (λhh=>hd<|hhole hh) h4
 .have hin:i=n:=by omega
  subst hin;exact Zf<|hlast l _ (.refl _) hx (λhh a u v ha han hu hv=>hh a u v ha (by omega) hu hv) h2
theorem ZoC {q:Nat} {room:Int} {l:List Msg} {x:Msg} (hx:x∈l) (hl:l.length<=1001) (hS:Sat e w<|Yc q room l::R)
  (hk:∀l' w',(l'++[x]).Perm l->(Zb0 l l.length->Zb0 l' l'.length)->Sat e w' (Yc q room l'::R)->K (.tuple #[.agg x.cs.toArray,Bt]) w'):Cl prog 309 #[pt q,.agg x.key.cs.toArray] w K:=by
 refine Zeh ?_;unfold Zd7;rw[ZOc,ZZq];obtain ⟨v,b,m,ha,h1⟩:=Zcq hS;refine Yp (cs:=x.key.cs) h1 rfl λc w2 h2=>Yp (cs:=Yi [0,0,0,0,0,0]) h2 rfl λd w3 h3=>ZaY h3 λw4 h4=>Zh<|Za<|Zb h4 2 rfl (v:=.map<|some b) rfl<|Zo h4 1 (vs:=x.key.cs) rfl (by rfl) rfl ?_;refine ZsE Zgm ZYl h4 4 rfl x.key ?_;obtain ⟨i,hi⟩:=List.mem_iff_getElem?.1 hx;rw[(ha.ok x.key i).2 ⟨x,hi,rfl⟩];refine Zam<|Zal<|ZaJ<|Zf<|Zaf [pt q] (by kernel_rfl) ?_;refine Zp7 hi hl (ZbP ha<|h4.sn 5 [2,3,4,0]) λl' w5 hp hh h5=>ZvQ (by kernel_rfl) ?_;refine Zq h5 1 rfl (vs:=x.cs) rfl rfl (Nat.le_of_ble_eq_true rfl) (Zg _) (cs':=x.cs) (by kernel_rfl) λw6 h6=>?_;refine Zo h6 1 (vs:=x.cs) rfl (by rfl) rfl ?_;exact hk _ _ hp hh<|h6.sn 2 [0]
theorem Zmh {q:Nat} {room:Int} (hS:Sat e w<|Yc q room []::R) (hk:∀w',Sat e w' (Yc q room []::R)->K (.tuple #[.agg Msg.zero.cs.toArray,Bf]) w'):Cl prog 150 #[pt q] w K:=by
 refine Zcm ?_;unfold ZcE;rw[ZOc];obtain ⟨v,b,m,ha,h1⟩:=Zcq hS;refine Yp (cs:=Yi [0,0,0,0,0,0]) h1 rfl λd w3 h3=>Zh<|Za<|Zb h3 1 rfl (v:=v) rfl<|Qln h3 2 rfl<|Znq rfl<|Zi<|Zaf Msg.zero.cs (by kernel_rfl) ?_;refine Zq h3 0 rfl (vs:=Msg.zero.cs) rfl rfl (Nat.le_of_ble_eq_true rfl) (Zg _) (cs':=Msg.zero.cs) (by kernel_rfl) λw4 h4=>?_;refine Zo h4 0 (vs:=Msg.zero.cs) rfl (by rfl) rfl ?_;exact hk _<|ZbP ha h4.drop
theorem ZpH {q:Nat} {room:Int} {l:List Msg} {x:Msg} (hx:l[0]?=some x) (hS:Sat e w<|Yc q room l::R)
  (hk:∀w',Sat e w' (Yc q room l::R)->K (.tuple #[.agg x.cs.toArray,Bt]) w'):Cl prog 150 #[pt q] w K:=by
 refine Zcm ?_;unfold ZcE;rw[ZOc];obtain ⟨v,b,m,ha,h1⟩:=Zcq hS;have h0:=(List.getElem?_eq_some_iff.1 hx).1;refine Yp (cs:=Yi [0,0,0,0,0,0]) h1 rfl λd w3 h3=>Zh<|Za<|Zb h3 1 rfl (v:=v) rfl<|Qln h3 2 rfl<|Qeqf<|Zf<|Zh<|Za<|Zb h3 1 rfl (v:=v) rfl<|Qix (j:=0) h3 2 rfl hx λp hp=>Ym h3 2 rfl hp rfl<|Zq h3 0 rfl (vs:=x.cs) rfl rfl (Nat.le_of_ble_eq_true rfl) (Zg _) (cs':=x.cs) (by kernel_rfl) λw4 h4=>?_;refine Zo h4 0 (vs:=x.cs) rfl (by rfl) rfl ?_;exact hk _<|ZbP ha h4.drop
end Go.Proofs.YtceipnkeijhebaaGreat
end
