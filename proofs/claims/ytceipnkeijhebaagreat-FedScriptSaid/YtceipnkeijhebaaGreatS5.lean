/- Texts of the proof, joined. Conditions: none. -/
import Derived.Test.YtceipnkeijhebaaGreatS4
section
namespace Go.Proofs.YtceipnkeijhebaaGreat
open Go Go.E
set_option maxRecDepth 100000
variable {e w:World} {R:List HP} {K:KV}
structure Z0k (n:Nat) (c:Zan):Prop where
 h0:0<=c.over
 h1:c.over<=c.begun
 h2:c.begun<=c.over+1
 hT:∀i,i<n->c.over<=c.T i/\c.T i<=c.begun
 hR:∀i,i<n->0<=c.Rp i/\c.Rp i<=c.begun
structure RX where
 (vc vt vr:Value) (old:Int) (cl:List Int) (tl rl:List Bool)
def rcs (x:RX) (c:Zan):List Value:=[x.vc,x.vt,x.vr,Iw c.on0,Iw c.on1,.bool<|decide<|c.over<c.begun,Iw x.old,Iw c.least,Iw c.value,Iw c.over]
structure Z1H (n:Nat) (c:Zan) (x:RX):Prop where
 hn:c.n=n
 inv:Z0k n c
 lc:x.cl.length=n
 lt:x.tl.length=n
 lr:x.rl.length=n
 hc:∀i,i<n->x.cl[i]?=some (c.T i % 2)
 ht:c.over<c.begun->∀i,i<n->x.tl[i]?=some (decide<|c.T i=c.begun)
 hr:c.over<c.begun->∀i,i<n->x.rl[i]?=some (decide<|c.Rp i=c.begun)
 ho:c.over<c.begun->x.old=c.over % 2
theorem Z0k.congr {n:Nat} {c c':Zan} (h:Z0k n c) (e2:c'.over=c.over) (e3:c'.begun=c.begun) (e4:c'.T=c.T) (e5:c'.Rp=c.Rp):Z0k n c':=by
 obtain ⟨i0,i1,i2,i3,i4⟩:=h;exact ⟨by rw[e2];exact i0,by rw[e2,e3];exact i1,by rw[e2,e3];exact i2,by rw[e2,e3,e4];exact i3,by rw[e3,e5];exact i4⟩
theorem Z1H.congr {n:Nat} {c c':Zan} {x:RX} (h:Z1H n c x) (e1:c'.n=c.n) (e2:c'.over=c.over) (e3:c'.begun=c.begun) (e4:c'.T=c.T) (e5:c'.Rp=c.Rp):Z1H n c' x:=by
 obtain ⟨hn,inv,lc,lt,lr,hc,ht,hr,ho⟩:=h;exact ⟨by rw[e1];exact hn,inv.congr e2 e3 e4 e5,lc,lt,lr,by rw[e4];exact hc,by rw[e2,e3,e4];exact ht,by rw[e2,e3,e5];exact hr,by rw[e2,e3];exact ho⟩
def ZYK (g n:Nat) (c:Zan):HP:=hex λx:RX=>Yh [pur<|Z1H n c x,blk g 114<|rcs x c,Zz 3 1 (Ye .i64) x.vc x.cl,Zz 4 1 bl x.vt x.tl,Zz 4 1 bl x.vr x.rl]
theorem ZY8 {g n:Nat} {c:Zan} (h:Sat e w<|ZYK g n c::R):∃x,Z1H n c x/\Sat e w (blk g 114 (rcs x c)::Zz 3 1 (Ye .i64) x.vc x.cl::Zz 4 1 bl x.vt x.tl::Zz 4 1 bl x.vr x.rl::R):=by
 obtain ⟨x,h0⟩:=h.ex;exact ⟨x,Sat.pure h0.split⟩
theorem ZZz {g n:Nat} {c:Zan} {x:RX} (hr:Z1H n c x) (h:Sat e w<|blk g 114 (rcs x c)::Zz 3 1 (Ye .i64) x.vc x.cl::Zz 4 1 bl x.vt x.tl::Zz 4 1 bl x.vr x.rl::R):Sat e w (ZYK g n c::R):=
 .mk_ex x (.join (l':=[_,_,_,_,_]) (.mk_pure hr h))
theorem ZYA (x:RX) (c:Zan):(rcs x c).length=10:=rfl
theorem ZZ9 {n:Nat} (h1:1<=n) (h2:n<=8) (hS:Sat e w R) (hk:∀g w',Sat e w' (ZYK g n (Zan.zero n)::R)->K (.tuple #[pt g,Iw 0]) w'):Cl prog 35 #[Iw n] w K:=by
 refine ZMZ ?_;unfold ZMS;refine Qltf<|Zj<|Ze<|Qgtf<|Yd<|Zf ?_;have tail:∀v1 v2 v3 w',Sat e w' (Zz 3 1 (Ye .i64) v1 (List.replicate n 0)::Zz 4 1 bl v2 (List.replicate n false)::Zz 4 1 bl v3 (List.replicate n false)::R)->
   bld (Zl prog 114) #[(0,1),(1,1),(2,1),(3,2),(5,1),(6,1),(7,1),(8,1),(9,1)] [(0,v1),(1,v2),(2,v3)] w' λt16 w=>al (Value.cells t16) 114 w λt17 w=>K (Value.tuple #[t17,Iw 0]) w:=by
  intro v1 v2 v3 w' h;obtain ⟨A1,c1,e1,_⟩:=h.shape 0 rfl<|λ_ hg=>Zp hg;obtain ⟨A2,c2,e2,_⟩:=h.shape 1 rfl<|λ_ hg=>Zp hg;obtain ⟨A3,c3,e3,_⟩:=h.shape 2 rfl<|λ_ hg=>Zp hg;rw[List.length_replicate] at e1 e2 e3;subst e1 e2 e3;rw[Z1u];refine Zaf (rcs ⟨.slice A1 n c1,.slice A2 n c2,.slice A3 n c3,0,List.replicate n 0,List.replicate n false,List.replicate n false⟩<|Zan.zero n) (by kernel_rfl) ?_;refine Yp (cs:=rcs ⟨.slice A1 n c1,.slice A2 n c2,.slice A3 n c3,0,List.replicate n 0,List.replicate n false,List.replicate n false⟩<|Zan.zero n) h rfl λg w2 h2=>hk _ _<|ZZz ?_ h2;have hno:¬(Zan.zero n).over<(Zan.zero n).begun:=by show ¬(0:Int)<0;decide
  refine ⟨rfl,⟨Int.le_refl _,Int.le_refl _,by show (0:Int)<=0+1;decide,λ_ _=>⟨Int.le_refl _,Int.le_refl _⟩,λ_ _=>⟨Int.le_refl _,Int.le_refl _⟩⟩,List.length_replicate,List.length_replicate,List.length_replicate,λi hi=>?_,λh=>absurd h hno,λh=>absurd h hno,λh=>absurd h hno⟩;show (List.replicate n (0:Int))[i]?=some (0 % 2);rw[List.getElem?_replicate,if_pos hi];rfl
 have mkI:∀{w:World} {L:List HP} {K:KV},Sat e w L->(∀v w',Sat e w' (Zz 3 1 (Ye .i64) v (List.replicate n 0)::L)->K v w')->mkS prog 22 (Iw (n:Int)) (Iw (n:Int)) w K:=
  λh hk=>Zyg Zvs (by omega) h (Ye .i64) (λ_=>rfl) 0 (by rw[Zr6];rfl) hk
 have mkB:∀{w:World} {L:List HP} {K:KV},Sat e w L->(∀v w',Sat e w' (Zz 4 1 bl v (List.replicate n false)::L)->K v w')->mkS prog 111 (Iw (n:Int)) (Iw (n:Int)) w K:=
  λh hk=>Zyg Z0W (by omega) h bl (λ_=>rfl) false (by rw[ZDc];rfl) hk
 have h0:=hS.drew;refine ⟨?_,?_,?_⟩
 .refine mkI h0 λv1 w1 h1=>⟨?_,?_⟩
  .exact mkB h1 λv2 w2 h2=>mkB h2 λv3 w3 h3=>tail _ _ _ _<|h3.sn 3 [2,1,0]
  .exact mkB h1 λv2 w2 h2=>mkB h2 λv3 w3 h3=>tail _ _ _ _<|h3.sn 3 [2,0,1]
 .refine mkB h0 λv1 w1 h1=>⟨?_,?_⟩
  .exact mkI h1 λv2 w2 h2=>mkB h2 λv3 w3 h3=>tail _ _ _ _<|h3.sn 3 [1,2,0]
  .exact mkB h1 λv2 w2 h2=>mkI h2 λv3 w3 h3=>tail _ _ _ _<|h3.sn 3 [0,2,1]
 .refine mkB h0 λv1 w1 h1=>⟨?_,?_⟩
  .exact mkI h1 λv2 w2 h2=>mkB h2 λv3 w3 h3=>tail _ _ _ _<|h3.sn 3 [1,0,2]
  .exact mkB h1 λv2 w2 h2=>mkI h2 λv3 w3 h3=>tail _ _ _ _<|h3.sn 3 [0,1,2]
theorem ZYn {g n:Nat} {c:Zan} {i:Int} (hS:Sat e w<|ZYK g n c::R) (hk:K (.bool<|decide<|0<=i/\i<n) w):Cl prog 117 #[pt g,Iw i] w K:=by
 obtain ⟨x,hx,h1⟩:=ZY8 hS;refine ZXW ?_;unfold ZXD;refine Zu5 (λc1=>?_)<|λc1=>?_
 .refine Ze<|Ze<|Ze<|Zh<|Ze<|Za<|Ze<|Zb h1 0 rfl (v:=x.vc) rfl<|Ze<|Qln h1 1 rfl ?_;rw[hx.lc];refine Ze<|ZwL<|Yv ?_;rw[show decide (0<=i/\i<(n:Int))=decide (i<n) from by simp[c1]] at hk;exact hk
 .refine Zu<|Zu<|Zd<|Zd<|Zd<|Zd<|Zd<|Yd ?_;rw[show decide (0<=i/\i<(n:Int))=false from by simp;omega] at hk;exact hk
theorem ZZu {g n:Nat} {c:Zan} (h1n:1<=n) (hn8:n<=8) (hS:Sat e w<|ZYK g n c::R)
  (hk:∀w',Sat e w' (ZYK g n (if c.over<c.begun then c else { c with begun:=c.begun+1,least:=Inf })::R)->K (Iw<|if c.over<c.begun then 130 else 0) w'):Cl prog 51 #[pt g] w K:=by
 obtain ⟨x,hx,h1⟩:=ZY8 hS;refine ZXp<|Zh<|Za<|Zb h1 0 rfl (v:=.bool<|decide<|c.over<c.begun) rfl ?_;by_cases hu:c.over<c.begun
 .rw[if_pos hu,if_pos hu] at hk;rw[decide_eq_true hu];exact Zi<|hk _ hS
 .rw[if_neg hu,if_neg hu] at hk;rw[decide_eq_false hu];refine Zf<|Zh<|Za<|Zq h1 0 rfl (vs:=[Bt]) rfl rfl (by rw[ZYA];decide) (by simp[flat]) rfl λw2 h2=>?_;refine Zh<|Za<|Zb h2 0 rfl (v:=x.vc) rfl<|Qix (j:=0) h2 1 rfl (hx.hc 0<|by omega) λa ha=>?_;refine Yt h2 1 rfl ha rfl<|Zh<|Za<|Zq h2 0 rfl (vs:=[Iw<|c.T 0 % 2]) rfl rfl (Nat.le_of_ble_eq_true rfl) (by simp[flat]) rfl λw3 h3=>?_;refine Zh<|Za<|Zq h3 0 rfl (vs:=[Iw Inf]) rfl rfl (Nat.le_of_ble_eq_true rfl) (by simp[flat]) rfl λw4 h4=>?_;refine Zh<|Za<|Zb h4 0 rfl (v:=x.vc) rfl<|Qln h4 1 rfl ?_;rw[hx.lc];refine Zyg Z0W (by omega) h4 bl (λ_=>rfl) false (by rw[ZDc];rfl) λv1 w5 h5=>?_;refine Zh<|Za<|Zpm h5 1 rfl (h5.own_cells 0 rfl) (Nat.le_of_ble_eq_true rfl) rfl λw6 h6=>Zh<|Za<|Zb h6 1 rfl (v:=x.vc) rfl<|Qln h6 2 rfl ?_;rw[hx.lc];refine Zyg Z0W (by omega) h6 bl (λ_=>rfl) false (by rw[ZDc];rfl) λv2 w7 h7=>?_;refine Zh<|Za<|Zpm h7 2 rfl (h7.own_cells 0 rfl) (Nat.le_of_ble_eq_true rfl) rfl λw8 h8=>?_;have h9:=h8.sn 6 [2,3,1,0];obtain ⟨hn,inv,lc,lt,lr,hc,ht,hr,ho⟩:=hx;obtain ⟨i0,i1,i2,i3,i4⟩:=inv;have hb:c.begun=c.over:=by omega
  refine hk _<|ZZz (x:=⟨x.vc,v1,v2,c.T 0 % 2,x.cl,List.replicate n false,List.replicate n false⟩) ?_ ?_
  .refine ⟨hn,⟨i0,by show c.over<=c.begun+1;omega,by show c.begun+1<=c.over+1;omega,λi hi=>⟨(i3 i hi).1,by have:=(i3 i hi).2;show c.T i<=c.begun+1;omega⟩,λi hi=>⟨(i4 i hi).1,by have:=(i4 i hi).2;show c.Rp i<=c.begun+1;omega⟩⟩,lc,List.length_replicate,List.length_replicate,hc,λ_ i hi=>?_,λ_ i hi=>?_,λ_=>?_⟩
   .show (List.replicate n false)[i]?=_;rw[List.getElem?_replicate,if_pos hi];have:=(i3 i hi).2;congr 1;exact (decide_eq_false<|show ¬c.T i=c.begun+1 by omega).symm
   .show (List.replicate n false)[i]?=_;rw[List.getElem?_replicate,if_pos hi];have:=(i4 i hi).2;congr 1;exact (decide_eq_false<|show ¬c.Rp i=c.begun+1 by omega).symm
   .have:=i3 0 (by omega);show c.T 0 % 2=c.over % 2;rw[show c.T 0=c.over by omega]
  .have e1:rcs ⟨x.vc,v1,v2,c.T 0 % 2,x.cl,List.replicate n false,List.replicate n false⟩ { c with begun:=c.begun+1,least:=Inf }=[x.vc,v1,v2,Iw c.on0,Iw c.on1,Bt,Iw<|c.T 0 % 2,Iw Inf,Iw c.value,Iw c.over]:=by
    unfold rcs;rw[decide_eq_true (show c.over<c.begun+1 by omega)]
   rw[e1];exact h9
theorem ZY1 (x:RX) (c:Zan) (a y:Int):∃j:Nat,j<2/\a % 2=(j:Int)/\(rcs x c)[3+j*1]?=some (Iw<|c.on<|a % 2)/\wrL (rcs x c) (3+j*1) [Iw y]=rcs x (c.setOn (a % 2) y):=by
 rcases Int.emod_two_eq a with h | h
 .exact ⟨0,by omega,h,by rw[h];rfl,by rw[h];rfl⟩
 .exact ⟨1,by omega,h,by rw[h];rfl,by rw[h];rfl⟩
theorem ZZI {g n i:Nat} {c:Zan} {t:Int} (hi:i<n) (hv:Yu t=true) (hb:∀k,-1000000<=c.on k/\c.on k<=1000000) (hS:Sat e w<|ZYK g n c::R)
  (hk:∀w',Sat e w' (ZYK g n (c.sent i t)::R)->K (.tuple #[Iw<|c.T i % 2,Iw 0]) w'):Cl prog 108 #[pt g,Iw i,Iw t] w K:=by
 refine ZXM<|ZYn hS ?_;obtain ⟨x,hx,h0⟩:=ZY8 hS;rw[decide_eq_true (show 0<=(i:Int)/\(i:Int)<n from ⟨by omega,by omega⟩)];refine ZaJ<|Zj<|Ze<|ZXH ?_;rw[hv];refine Ze<|ZaJ<|Yd<|Zf<|Zh<|Za ?_;have h1:=h0.drew;obtain ⟨j,hj,hj2,hj3,hj4⟩:=ZY1 x c (c.T i)<|c.on (c.T i % 2)+1;have hbk:=hb<|c.T i % 2;refine Zb h1 0 rfl (v:=x.vc) rfl<|Qix h1 1 rfl (hx.hc i hi) λa ha=>Yt h1 1 rfl ha rfl<|Zh<|Za<|Zb h1 0 rfl (v:=x.vc) rfl<|Qix h1 1 rfl (hx.hc i hi) λa ha=>Yt h1 1 rfl ha rfl<|Zh<|Za ?_;rw[hj2];refine Zcb hj<|Zb h1 0 rfl hj3 ?_;rw[hj2] at hbk hj4 ⊢;refine Qadds (Zh<|Za<|Zcb hj<|Zq h1 0 rfl (vs:=[Iw<|c.on j+1]) rfl rfl (by rw[ZYA];omega) (by simp[flat]) hj4 λw2 h2=>?_)
 replace h2:Sat e w2 (blk g 114 (rcs x<|c.setOn j<|c.on j+1)::Zz 3 1 (Ye .i64) x.vc x.cl::Zz 4 1 bl x.vt x.tl::Zz 4 1 bl x.vr x.rl::R):=h2
 have hx2:Z1H n (c.setOn j<|c.on j+1) x:=hx.congr (Zan.setOn_n _ _ _) (Zan.setOn_over _ _ _) (Zan.setOn_begun _ _ _) (Zan.setOn_T _ _ _)<|Zan.setOn_Rp _ _ _;refine Zh<|Za<|Zb h2 0 rfl (v:=.bool<|decide<|(c.setOn j<|c.on j+1).over<(c.setOn j<|c.on j+1).begun) rfl ?_;rw[Zan.setOn_begun,Zan.setOn_over];have tail:∀w,Sat e w (ZYK g n (c.sent i t)::R)->ncP (pt g) (fld 0 (pt g) w λt65 w=>ld1 t65 w λt66 w=>
   ixS 1 t66 (Iw i) w λt68 w=>ld1 t68 w λt69 w=>K (Value.tuple #[t69,Iw 0]) w):=by
  intro w h;obtain ⟨y,hy,h3⟩:=ZY8 h;refine Zh<|Za<|Zb h3 0 rfl (v:=y.vc) rfl ?_;have hT:(c.sent i t).T=c.T:=by
   unfold Zan.sent;split
   .exact Zan.setOn_T _ _ _
   .exact Zan.setOn_T _ _ _
  have hyc:=hy.hc i hi;rw[hT] at hyc;exact Qix h3 1 rfl hyc λa ha=>Yt h3 1 rfl ha rfl<|hk _ h
 by_cases hu:c.over<c.begun
 .rw[decide_eq_true hu];refine Ze<|Ze<|Zh<|Ze<|Za<|Ze<|Zb h2 0 rfl (v:=x.vt) rfl<|Ze<|Ze<|Qix h2 2 rfl (hx.ht hu i hi) λa ha=>Ze<|Yt h2 2 rfl ha rfl ?_;by_cases ht:c.T i=c.begun
  .rw[decide_eq_true ht];refine Yv<|Zi<|Zh<|Za<|Zb h2 0 rfl (v:=Iw (c.setOn j<|c.on j+1).least) rfl<|Zty<|Zh<|Za<|Zq h2 0 rfl (vs:=[Iw<|min (c.setOn j<|c.on j+1).least t]) rfl rfl (by rw[ZYA];decide) (by simp[flat]) (cs':=rcs x { c.setOn j (c.on j+1) with least:=min (c.setOn j<|c.on j+1).least t }) rfl λw6 h6=>tail _ ?_;have e1:c.sent i t={ c.setOn j (c.on j+1) with least:=min (c.setOn j<|c.on j+1).least t }:=by
    unfold Zan.sent;rw[if_pos ⟨hu,ht⟩,hj2,Zan.setOn_least]
   rw[e1];exact ZZz (hx2.congr rfl rfl rfl rfl rfl) h6
  .rw[decide_eq_false ht];refine Yv<|Zf<|tail _ ?_;have e1:c.sent i t=c.setOn j (c.on j+1):=by
    unfold Zan.sent;rw[if_neg<|λh=>ht h.2,hj2]
   rw[e1];exact ZZz hx2 h2
 .rw[decide_eq_false hu];refine Zu<|Zu<|Zu<|Zu<|Zu<|Zu<|Zu<|Yd<|Zf<|tail _ ?_;have e1:c.sent i t=c.setOn j (c.on j+1):=by
   unfold Zan.sent;rw[if_neg<|λh=>hu h.1,hj2]
  rw[e1];exact ZZz hx2 h2
theorem ZZ8 {g n i:Nat} {c:Zan} {k:Int} (hi:i<n) (hb:∀k,-1000000<=c.on k/\c.on k<=1000000) (hS:Sat e w<|ZYK g n c::R)
  (hk:∀w',Sat e w' (ZYK g n (c.got k)::R)->K (Iw<|c.gotE k) w'):Cl prog 114 #[pt g,Iw i,Iw k] w K:=by
 refine ZXP<|ZYn hS ?_;obtain ⟨x,hx,h0⟩:=ZY8 hS;rw[decide_eq_true (show 0<=(i:Int)/\(i:Int)<n from ⟨by omega,by omega⟩)];refine ZaJ<|Zj<|Ze<|Za7 (λc1=>?_)<|λc1=>?_
 .refine Yd<|Zd<|Zd<|Yv<|Zd<|Zd<|Zd<|Zd<|Zd<|Zd<|Zd<|Yv<|Zi ?_;have hn:¬(0<=k/\k<=1):=by omega
  have e1:c.gotE k=1:=if_pos (.inl hn);have e2:c.got k=c:=if_pos (.inl hn);rw[e1,e2] at hk;exact hk _ hS
 refine Yd<|Zj<|Ze<|Ztu (λc2=>?_)<|λc2=>?_
 .refine Yd<|Zd<|Zd<|Zd<|Zd<|Zd<|Zd<|Zd<|Yv<|Zi ?_;have hn:¬(0<=k/\k<=1):=by omega
  have e1:c.gotE k=1:=if_pos (.inl hn);have e2:c.got k=c:=if_pos (.inl hn);rw[e1,e2] at hk;exact hk _ hS
 obtain ⟨j,hj,hj2,hj3,hj4⟩:=ZY1 x c k<|c.on (k % 2) - 1;have hkm:k % 2=k:=by omega
 rw[hkm] at hj2 hj3 hj4;have hbk:=hb k;refine Yd<|Zj<|Zj<|Ze<|Zh<|Ze<|Za<|Ze ?_;rw[hj2] at hj3 hj4 hbk ⊢;refine Zcb hj<|Zj<|Zb h0 0 rfl hj3 ?_;by_cases h00:c.on k=0
 .have e1:c.gotE k=1:=if_pos (.inr h00);have e2:c.got k=c:=if_pos (.inr h00);rw[e1,e2] at hk;rw[hj2] at h00;exact Ze<|Qeqt<|Yd<|Zi<|hk _ hS
 .have hn:¬(¬(0<=k/\k<=1)\/c.on k=0):=λh=>h.elim (λh=>by omega) h00;have e1:c.gotE k=0:=if_neg hn;have e2:c.got k=c.setOn k (c.on k - 1):=if_neg hn;rw[e1,e2,hj2] at hk;rw[hj2] at h00;refine Ze<|Qeqf<|Yd<|Zf<|Zh<|Za ?_;have h1:=h0.drew;refine Zcb hj<|Zb h1 0 rfl hj3<|Qsubs<|Zh<|Za<|Zcb hj<|Zq h1 0 rfl (vs:=[Iw<|c.on j - 1]) rfl rfl (by rw[ZYA];omega) (by simp[flat]) hj4 λw2 h2=>?_;exact hk _<|ZZz (hx.congr (Zan.setOn_n _ _ _) (Zan.setOn_over _ _ _) (Zan.setOn_begun _ _ _) (Zan.setOn_T _ _ _)<|Zan.setOn_Rp _ _ _) h2
theorem ZZ7 {α:Type} {l:List α} {i k:Nat} {a:α} (hi:i<l.length):(l.set i a)[k]?=if k=i then some a else l[k]?:=by
 rw[List.getElem?_set];by_cases h:i=k
 .subst h;simp[hi]
 .have:¬k=i:=λe=>h e.symm;simp[h,this]
theorem ZZ1 {g n i:Nat} {c:Zan} (hi:i<n) (hS:Sat e w<|ZYK g n c::R) (hk:∀w',Sat e w' (ZYK g n (c.turn i)::R)->K (Iw<|c.turnE i) w'):Cl prog 52 #[pt g,Iw i] w K:=by
 refine ZXG<|ZYn hS ?_;obtain ⟨x,hx,h0⟩:=ZY8 hS;rw[decide_eq_true (show 0<=(i:Int)/\(i:Int)<n from ⟨by omega,by omega⟩)];refine ZaJ<|Zf<|Zh<|Za<|Zb h0 0 rfl (v:=.bool<|decide<|c.over<c.begun) rfl ?_;by_cases hu:c.over<c.begun
 .rw[decide_eq_true hu];refine ZaJ<|Zj<|Ze<|Zh<|Ze<|Za<|Ze<|Zb h0 0 rfl (v:=x.vt) rfl<|Zj<|Ze<|Qix h0 2 rfl (hx.ht hu i hi) λa ha=>Zj<|Yt h0 2 rfl ha rfl ?_;by_cases ht:c.T i=c.begun
  .rw[decide_eq_true ht];obtain ⟨e1,e2⟩:=Zan.turn_no ht;rw[e1,e2] at hk;exact Yd<|Zi<|hk _ hS
  .rw[decide_eq_false ht];obtain ⟨e1,e2⟩:=Zan.turn_ok hu ht;rw[e1,e2] at hk;refine Yd<|Zf<|Zh<|Za<|Zb h0 0 rfl (v:=x.vt) rfl<|ZFt h0 2 rfl (λ_=>rfl) (by rw[hx.lt];exact hi) (x:=true) rfl (Z0P true) λw2 h2=>?_;have h3:=h2.drew;refine Zh<|Za<|Zb h3 0 rfl (v:=x.vc) rfl<|Zh<|Za<|Zb h3 0 rfl (v:=Iw x.old) rfl ?_;have hold:=hx.ho hu;refine Qsubs<|ZdJ h3 1 rfl (λ_=>rfl) (by rw[hx.lc];exact hi) (x:=1 - x.old) rfl (Z0E _) λw4 h4=>?_;obtain ⟨hn,inv,lc,lt,lr,hc,ht',hr,ho⟩:=hx;obtain ⟨i0,i1,i2,i3,i4⟩:=inv;refine hk _<|ZZz (x:={ x with tl:=x.tl.set i true,cl:=x.cl.set i (1 - x.old) }) ?_ h4;refine ⟨hn,⟨i0,i1,i2,λk hk=>?_,i4⟩,by simpa using lc,by simpa using lt,lr,λk hk=>?_,λhu k hk=>?_,hr,ho⟩
   .show _<=ZBt c.T i c.begun k/\ZBt c.T i c.begun k<=_;by_cases hki:k=i
    .subst hki;rw[ZYQ];exact ⟨by show c.over<=_;omega,Int.le_refl _⟩
    .rw[ZY4 _ _ hki];exact i3 k hk
   .show (x.cl.set i<|1 - x.old)[k]?=some (ZBt c.T i c.begun k % 2);rw[ZZ7 (by omega)];by_cases hki:k=i
    .subst hki;rw[ZYQ,if_pos rfl,hold];congr 1;omega
    .rw[ZY4 _ _ hki,if_neg hki];exact hc k hk
   .show (x.tl.set i true)[k]?=some (decide<|ZBt c.T i c.begun k=c.begun);rw[ZZ7 (by omega)];by_cases hki:k=i
    .subst hki;rw[ZYQ,if_pos rfl];simp
    .rw[ZY4 _ _ hki,if_neg hki];exact ht' hu k hk
 .rw[decide_eq_false hu];have e1:c.turnE i=130:=if_pos (.inl hu);have e2:c.turn i=c:=if_pos (.inl hu);rw[e1,e2] at hk;exact Zch<|Zd<|Zd<|Zd<|Zd<|Zd<|Zd<|Zd<|Yv<|Zi<|hk _ hS
theorem ZY3 {v:Value} {l:List Bool} {S:HP} (hS:Sat e w<|S::R) (hr:∀g,S g->rdS 1 bl v l g) (hl:l.length<=1000000) (hk:K (.bool<|l.all id) w):Cl prog 176 #[v] w K:=by
 refine ZYe<|Zdk (λm t3 w'=>∃j:Nat,j<=l.length/\t3=Iw j/\m=l.length - j/\w'=w/\(l.take j).all id=true) l.length ⟨0,Nat.zero_le _,rfl,rfl,rfl,rfl⟩ ?_;rintro m _ w' g ⟨j,hj,rfl,rfl,rfl,hall⟩ hg;refine Zt hS 0 rfl hr<|Za7 (λc=>Zi ?_)<|λc=>Zf ?_
 .obtain ⟨x,hx⟩:=Zk (l:=l) (j:=j) (by omega);refine Zw hS 0 rfl hr (λ_=>rfl) hx λa ha=>Yt hS 0 rfl ha rfl ?_;cases x with
  | true=>
   refine ZaJ<|Zf<|Qincs<|hg _ _ _ (by omega) ⟨j+1,by omega,rfl,rfl,rfl,?_⟩;rw[Zx hx,List.all_append,hall];rfl
  | false=>
   refine Zch<|Zi ?_;have:l.all id=false:=by
    rw[List.all_eq_false];exact ⟨false,List.mem_of_getElem? hx,by simp⟩
   rw[this] at hk;exact hk
 .have:j=l.length:=by omega
  rw[this,List.take_length] at hall;rw[hall] at hk;exact hk
theorem Z09 {n:Nat} {c:Zan} {l:List Bool} (p:Int->Int->Bool) (hn:c.n=n) (hl:l.length=n) (h:∀i,i<n->l[i]?=some (p (c.T i)<|c.Rp i)):l.all id=c.all p:=by
 cases hb:c.all p with
 | true=>
  rw[Zan.all_iff hn] at hb;rw[List.all_eq_true];intro x hx;obtain ⟨i,hi⟩:=List.mem_iff_getElem?.1 hx;have hil:i<n:=by rw[<-hl];exact (List.getElem?_eq_some_iff.1 hi).1
  rw[h i hil] at hi;cases hi;exact hb i hil
 | false=>
  cases ha:l.all id with
  | false=>rfl
  | true=>
   have:c.all p=true:=by
    rw[Zan.all_iff hn];intro j hj;have:=List.all_eq_true.1 ha _<|List.mem_of_getElem?<|h j hj;exact this
   rw[this] at hb;cases hb
theorem ZZc {g n i:Nat} {c:Zan} {t:Int} (hn8:n<=8) (hi:i<n) (hv:Yu t=true) (hbd:c.over<=1000000) (hS:Sat e w<|ZYK g n c::R)
  (h130:c.early i->∀w',Sat e w' (ZYK g n c::R)->K (Iw 130) w')
  (h150:¬c.early i->0<c.on (c.over % 2)->∀w',Sat e w' (ZYK g n c::R)->K (Iw 150) w')
  (h0:¬c.early i->¬0<c.on (c.over % 2)->∀w',Sat e w' (ZYK g n (c.rep1 i t).rep2::R)->K (Iw 0) w'):Cl prog 120 #[pt g,Iw i,Iw t] w K:=by
 refine ZXc<|ZYn hS ?_;obtain ⟨x,hx,h1⟩:=ZY8 hS;rw[decide_eq_true (show 0<=(i:Int)/\(i:Int)<n from ⟨by omega,by omega⟩)];refine ZaJ<|Zj<|Ze<|ZXH ?_;rw[hv];refine Ze<|ZaJ<|Yd<|Zf<|Zh<|Za<|Zb h1 0 rfl (v:=.bool<|decide<|c.over<c.begun) rfl ?_;by_cases hu:c.over<c.begun
 .rw[decide_eq_true hu];refine ZaJ<|Zj<|Ze<|Zh<|Ze<|Za<|Ze<|Zb h1 0 rfl (v:=x.vt) rfl<|Zj<|ZY3 (h1.pick 2 rfl) (λ_=>Zp) (by rw[hx.lt];omega) ?_;rw[Z09 (λt _=>decide<|t=c.begun) hx.hn hx.lt<|hx.ht hu];cases ha:c.all (λt _=>decide<|t=c.begun) with
  | false=>
   exact Ze (Zch<|Yd<|Zd<|Zd<|Zd<|Zd<|Zd<|Zd<|Zd<|Yv<|Zi<|h130 (.inr (.inl ha)) _ hS)
  | true=>
   refine Ze<|ZaJ<|Yd<|Zj<|Ze<|Zh<|Ze<|Za<|Ze<|Zb h1 0 rfl (v:=x.vr) rfl<|Zj<|Ze<|Qix h1 3 rfl (hx.hr hu i hi) λa hpa=>Zj<|Yt h1 3 rfl hpa rfl ?_;by_cases ht:c.Rp i=c.begun
   .rw[decide_eq_true ht];exact Yd<|Zi<|h130 (.inr (.inr ht)) _ hS
   .rw[decide_eq_false ht];have hne:¬c.early i:=by unfold Zan.early;rw[ha];simp[hu,ht]
    refine Yd<|Zf<|Zh<|Za ?_;have h5:=h1.drew;refine Zb h5 0 rfl (v:=Iw x.old) rfl ?_;rw[hx.ho hu];refine Zh<|Za ?_;obtain ⟨j,hj,hj2,hj3,_⟩:=ZY1 x c c.over 0;rw[hj2];refine Zcb hj (Zb h5 0 rfl hj3<|Ztu (λc5=>Zi<|h150 hne c5 _ hS.drew)<|λc5=>Zf ?_)
    replace h0:=h0 hne c5
    refine Zh<|Za<|Zb h5 0 rfl (v:=x.vr) rfl<|ZFt h5 3 rfl (λ_=>rfl) (by rw[hx.lr];exact hi) (x:=true) rfl (Z0P true) λw6 h6=>Zh<|Za<|Zb h6 0 rfl (v:=Iw c.least) rfl<|Zty<|Zh<|Za<|Zq h6 0 rfl (vs:=[Iw<|min c.least t]) rfl rfl (by rw[ZYA];decide) (by simp[flat]) (cs':=rcs { x with rl:=x.rl.set i true }<|c.rep1 i t) rfl λw7 h7=>?_;obtain ⟨hn,inv,lc,lt,lr,hc,ht',hr,ho⟩:=hx;obtain ⟨i0,i1,i2,i3,i4⟩:=inv;have hx1:Z1H n (c.rep1 i t) { x with rl:=x.rl.set i true }:=by
     refine ⟨hn,⟨i0,i1,i2,i3,λk hk=>?_⟩,lc,lt,by simpa using lr,hc,ht',λhu k hk=>?_,ho⟩
     .show 0<=ZBt c.Rp i c.begun k/\ZBt c.Rp i c.begun k<=_;by_cases hki:k=i
      .subst hki;rw[ZYQ];exact ⟨by omega,Int.le_refl _⟩
      .rw[ZY4 _ _ hki];exact i4 k hk
     .show (x.rl.set i true)[k]?=some (decide<|ZBt c.Rp i c.begun k=c.begun);rw[ZZ7 (by omega)];by_cases hki:k=i
      .subst hki;rw[ZYQ,if_pos rfl];simp
      .rw[ZY4 _ _ hki,if_neg hki];exact hr hu k hk
    replace h7:Sat e w7 (blk g 114 (rcs { x with rl:=x.rl.set i true }<|c.rep1 i t)::Zz 3 1 (Ye .i64) x.vc x.cl::Zz 4 1 bl x.vt x.tl::Zz 4 1 bl x.vr (x.rl.set i true)::R):=h7
    refine Zh<|Za<|Zb h7 0 rfl (v:=x.vr) rfl<|ZY3 (h7.pick 3 rfl) (λ_=>Zp) (by rw[List.length_set,lr];omega) ?_;rw[Z09 (c:=c.rep1 i t) (λ_ r=>decide<|r=c.begun) hn (by simpa using lr)<|hx1.hr hu];refine J0.cut (λw=>Sat e w<|ZYK g n (c.rep1 i t).rep2::R) (λk1 hcut=>?_)<|λw h=>h0 _ h;cases hb:(c.rep1 i t).all (λ_ r=>decide<|r=c.begun) with
    | false=>
     refine Zf<|hcut _ ?_;have:(c.rep1 i t).rep2=c.rep1 i t:=if_neg (by show ¬(c.rep1 i t).all (λ_ r=>decide<|r=c.begun)=true;rw[hb];decide);rw[this];exact ZZz hx1 h7
    | true=>
     have:(c.rep1 i t).rep2={ c.rep1 i t with over:=c.begun,value:=max c.value (min c.least t) }:=if_pos hb;rw[this] at hcut;refine Zi<|Zh<|Za<|Zq h7 0 rfl (vs:=[Bf]) rfl rfl (by rw[ZYA];decide) (by simp[flat]) rfl λw8 h8=>?_;have h9:=h8.drew;refine Zh<|Za<|Zb h9 0 rfl (v:=Iw c.value) rfl<|Zh<|Za<|Zb h9 0 rfl (v:=Iw<|min c.least t) rfl<|ZwQ<|Zh<|Za<|Zq h9 0 rfl (vs:=[Iw<|max c.value<|min c.least t]) rfl rfl (Nat.le_of_ble_eq_true rfl) (by simp[flat]) rfl λw10 h10=>?_;refine Zh<|Za<|Zb h10 0 rfl (v:=Iw c.over) rfl<|Qadds<|Zh<|Za<|Zq h10 0 rfl (vs:=[Iw<|c.over+1]) rfl rfl (Nat.le_of_ble_eq_true rfl) (by simp[flat]) rfl λw11 h11=>?_;have hbo:c.begun=c.over+1:=by omega
     have hno:¬(Zan.over { c.rep1 i t with over:=c.begun,value:=max c.value (min c.least t) })<Zan.begun { c.rep1 i t with over:=c.begun,value:=max c.value (min c.least t) }:=Int.lt_irrefl _;refine hcut _<|ZZz (x:={ x with rl:=x.rl.set i true }) ?_ ?_
     .refine ⟨hn,⟨by show 0<=c.begun;omega,Int.le_refl _,by show c.begun<=c.begun+1;omega,λk hk=>?_,hx1.inv.hR⟩,lc,lt,hx1.lr,hc,λh=>absurd h hno,λh=>absurd h hno,λh=>absurd h hno⟩;have:=(Zan.all_iff hn _).1 ha k hk;have:=of_decide_eq_true this;exact ⟨Int.le_of_eq this.symm,Int.le_of_eq this⟩
     .have e1:rcs { x with rl:=x.rl.set i true } { c.rep1 i t with over:=c.begun,value:=max c.value (min c.least t) }=[x.vc,x.vt,x.vr,Iw c.on0,Iw c.on1,Bf,Iw x.old,Iw<|min c.least t,Iw<|max c.value<|min c.least t,Iw<|c.over+1]:=by
       unfold rcs;rw[decide_eq_false hno];show [x.vc,x.vt,x.vr,Iw c.on0,Iw c.on1,Bf,Iw x.old,Iw<|min c.least t,Iw<|max c.value<|min c.least t,Iw c.begun]=_;rw[hbo]
      rw[e1];exact h11
 .rw[decide_eq_false hu];exact Zch<|Zd<|Zd<|Zd<|Zd<|Zd<|Zd<|Yv<|Zd<|Zd<|Zd<|Zd<|Zd<|Zd<|Zd<|Yv<|Zi<|h130 (.inl hu) _ hS
end Go.Proofs.YtceipnkeijhebaaGreat
end
section
namespace Go.Proofs.YtceipnkeijhebaaGreat
open Go Go.E
set_option maxRecDepth 100000
variable {e w:World} {L Q:List HP} {K:KV} {S S2:HP}
structure ZMF where
 st:Int
 sent:Int
 lv:Value
 log:List Zak
def ZMF.cs (f:ZMF):List Value:=[Iw f.st,Iw f.sent,f.lv]
def ZMF.a (f:ZMF):FA:=⟨f.st,f.sent,f.log⟩
end Go.Proofs.YtceipnkeijhebaaGreat
namespace Go.Proofs.YtceipnkeijhebaaGreat
open Go Go.E
set_option maxRecDepth 100000
variable {e w:World} {L Q:List HP} {K:KV} {S S2:HP}
end Go.Proofs.YtceipnkeijhebaaGreat
namespace Go.Proofs.YtceipnkeijhebaaGreat
open Go Go.E
set_option maxRecDepth 100000
variable {e w:World} {L Q:List HP} {K:KV} {S S2:HP}
end Go.Proofs.YtceipnkeijhebaaGreat
namespace Go.Proofs.YtceipnkeijhebaaGreat
open Go Go.E
set_option maxRecDepth 100000
variable {e w:World} {L Q:List HP} {K:KV} {S S2:HP}
def w0:Wd:=⟨[-1],[⟨0,1,0,[],[0],[],[⟨0,4,2⟩]⟩,⟨0,1,3,[],[],[0],[]⟩],9⟩
theorem MLt.time {a b:Msg} (h:MLt a b):a.key.T<=b.key.T:=by
 rcases h with h | h
 .unfold Zv at h;omega
 .rw[h.1];omega
end Go.Proofs.YtceipnkeijhebaaGreat
namespace Go.Proofs.YtceipnkeijhebaaGreat
open Go Go.E
set_option maxRecDepth 100000
variable {e w:World} {L Q:List HP} {K:KV} {S S2:HP}
end Go.Proofs.YtceipnkeijhebaaGreat
namespace Go.Proofs.YtceipnkeijhebaaGreat
open Go Go.E
set_option maxRecDepth 100000
variable {e w:World} {L Q:List HP} {K:KV} {S S2:HP}
end Go.Proofs.YtceipnkeijhebaaGreat
end
section
namespace Go.Proofs.YtceipnkeijhebaaGreat
open Go Go.E
set_option maxRecDepth 100000
variable {e w:World} {L R:List HP} {K:KV} {S S2:HP}
theorem ZK2 {v:Value} {ps:List Int} {a:Int} (i:Nat) (hi:L[i]?=some S) (hS:Sat e w L) (hr:∀g,S g->rdS 1 (Ye .i64) v ps g) (ht:ZkT ps) (ha:0<=a/\a<ps.length)
  (hk:∀v w',Sat e w' (Zz 3 1 (Ye .i64) v (ZsD ps a)::L)->K v w'):Cl prog 192 #[v,Iw a] w K:=by
 refine ZJW ?_;unfold ZJL;refine Zw3 hS (Ye .i64) λv0 w1 h1=>?_;have hi1:∀X:HP,(X::L)[i+1]?=some S:=λX=>by simpa using hi
 refine ZKD (i+1) (hi1 _) h1 hr ?_;have htE:ZhY ps=0:=by unfold ZhY;exact if_pos ht
 rw[htE];refine ZoP rfl<|Zj<|Zj<|Qltf<|Yd<|Zj<|Zj<|Zj<|Zt h1 (i+1) (hi1 _) hr<|Zj<|Qgef<|Yd<|Zf ?_;have hpl:=ht.2.1;refine ZjF (λq t1 t5 w=>∃(z:Int) (acc:List Int),t1=Iw z/\q=(z+1).toNat/\-1<=z/\z<ps.length/\acc.length+(z+1).toNat<=17/\(∃n:Nat,z<n/\acc++upL ps n z=ZsD ps a)/\Sat e w (Zz 3 1 (Ye .i64) t5 acc::L)) (a+1).toNat
  ⟨a,[],rfl,rfl,by omega,ha.2,by simp;omega,⟨a.toNat+1,by omega,rfl⟩,h1⟩ ?_
 rintro q _ t5 w g ⟨z,acc,rfl,rfl,hz1,hzl,hacc,⟨n,hzn,heq⟩,h2⟩ hg;refine Zu5 (λc1=>Zi ?_)<|λc1=>Zf ?_
 .obtain ⟨m,rfl⟩:∃m,n=m+1:=⟨n - 1,by omega⟩;rw[Zse,if_neg (by omega)] at heq;obtain ⟨y,hy⟩:=Zk (l:=ps) (j:=z.toNat) (by omega);have hzN:z=((z.toNat:Nat):Int):=by omega
  have hp:=ht.2.2 z.toNat y hy;have hgd:ps.getD z.toNat (-1)=y:=by rw[List.getD_eq_getElem?_getD,hy];rfl
  rw[hgd] at heq;refine Zj7 Zvs (f:=Ye .i64) (λ_=>rfl) (λ_ _ h=>by simp[Ye] at h;subst h;rfl) h2 (x:=z) rfl (by omega) λv' w8 h8=>?_;rw[show Iw z=Iw ((z.toNat:Nat):Int) from by rw[<-hzN]];refine Zw h8 (i+1) (hi1 _) hr (λ_=>rfl) hy λq hq=>Yt h8 (i+1) (hi1 _) hq (v:=Iw y) rfl<|hg (y+1).toNat _ _ _ (by omega) ⟨y,acc++[z],rfl,rfl,by omega,by omega,by rw[List.length_append,List.length_singleton];omega,⟨m,by omega,?_⟩,h8⟩;rw[List.append_assoc];exact heq
 .rw[Zza ps (by omega),List.append_nil] at heq;refine hk _ _ ?_;rw[<-heq];exact h2
theorem ZLg (ps:List Int) (c:Int) (f:Fed):Zl1 ps c f=(ZsD ps c).any λs=>decide (s∈f.Subs):=by
 unfold Zl1;rw[Bool.eq_iff_iff,List.any_eq_true,List.any_eq_true];constructor
 .rintro ⟨s,h1,h2⟩;exact ⟨s,of_decide_eq_true h2,decide_eq_true h1⟩
 .rintro ⟨s,h1,h2⟩;exact ⟨s,of_decide_eq_true h2,decide_eq_true h1⟩
theorem ZLA (ps:List Int):∀(n:Nat) (a:Int),(upL ps n a).length<=n
 | 0,_=>Nat.le_refl _
 | n+1,a=>by
  rw[Zse];split
  .simp
  .have:=ZLA ps n<|ps.getD a.toNat (-1);rw[List.length_cons];omega
theorem ZKR {x:WdX} {f c:Int} (i:Nat) (hi:L[i]?=some S) (hS:Sat e w L) (hr:∀g,S g->ZtG x g) (hs:x.short) (ht:ZkT x.Parents) (hc:0<=c/\c<x.Parents.length)
  (hk:∀v w',Sat e w' (Zz 3 1 (Ye .i64) v (Zba x.w.Parents f c x.w.Feds)::L)->K v w'):Cl prog 146 #[.agg x.cs.toArray,Iw f,Iw c] w K:=by
 refine ZJQ ?_;unfold ZJz;refine Yp (cs:=x.cs) hS rfl λb w1 h1=>Za<|Zb h1 0 rfl (v:=x.pv) rfl<|ZK2 (i+1) hi h1 (λ_ h=>(hr _ h).par) ht hc λav w2 h2=>?_;have hal:(ZsD x.Parents c).length<=1000:=by
  have h3:=ZLA x.Parents (c.toNat+1) c;have h4:=ht.2.1;unfold ZsD;omega
 have hab:=λf=>ZLg x.Parents c f;generalize ZsD x.Parents c=ab at h2 hal hab;refine Zw3 h2 (Ye .i64) λv0 w3 h3=>?_;have hfl:=hs.feds;refine ZjF (λq t7 t13 w=>∃j:Nat,j<=x.Feds.length/\t13=Iw j/\q=x.Feds.length - j/\Sat e w (Zz 3 1 (Ye .i64) t7 (Zba x.Parents f c<|(x.Feds.take j).map Zao.f)::Zz 3 1 (Ye .i64) av ab::blk b 25 x.cs::L)) x.Feds.length
  ⟨0,Nat.zero_le _,rfl,rfl,h3⟩ ?_
 rintro q t7 _ w g ⟨j,hj,rfl,rfl,h4⟩ hg;have hi3:(Zz 3 1 (Ye .i64) t7 (Zba x.Parents f c<|(x.Feds.take j).map Zao.f)::Zz 3 1 (Ye .i64) av ab::blk b 25 x.cs::L)[i+3]?=some S:=hi;refine Za<|Zb h4 2 rfl (v:=x.fv) rfl<|Zt h4 (i+3) hi3 (λ_ h=>(hr _ h).feds)<|Za7 (λc0=>Zi ?_)<|λc0=>Zf ?_
 .obtain ⟨fd,hf⟩:=Zk (l:=x.Feds) (j:=j) (by omega);have hfm:=List.mem_of_getElem? hf;have hlen:((x.Feds.take j).map Zao.f).length=j:=by rw[List.length_map,List.length_take];omega
  have hsn:Zba x.Parents f c ((x.Feds.take<|j+1).map Zao.f)=Zba x.Parents f c ((x.Feds.take j).map Zao.f)++if (j:Int)≠f/\Zl1 x.Parents c fd.f=true then [(j:Int)] else []:=by
   rw[Zx hf,List.map_append,List.map_singleton,ZpM,hlen]
  have hrl:=ZhD x.Parents f c<|(x.Feds.take j).map Zao.f;rw[hlen] at hrl;refine J1.cut (λt7 w=>Sat e w<|Zz 3 1 (Ye .i64) t7 (Zba x.Parents f c<|(x.Feds.take<|j+1).map Zao.f)::Zz 3 1 (Ye .i64) av ab::blk b 25 x.cs::L) (λk2 hcut=>?_)<|λt7 w h5=>?_
  .rw[hsn,hab] at hcut;refine ZjF (λq t10 t11 w=>∃n:Nat,n<=ab.length/\t11=Iw n/\q=ab.length - n/\t10=.bool ((ab.take n).any λs=>decide<|s∈fd.f.Subs)/\Sat e w (Zz 3 1 (Ye .i64) t7 (Zba x.Parents f c<|(x.Feds.take j).map Zao.f)::Zz 3 1 (Ye .i64) av ab::blk b 25 x.cs::L)) ab.length
    ⟨0,Nat.zero_le _,rfl,rfl,by simp,h4⟩ ?_
   rintro q _ _ w g2 ⟨n,hn,rfl,rfl,rfl,h5⟩ hg2;refine Qln h5 1 rfl<|Za7 (λc1=>Zi ?_)<|λc1=>Zf ?_
   .obtain ⟨s,hsn2⟩:=Zk (l:=ab) (j:=n) (by omega);refine ZaY h5 λw6 h6=>?_;have hgo:∀w',Sat e w' (Zz 3 1 (Ye .i64) t7 (Zba x.Parents f c<|(x.Feds.take j).map Zao.f)::Zz 3 1 (Ye .i64) av ab::blk b 25 x.cs::L)->bi .add .i64 (Iw n) (Iw 1) w' λt29 w=>g2 [.bool<|(ab.take<|n+1).any λs=>decide<|s∈fd.f.Subs,t29] w:=λw' h'=>by
     exact Qincs<|hg2 _ _ _ _ (by omega) ⟨n+1,by omega,rfl,rfl,rfl,h'⟩
    have hst:((ab.take<|n+1).any λs=>decide<|s∈fd.f.Subs)=(((ab.take n).any λs=>decide<|s∈fd.f.Subs) || decide (s∈fd.f.Subs)):=by
     rw[Zx hsn2,List.any_append];simp
    rw[hst] at hgo;cases hb:(ab.take n).any λs=>decide (s∈fd.f.Subs) with
    | true=>
     rw[hb] at hgo;exact Zd (Zd<|Zd<|Zd<|Zd<|Zd<|Zd<|Zd<|Zd<|Zd<|Zd<|Yv<|hgo _ h6)
    | false=>
     rw[hb] at hgo;exact Zj<|Za<|Zj<|Zb h6 2 rfl (v:=x.fv) rfl<|Zj<|Zj<|Zw h6 (i+3) hi3 (λ_ h=>(hr _ h).feds) (λ_=>rfl) hf λa ha=>Zj<|Zbd ha λa1 ha1=>Zj<|Yt h6 (i+3) hi3 ha1 (v:=fd.sv) rfl<|Zj<|Zj<|Zj<|Qix h6 1 rfl hsn2 λa ha=>Zj<|Yt h6 1 rfl ha (v:=Iw s) rfl<|Zj<|ZKB (i+3) hi3 h6 (λg hg=>((hr g hg).fed fd hfm).subs) (by have:=(hs.fed fd hfm).subs;omega)<|Yd<|hgo _ h6
   .have en:n=ab.length:=by omega
    rw[en,List.take_length];have hskip:¬((j:Int)≠f/\(ab.any λs=>decide<|s∈fd.f.Subs)=true)->k2 t7 w:=λh=>by
     rw[if_neg h,List.append_nil] at hcut;exact hcut _ _ h5
    refine ZrP (λc2=>?_)<|λc2=>?_
    .refine Ze ?_;cases hb:ab.any λs=>decide (s∈fd.f.Subs) with
     | true=>
      refine Yv<|Zi<|Zj7 Zvs (f:=Ye .i64) (λ_=>rfl) (λ_ _ h=>by simp[Ye] at h;subst h;rfl) h5 (x:=(j:Int)) rfl (by omega) λv' w8 h8=>?_;refine hcut _ _ ?_;rw[if_pos ⟨c2,hb⟩];exact h8
     | false=>
      refine Yv<|Zf<|hskip λh=>?_;rw[hb] at h;cases h.2
    .exact Zu<|Yd<|Zf<|hskip λh=>h.1 c2
  .exact Qincs<|hg _ _ _ _ (by omega) ⟨j+1,by omega,rfl,rfl,h5⟩
 .have ej:j=x.Feds.length:=by omega
  rw[ej,List.take_length] at h4;exact hk _ _<|h4.sn 3 [0]
theorem ZK7 {f seq now body:Int} {o:Out} (hS:Sat e w L) (hk:∀w',Sat e w' L->K (.agg (Zim f seq now body o).cs.toArray) w') :
  Cl prog 145 #[Iw f,Iw seq,Iw now,Iw body,.agg o.cs.toArray] w K:=by
 refine ZJ8 ?_;unfold ZJS;refine Yp (cs:=o.cs) hS rfl λt9 w1 h1=>?_;rw[ZOc];refine Yp (cs:=Msg.zero.cs) h1 rfl λt10 w2 h2=>Zwn (by decide) ?_;obtain ⟨k1,a1,a2,a3⟩:=ZFK body;generalize hr1:body.tmod 1000=r1 at a1 a2 a3;refine Za<|Zb h2 1 rfl (v:=Iw o.Add) rfl<|Zwn (by decide) ?_;obtain ⟨k2,b1,b2,b3⟩:=ZFK o.Add;generalize hr2:o.Add.tmod 1000=r2 at b1 b2 b3;refine Qadds<|Zwn (by decide) ?_;obtain ⟨k3,c1,c2,c3⟩:=ZFK<|r1+r2;generalize hr3:(r1+r2).tmod 1000=r3 at c1 c2 c3;refine Qadds<|ZaY h2 λw3 h3=>Za<|Zb h3 1 rfl (v:=Iw o.Delay) rfl<|Za<|Zb h3 1 rfl (v:=Iw o.Class) rfl<|Zwn (by decide) ?_;rw[Int.tmod_eq_emod_of_nonneg (by omega)];refine ZLe ?_;have oC:ld1 (.pointer<|some ⟨t9,0+0,none⟩) w3 (λv' w''=>v'=Iw o.Class/\w''=w3):=Zb h3 1 rfl (v:=Iw o.Class) rfl ⟨rfl,rfl⟩;refine ⟨oC,Zaf (Yi [ZvS now o.Delay,f,seq]) (by kernel_rfl) ⟨oC,?_⟩⟩;rw[show (r3+1000) % 1000=(body+o.Add) % 1000 from by omega];refine Zaf (Zim f seq now body o).cs (by kernel_rfl) ?_;refine Zq h3 0 rfl (vs:=(Zim f seq now body o).cs) rfl rfl (by simp[Yi,Msg.ns,Msg.zero]) (Zg _) (cs':=(Zim f seq now body o).cs) (by rfl) λw4 h4=>?_;refine Zo h4 0 (vs:=(Zim f seq now body o).cs) rfl (by rfl) rfl ?_;exact hk _ h4.drop.drop
theorem ZKz {x:WdX} {f seq now body:Int} {v:Value} {outs:List Out} (i k:Nat) (hi:L[i]?=some S) (hk2:L[k]?=some S2) (hS:Sat e w L) (hr:∀g,S g->ZtG x g) (hr2:∀g,S2 g->rdS 3 Out.cs v outs g) (hs:x.short) (ht:ZkT x.Parents)
  (ho:∀o∈outs,Zpq x.Parents.length o) (hl:outs.length<=1000) (hq:0<=seq/\seq<=1125899906842624)
  (hk:∀v w',Sat e w' (Zz 85 6 Msg.cs v (Zau x.w.Parents x.w.Feds f seq now body outs)::L)->K v w'):Cl prog 85 #[.agg x.cs.toArray,Iw f,Iw seq,Iw now,Iw body,v] w K:=by
 refine ZJP ?_;unfold ZJA;refine Yp (cs:=x.cs) hS rfl λb w1 h1=>?_;have hi1:(blk b 25 x.cs::L)[i+1]?=some S:=hi;have hk1:(blk b 25 x.cs::L)[k+1]?=some S2:=hk2;have hfl:=hs.feds;rw[ZOc];refine Zw3 h1 Msg.cs λv0 w1b h1b=>?_;have hflat:=ZoI i hi hS hr;refine ZjF (λq t13 t21 w=>∃j:Nat,j<=outs.length/\t21=Iw j/\q=outs.length - j/\Sat e w (Zz 85 6 Msg.cs t13 (Zau x.w.Parents x.w.Feds f seq now body<|outs.take j)::blk b 25 x.cs::L)) outs.length
  ⟨0,Nat.zero_le _,rfl,rfl,h1b⟩ ?_
 rintro q t13 _ w g ⟨j,hj,rfl,rfl,h2⟩ hg;refine Zt h2 (k+2) hk2 hr2<|Za7 (λc0=>Zi ?_)<|λc0=>Zf ?_
 .obtain ⟨o,hoj⟩:=Zk (l:=outs) (j:=j) (by omega);obtain ⟨o1,o2,o3⟩:=ho o<|List.mem_of_getElem? hoj;have hlen:(outs.take j).length=j:=by rw[List.length_take];omega
  have hsn:Zau x.w.Parents x.w.Feds f seq now body (outs.take<|j+1)=Zau x.w.Parents x.w.Feds f seq now body (outs.take j)++(Zba x.w.Parents f o.Class x.w.Feds).map λto=>{ Zim f (seq+j) now body o with To:=to }:=by
   rw[Zx hoj,ZpO,hlen]
  have hsl:=ZcU x.w.Parents x.w.Feds f seq now body<|outs.take j;have hfl2:x.w.Feds.length<=1000:=by simp only[WdX.w,List.length_map];exact hfl
  rw[hlen] at hsl;have hsl2:j*x.w.Feds.length<=1000*1000:=Nat.mul_le_mul (by omega) hfl2;have hi2:(Zz 85 6 Msg.cs t13 (Zau x.w.Parents x.w.Feds f seq now body<|outs.take j)::blk b 25 x.cs::L)[i+2]?=some S:=hi;have hk3:(Zz 85 6 Msg.cs t13 (Zau x.w.Parents x.w.Feds f seq now body<|outs.take j)::blk b 25 x.cs::L)[k+2]?=some S2:=hk2;refine Qadds<|Zw h2 (k+2) hk3 hr2 (λ_=>rfl) hoj λa ha=>Ym h2 (k+2) hk3 ha rfl<|ZK7 h2 λw5 h5=>Yp (cs:=Msg.zero.cs) h5 rfl λtm w6 h6=>?_;generalize hm:Zim f (seq+j) now body o=m at hsn h6 ⊢;have hmc:m.Class=o.Class:=by rw[<-hm];rfl
  refine Zq h6 0 rfl (vs:=m.cs) rfl rfl (by decide) (Zg _) (cs':=m.cs) (by rfl) λw7 h7=>?_;refine Zo h7 2 (vs:=x.cs) rfl (by rfl) rfl ?_;refine Za<|Zb h7 0 rfl (v:=Iw m.Class) rfl ?_;rw[hmc];refine ZKR (x:=x) (i+3) hi h7 hr hs ht ⟨o1,o2⟩ λtv w8 h8=>?_;generalize hrt:Zba x.w.Parents f o.Class x.w.Feds=rt at hsn h8 ⊢;have hrtl:rt.length<=1000:=by rw[<-hrt];exact Nat.le_trans (ZhD _ _ _ _) hfl2
  refine ZjF (λq t13 t40 w=>∃(n:Nat) (m':Msg),n<=rt.length/\t40=Iw n/\q=rt.length - n/\(∀to,{ m' with To:=to }={ m with To:=to })/\
    Sat e w (Zz 85 6 Msg.cs t13 (Zau x.w.Parents x.w.Feds f seq now body (outs.take j)++(rt.take n).map λto=>{ m with To:=to })::Zz 3 1 (Ye .i64) tv rt::blk tm 85 m'.cs::blk b 25 x.cs::L)) rt.length
   ⟨0,m,Nat.zero_le _,rfl,rfl,λ_=>rfl,by simpa using h8.sn 4 [2,0,1,3]⟩ ?_
  rintro q t13' _ w g2 ⟨n,m',hn,rfl,rfl,hmm,h9⟩ hg2;refine Qln h9 1 rfl<|Za7 (λc1=>Zi ?_)<|λc1=>Zf ?_
  .obtain ⟨to,hto⟩:=Zk (l:=rt) (j:=n) (by omega);refine Qix h9 1 rfl hto λa ha=>Yt h9 1 rfl ha (v:=Iw to) rfl<|Za<|Zq h9 2 rfl (vs:=Yi [to]) rfl rfl (Nat.le_of_ble_eq_true rfl) (Zg _) (cs':=({ m' with To:=to }:Msg).cs) (by rfl) λw10 h10=>?_;refine Zo h10 2 (vs:=({ m' with To:=to }:Msg).cs) rfl (by rfl) rfl ?_;refine Zj7 ZYs (f:=Msg.cs) (λ_=>rfl) (λ_=>Zg _) h10 (x:={ m' with To:=to }) rfl (by rw[List.length_append,List.length_map,List.length_take];omega) λv' w11 h11=>?_;refine Qincs<|hg2 _ _ _ _ (by omega) ⟨n+1,{ m' with To:=to },by omega,rfl,rfl,λto'=>hmm to',?_⟩;rw[Zx hto,List.map_append,<-List.append_assoc,List.map_singleton,<-hmm to];exact h11
  .have en:n=rt.length:=by omega
   rw[en,List.take_length,<-hsn] at h9;exact Qincs<|hg _ _ _ _ (by omega) ⟨j+1,by omega,rfl,rfl,h9.sn 4 [0,3]⟩
 .have ej:j=outs.length:=by omega
  rw[ej,List.take_length] at h2;exact hk _ _<|h2.sn 2 [0]
theorem ZKU {x:WdX} (i:Nat) (hi:L[i]?=some S) (hS:Sat e w L) (hr:∀g,S g->ZtG x g) (hs:x.short) (ht:ZkT x.Parents) (hf8:x.Feds.length<=8)
  (ho:∀f∈x.Feds,f.Init.length<=4/\∀o∈f.Init,Zpq x.Parents.length o)
  (hk:∀v w',Sat e w' (Zz 85 6 Msg.cs v (Zaz x.w.Parents x.w.Feds x.w.Feds)::L)->(Zaz x.w.Parents x.w.Feds x.w.Feds).length<=1000->K v w'):Cl prog 36 #[.agg x.cs.toArray] w K:=by
 refine ZJO ?_;unfold ZJB;refine Yp (cs:=x.cs) hS rfl λb w1 h1=>?_;have hi1:(blk b 25 x.cs::L)[i+1]?=some S:=hi;refine Zw3 h1 Msg.cs λv0 w1b h1b=>?_;have hflen:x.w.Feds.length=x.Feds.length:=by simp[WdX.w]
 refine ZjF (λq t3 t9 w=>∃j:Nat,j<=x.Feds.length/\t9=Iw j/\q=x.Feds.length - j/\(Zaz x.w.Parents x.w.Feds<|(x.Feds.take j).map Zao.f).length<=j*32/\
   Sat e w (Zz 85 6 Msg.cs t3 (Zaz x.w.Parents x.w.Feds<|(x.Feds.take j).map Zao.f)::blk b 25 x.cs::L)) x.Feds.length
  ⟨0,Nat.zero_le _,rfl,rfl,by simp[Zaz],h1b⟩ ?_
 rintro q t3 _ w g ⟨j,hj,rfl,rfl,hb,h2⟩ hg;have hi2:(Zz 85 6 Msg.cs t3 (Zaz x.w.Parents x.w.Feds<|(x.Feds.take j).map Zao.f)::blk b 25 x.cs::L)[i+2]?=some S:=hi;refine Za<|Zb h2 1 rfl (v:=x.fv) rfl<|Zt h2 (i+2) hi2 (λ_ h=>(hr _ h).feds)<|Za7 (λc0=>Zi ?_)<|λc0=>Zf ?_
 .obtain ⟨fd,hf⟩:=Zk (l:=x.Feds) (j:=j) (by omega);have hfm:=List.mem_of_getElem? hf;obtain ⟨ho1,ho2⟩:=ho fd hfm;have hlen:((x.Feds.take j).map Zao.f).length=j:=by rw[List.length_map,List.length_take];omega
  have hsn:Zaz x.w.Parents x.w.Feds ((x.Feds.take<|j+1).map Zao.f)=Zaz x.w.Parents x.w.Feds ((x.Feds.take j).map Zao.f)++Zau x.w.Parents x.w.Feds (j:Int) 0 0 0 fd.Init:=by
   rw[Zx hf,List.map_append,List.map_singleton,Zkw,hlen];rfl
  have hsl:=ZcU x.w.Parents x.w.Feds (j:Int) 0 0 0 fd.Init;have hsl2:fd.Init.length*x.w.Feds.length<=4*8:=Nat.mul_le_mul ho1 (by rw[hflen];exact hf8);refine ZaY h2 λw6 h6=>Zo h6 1 (vs:=x.cs) rfl (by rfl) rfl ?_;refine Za<|Zb h6 1 rfl (v:=x.fv) rfl<|Zw h6 (i+2) hi2 (λ_ h=>(hr _ h).feds) (λ_=>rfl) hf λa ha=>Zbd ha λa1 ha1=>Yt h6 (i+2) hi2 ha1 (v:=fd.iv) rfl<|ZKz (x:=x) (outs:=fd.Init) (i+2) (i+2) hi2 hi2 h6 hr (λg hg=>((hr g hg).fed fd hfm).init) hs ht ho2 (by omega) (by decide) λmv w7 h7=>?_;have h8:=h7.sn 3 [1,0,2];refine Zeo ZYs ZYP (f:=Msg.cs) (λ_=>rfl) (λ_=>Zg _) h8 (λ_=>Zp) (by omega) λv2 w9 h9=>?_;refine Qincs<|hg _ _ _ _ (by omega) ⟨j+1,by omega,rfl,rfl,?_,?_⟩
  .rw[hsn,List.length_append];omega
  .rw[hsn];exact h9.sn 3 [0,2]
 .have ej:j=x.Feds.length:=by omega
  rw[ej,List.take_length] at h2 hb;exact hk _ _ (h2.sn 2 [0])<|Nat.le_trans hb (by omega)
theorem ZLd {v:Value} {l:List Yg} {s c:Int} (hS:Sat e w<|S::R) (hr:∀g,S g->Zew v l g) (hl:l.length<=1000) (hl2:∀r∈l,r.Sends.length<=1000)
  (hk:∀v' w',Sat e w' (Zz 133 3 Out.cs v' (ZbY (l.map Yg.r) s c).2::S::R)->K (.tuple #[Iw (ZbY (l.map Yg.r) s c).1,v']) w'):Cl prog 159 #[v,Iw s,Iw c] w K:=by
 refine ZKd<|ZKI 0 rfl hS (λ_ h=>(hr _ h).s) (by omega) (λhno=>?_)<|λj r hj hon hlo=>?_
 .rw[Ztc hno] at hk;exact Qltt<|Zi<|hk _ _<|hS.own_nil 133 3 Out.cs
 .rw[Ztq hj hon hlo] at hk;have hrm:=List.mem_of_getElem? hj;refine Qltf<|Zf<|Zw3 hS Out.cs λv0 w1 h1=>ZaY h1 λw2 h2=>Zw h2 1 rfl (λ_ h=>(hr _ h).s) (λ_=>rfl) hj λa ha=>Zbd ha λa1 ha1=>Yt h2 1 rfl ha1 (v:=Iw r.Next) rfl<|Zw h2 1 rfl (λ_ h=>(hr _ h).s) (λ_=>rfl) hj λa2 ha2=>Zbd ha2 λa3 ha3=>Yt h2 1 rfl ha3 (v:=r.sv) rfl<|Zcs ZRB ZQM (f:=Out.cs) (m:=r.Sends) (λ_=>rfl) (λ_ _=>Zg _) h2 (λ_ h=>(hr _ h).e r hrm) (by have:=hl2 r hrm;simp;omega) λv' w6 h6=>?_;rw[List.nil_append] at h6;exact ⟨Yt h6 1 rfl ha1 (v:=Iw r.Next) rfl ⟨rfl,rfl⟩,hk _ _ h6⟩
end Go.Proofs.YtceipnkeijhebaaGreat
namespace Go.Proofs.YtceipnkeijhebaaGreat
open Go Go.E
set_option maxRecDepth 100000
variable {e w:World} {L Q:List HP} {K:KV} {S S2:HP}
end Go.Proofs.YtceipnkeijhebaaGreat
namespace Go.Proofs.YtceipnkeijhebaaGreat
open Go Go.E
set_option maxRecDepth 100000
variable {e w:World} {L Q:List HP} {K:KV} {S S2:HP}
theorem Sat.unpick {X:HP} {l:List HP} (i:Nat) (hi:l[i]?=some S) (h:Sat e w<|X::S::l.eraseIdx i):Sat e w (X::l):=h.perm<|List.Perm.cons X (ZfR l i S hi).symm
end Go.Proofs.YtceipnkeijhebaaGreat
end
section
namespace Go.Proofs.YtceipnkeijhebaaGreat
open Go Go.E
set_option maxRecDepth 100000
variable {e w:World} {R:List HP} {K:KV}
def ZWe (g:Nat) (c:Clk):HP:=hex λv:Value=>Yh [blk g 231 [v,Iw c.self,Iw c.told],Zz 3 1 (Ye .i64) v c.L]
theorem Z0c {n:Nat} {self:Int} (h1:1<=n) (h2:n<=8) (h3:0<=self) (h4:self<n) (hS:Sat e w R)
  (hk:∀g w',Sat e w' (ZWe g ⟨List.replicate n 0,self,0⟩::R)->K (.tuple #[pt g,Iw 0]) w'):Cl prog 81 #[Iw n,Iw self] w K:=by
 refine ZM0 ?_;unfold ZMR;refine Qltf<|Zj<|Ze<|Qgtf<|Yd<|Zj<|Ze<|Qltf<|Yd<|Zj<|Zj<|Ze<|Qgef<|Yd<|Zf<|Zyg Zvs (by omega) hS (Ye .i64) (λ_=>rfl) 0 (by rw[Zr6];rfl) λv w1 h1=>?_;obtain ⟨A,c,rfl,_⟩:=h1.shape 0 rfl<|λ_=>Zp;rw[Z1o];refine Zaf [.slice A (List.replicate n (0:Int)).length c,Iw self,Iw 0] (by rfl) ?_;exact Yp (cs:=[.slice A (List.replicate n (0:Int)).length c,Iw self,Iw 0]) h1 rfl λg w2 h2=>hk _ _ (.mk_ex _ (.join (l':=[_,_]) h2))
theorem ZZm {g:Nat} {c:Clk} {j:Int} (hS:Sat e w<|ZWe g c::R) (hk:∀w',Sat e w' (ZWe g c::R)->K (Iw<|c.at' j) w'):Cl prog 166 #[pt g,Iw j] w K:=by
 obtain ⟨v,h0⟩:=hS.ex;have h1:=h0.split
 replace hk:=hk _ hS
 refine ZXl ?_;unfold ZWt;unfold Clk.at' at hk;by_cases ho:c.okJ j
 .rw[if_pos ho] at hk;obtain ⟨o1,o2,o3⟩:=ho;refine Qltf<|Zj<|Zj<|Ze<|Zh<|Ze<|Za<|Ze<|Zb h1 0 rfl rfl<|Ze<|Qln h1 1 rfl<|Ze<|Qgef<|Yd<|Zj<|Zj<|Ze<|Zh<|Ze<|Za<|Ze<|Zb h1 0 rfl rfl<|Ze<|Qeqf<|Yd<|Zf<|Zh<|Za<|Zb h1 0 rfl rfl ?_;obtain ⟨n,rfl⟩:∃n:Nat,j=n:=⟨j.toNat,by omega⟩;obtain ⟨x,hx⟩:=Zk (l:=c.L) (j:=n) (by omega);refine Qix h1 1 rfl hx λa ha=>Yt h1 1 rfl ha rfl ?_;have:c.get n=x:=by unfold Clk.get;rw[List.getD_eq_getElem?_getD,Int.toNat_natCast,hx];rfl
  rw[this] at hk;exact hk
 .rw[if_neg ho] at hk;refine Za7 (λc1=>?_)<|λc1=>?_
  .exact Zd<|Zd<|Zd<|Zd<|Zd<|Zd<|Zd<|Yv<|Zd<|Zd<|Zd<|Zd<|Zd<|Zd<|Yv<|Zi hk
  .refine Zj<|Zj<|Ze<|Zh<|Ze<|Za<|Ze<|Zb h1 0 rfl rfl<|Ze<|Qln h1 1 rfl<|Ze<|Zu5 (λc2=>?_)<|λc2=>?_
   .exact Yd<|Zd<|Zd<|Zd<|Zd<|Zd<|Zd<|Yv<|Zi hk
   .have:j=c.self:=by
     by_cases h:j=c.self
     .exact h
     .exact absurd ⟨by omega,by omega,h⟩ ho
    exact Yd<|Zj<|Zj<|Ze<|Zh<|Ze<|Za<|Ze<|Zb h1 0 rfl rfl<|Ze<|Qeqt<|Yd<|Zi hk
theorem ZZS {g:Nat} {c:Clk} {j t:Int} (hS:Sat e w<|ZWe g c::R) (hk:∀w',Sat e w' (ZWe g (c.hear j t)::R)->K (Iw<|c.hearE j t) w'):Cl prog 165 #[pt g,Iw j,Iw t] w K:=by
 obtain ⟨v,h0⟩:=hS.ex;have h1:=h0.split;refine ZWV ?_;unfold ZVU;by_cases ho:c.okJ j
 .obtain ⟨o1,o2,o3⟩:=ho;refine Qltf<|Zj<|Zj<|Ze<|Zh<|Ze<|Za<|Ze<|Zb h1 0 rfl rfl<|Ze<|Qln h1 1 rfl<|Ze<|Qgef<|Yd<|Zj<|Zj<|Ze<|Zh<|Ze<|Za<|Ze<|Zb h1 0 rfl rfl<|Ze<|Qeqf<|Yd<|Zj<|Ze<|ZXH ?_;cases hv:Yu t with
  | false=>
   rw[Clk.hear_bad<|Or.inr hv,Clk.hearE_bad<|Or.inr hv] at hk;exact Ze (Zch<|Yd<|Zi<|hk _ hS)
  | true=>
   refine Ze<|ZaJ<|Yd<|Zf<|Zh<|Za<|Zb h1 0 rfl rfl ?_;obtain ⟨n,rfl⟩:∃n:Nat,j=n:=⟨j.toNat,by omega⟩;obtain ⟨x,hx⟩:=Zk (l:=c.L) (j:=n) (by omega);have hgx:c.get n=x:=by unfold Clk.get;rw[List.getD_eq_getElem?_getD,Int.toNat_natCast,hx];rfl
   refine Qix h1 1 rfl hx λa ha=>Yt h1 1 rfl ha rfl<|Za7 (λc1=>?_)<|λc1=>?_
   .rw[Clk.hear_early ⟨o1,o2,o3⟩ hv (by rw[hgx];exact c1),Clk.hearE_early ⟨o1,o2,o3⟩ hv (by rw[hgx];exact c1)] at hk;exact Zi<|hk _ hS
   .rw[Clk.hear_ok ⟨o1,o2,o3⟩ hv (by rw[hgx];exact c1),Clk.hearE_ok ⟨o1,o2,o3⟩ hv (by rw[hgx];exact c1)] at hk;refine Zf<|Zh<|Za<|Zb h1 0 rfl rfl ?_;obtain ⟨b,cp,cs,hv2,hcl,hcp,hct,h2⟩:=h1.own_open 1 rfl (by omega);subst hv2;refine Zu3 (by omega) ?_;have hb2:n*1<cs.length:=by rw[hcl];omega
    refine Zq h2 1 rfl (vs:=[Iw t]) rfl rfl (by simp;omega) (by simp[flat]) rfl λw3 h3=>?_;rw[Int.toNat_natCast] at hk;refine hk _ (.mk_ex (.slice (some ⟨b,0,none⟩) c.L.length cp) (.join (l':=[_,_]) ?_));have h4:Sat e w3 (blk b 3 (wrL cs (0+n*1) [Iw t])::blk g 231 [.slice (some ⟨b,0,none⟩) c.L.length cp,Iw c.self,Iw c.told]::R):=Sat.swap h3;refine (h4.imp λg hg=>Zt2 (f:=Ye .i64) (x:=t) (λ_=>rfl) hcl hcp hct (by omega:n<c.L.length) (by rw[Nat.zero_add];rfl) hg).swap
 .rw[Clk.hear_bad<|Or.inl ho,Clk.hearE_bad<|Or.inl ho] at hk;refine Za7 (λc1=>?_)<|λc1=>?_
  .exact Zd<|Zd<|Zd<|Zd<|Zd<|Zd<|Zd<|Yv<|Zd<|Zd<|Zd<|Zd<|Zd<|Zd<|Yv<|Zd<|Zd<|Zd<|Yv<|Zi<|hk _ hS
  .refine Zj<|Zj<|Ze<|Zh<|Ze<|Za<|Ze<|Zb h1 0 rfl rfl<|Ze<|Qln h1 1 rfl<|Ze<|Zu5 (λc2=>?_)<|λc2=>?_
   .exact Yd<|Zd<|Zd<|Zd<|Zd<|Zd<|Zd<|Yv<|Zd<|Zd<|Zd<|Yv<|Zi<|hk _ hS
   .have:j=c.self:=by
     by_cases h:j=c.self
     .exact h
     .exact absurd ⟨by omega,by omega,h⟩ ho
    exact Yd<|Zj<|Zj<|Ze<|Zh<|Ze<|Za<|Ze<|Zb h1 0 rfl rfl<|Ze<|Qeqt<|Yd<|Zd<|Zd<|Zd<|Yv<|Zi<|hk _ hS
theorem ZYx {g:Nat} {c:Clk} (hl:c.L.length<=1000000) (hS:Sat e w<|ZWe g c::R) (hk:∀w',Sat e w' (ZWe g c::R)->K (Iw c.bound) w'):Cl prog 208 #[pt g] w K:=by
 obtain ⟨v,h0⟩:=hS.ex;have h1:=h0.split
 replace hk:=hk _ hS
 refine ZWC<|ZjF (λn t3 t4 w'=>∃j:Nat,w=w'/\j<=c.L.length/\t4=Iw j/\t3=Iw (c.upTo j)/\n=c.L.length - j) c.L.length ⟨0,rfl,Nat.zero_le _,rfl,rfl,rfl⟩ ?_;rintro n _ _ _ g1 ⟨j,rfl,hj,rfl,rfl,rfl⟩ hg;refine Zh<|Za<|Zb h1 0 rfl rfl<|Qln h1 1 rfl<|Za7 (λc1=>Zi ?_)<|λc1=>Zf ?_
 .refine J1.cut (λx w'=>w=w'/\x=Iw (c.upTo<|j+1)) (λk2 hcut=>?_) ?_
  .refine Zh<|Za<|Zb h1 0 rfl rfl<|ZrP (λc2=>Zi ?_)<|λc2=>Zf<|hcut _ _ ⟨rfl,?_⟩
   .refine Zh<|Za<|Zb h1 0 rfl rfl ?_;obtain ⟨x,hx⟩:=Zk (l:=c.L) (j:=j) (by omega);refine Qix h1 1 rfl hx λa ha=>Yt h1 1 rfl ha rfl<|Zty<|hcut _ _ ⟨rfl,?_⟩;rw[c.upTo_succ,if_neg c2];have hgx:c.get j=x:=by unfold Clk.get;rw[List.getD_eq_getElem?_getD,Int.toNat_natCast,hx];rfl
    rw[hgx]
   .rw[c.upTo_succ,if_pos c2]
  .rintro _ _ ⟨rfl,rfl⟩;exact Qincs<|hg _ _ _ _ (by omega) ⟨j+1,rfl,by omega,rfl,rfl,rfl⟩
 .obtain rfl:j=c.L.length:=by omega
  exact hk
theorem ZZG {g:Nat} {c:Clk} {first look:Int} (hl:c.L.length<=1000000) (hS:Sat e w<|ZWe g c::R) (hk:∀w',Sat e w' (ZWe g (c.tell first look)::R)->K (.tuple #[Iw (c.tell first look).told,.bool<|c.tellB first look]) w') :
  Cl prog 174 #[pt g,Iw first,Iw look] w K:=by
 refine ZWY<|ZYx hl hS λw1 h1=>Zfk [Iw first,Iw c.bound] h1 (by rw[Zr6];kernel_rfl) λb w2 h2=>?_;refine ZX9 (l:=[first,c.bound]) h2 (Zbx (size:=1) (f:=Ye .i64) [first,c.bound] rfl<|Nat.le_refl _) (by simp) λw3 h3=>?_;refine ZLe ?_;obtain ⟨v,h0⟩:=h3.drop.ex;have h4:=h0.split;refine Zh<|Za<|Zb h4 0 rfl rfl<|ZFH (λc1=>?_)<|λc1=>?_
 .refine Zi<|Zh<|Za<|Zb h4 0 rfl rfl ?_;have h5:c.tell first look=c:=if_pos c1
  have h6:c.tellB first look=false:=decide_eq_false (show ¬c.told<c.tellT first look from by have:c.tellT first look<=c.told:=c1;omega)
  rw[h5,h6] at hk;exact hk _ h3.drop
 .have h5:c.tell first look=⟨c.L,c.self,c.tellT first look⟩:=if_neg c1
  have h6:c.tellB first look=true:=decide_eq_true (show c.told<c.tellT first look from by have:¬c.tellT first look<=c.told:=c1;omega)
  rw[h5,h6] at hk;refine Zf<|Zh<|Za<|Zq h4 0 rfl (vs:=[Iw<|c.tellT first look]) rfl rfl (by simp) (by simp[flat]) (cs':=[v,Iw c.self,Iw<|c.tellT first look]) (by rfl) λw5 h5=>?_;exact hk _ (.mk_ex v (.join (l':=[_,_]) h5))
variable {L Q:List HP} {S S2:HP}
abbrev DER (v:Value) (xs:List EnX):HP:=Zz 251 10 EnX.cs v xs
abbrev PB (p:Nat) (fl:Int) (lv:Value):HP:=blk p 205 [Iw fl,lv]
def ZVv (p:Nat) (fl:Int) (l:List En):HP:=hex λv:PV=>Yh [pur<|v.xs.map EnX.e=l/\ZkM l,PB p fl v.lv,DER v.lv v.xs,Yh<|v.xs.map ZcP]
theorem ZWq {p:Nat} {fl:Int} {l:List En} (h:Sat e w<|ZVv p fl l::R):∃lv xs,(xs.map EnX.e=l/\ZkM l)/\Sat e w (PB p fl lv::DER lv xs::Yh (xs.map ZcP)::R):=by
 obtain ⟨v,h0⟩:=h.ex;exact ⟨v.lv,v.xs,Sat.pure h0.split⟩
theorem ZYv {p:Nat} {fl:Int} {l:List En} {lv:Value} {xs:List EnX} (hp:xs.map EnX.e=l/\ZkM l) (h:Sat e w<|PB p fl lv::DER lv xs::Yh (xs.map ZcP)::R):Sat e w (ZVv p fl l::R):=
 .mk_ex ⟨lv,xs⟩ (.join (l':=[_,_,_,_]) (.mk_pure hp h))
def Z0q (v:Value) (l:List En):HP:=hex λxs:List EnX=>Yh [pur<|xs.map EnX.e=l,DER v xs,Yh<|xs.map ZcP]
theorem Z03 {v:Value} {l:List En} (h:Sat e w<|Z0q v l::R):∃xs,xs.map EnX.e=l/\Sat e w (DER v xs::Yh (xs.map ZcP)::R):=by
 obtain ⟨xs,h0⟩:=h.ex;exact ⟨xs,Sat.pure h0.split⟩
theorem Z0Z {v:Value} {xs:List EnX} (h:Sat e w<|DER v xs::Yh (xs.map ZcP)::R):Sat e w (Z0q v (xs.map EnX.e)::R):=.mk_ex xs (.join (l':=[_,_,_]) (.mk_pure rfl h))
theorem Z0g (hS:Sat e w R) (hk:∀p w',Sat e w' (ZVv p 0 []::R)->K (pt p) w'):Cl prog 83 #[] w K:=by
 refine ZM4 ?_;unfold ZMU;refine Zaf [Iw 0,Sn] (by kernel_rfl) ?_;refine Yp (cs:=[Iw 0,Sn]) hS rfl λp w1 h1=>hk p _<|ZYv (lv:=Sn) (xs:=[]) ⟨rfl,.nil,by simp,by simp⟩ ?_;have h2:Sat e w1 (Yh []::PB p 0 Sn::R):=Sat.join (l':=[]) h1;have h3:=h2.own_nil 251 10 EnX.cs;exact h3.sn 3 [2,0,1]
theorem Z1z {p b:Nat} {fl:Int} {lv:Value} {xs:List EnX} {x:EnX} {F:Value->World->Prop} (h2:∀y,xs.getLast?=some y->Zv y.m.key x.m.key) (hS:Sat e w<|blk b 251 x.cs::PB p fl lv::DER lv xs::Q) (hl:xs.length<=1000) (hk:∀w',Sat e w' (blk b 251 x.cs::PB p fl lv::DER lv xs::Q)->F Bf w') :
  bi .gtr .i64 (Iw (xs.length:Int)) (Iw 0) w λt22 _=>
  gd t22 true (λk=>k (pt p) w) w λt24 _=>
  gd t22 true (λk=>nc t24 w k) w λt25 _=>
  gd t22 true (λk=>fld 1 t25 w k) w λt26 _=>
  gd t22 true (λk=>ld1 t26 w k) w λt27 _=>
  gd t22 true (λk=>k (Iw (xs.length:Int)) w) w λt28 _=>
  gd t22 true (λk=>bi .sub .i64 t28 (Iw 1) w k) w λt29 _=>
  gd t22 true (λk=>ixS 10 t27 t29 w k) w λt30 _=>
  gd t22 true (λk=>fld 0 t30 w k) w λt31 _=>
  gd t22 true (λk=>fld 0 t31 w k) w λt32 _=>
  gd t22 true (λk=>ldN 3 t32 w k) w λt33 _=>
  gd t22 true (λk=>fld 0 (pt b) w k) w λt34 _=>
  gd t22 true (λk=>fld 0 t34 w k) w λt35 _=>
  gd t22 true (λk=>ldN 3 t35 w k) w λt36 _=>
  gd t22 true (λk=>Cl prog 204 #[t33,t36] w k) w λt37 w=>
  gd t22 true (λk=>bi .geq .i64 t37 (Iw 0) w k) w λt38 _=>
  pk t22 t38 Bf w λt39 _=>F t39 w:=by
 refine Ztu (λc=>?_)<|λc=>?_
 .obtain ⟨y,hy⟩:=Zk (l:=xs) (j:=xs.length - 1) (by omega);have hlast:xs.getLast?=some y:=by rw[List.getLast?_eq_getElem?];exact hy
  refine Ze (Ze<|Zwz<|Ze<|Za<|Ze<|Zb hS 1 rfl (v:=lv) rfl<|Ze<|Ze<|Qsubs ?_) ;rw[show (xs.length:Int) - 1=((xs.length - 1:Nat):Int) from by omega];refine Ze<|Qix hS 2 rfl hy λa ha=>Ze<|Zbd ha λa1 ha1=>Ze<|Zbd ha1 λa2 ha2=>Ze<|Zn0 hS 2 rfl ha2 (us:=y.m.key.cs) rfl rfl<|Ze<|Za<|Ze<|Za<|Ze<|Zo hS 0 (vs:=x.m.key.cs) rfl (by rfl) rfl<|Ze<|ZLj hS λw2 h3=>?_;have hlt:=Zav.2<|h2 y hlast;exact Ze<|Qgef<|Yv<|hk _ h3
 .exact Zu<|Zu<|Zu<|Zu<|Zu<|Zu<|Zu<|Zu<|Zu<|Zu<|Zu<|Zu<|Zu<|Zu<|Zu<|Yd<|hk _ hS
theorem ZZF {p:Nat} {fl:Int} {lv:Value} {xs:List EnX} {x:EnX} (hov:flat x.ov=true) (hfx:∀y∈xs,flat y.ov=true) (h1:¬x.m.key.T<fl) (h2:∀y,xs.getLast?=some y->Zv y.m.key x.m.key) (h3:xs.length<64)
  (hS:Sat e w<|PB p fl lv::DER lv xs::Q) (hk:∀lv' w',Sat e w' (PB p fl lv'::DER lv' (xs++[x])::Q)->K (Iw 0) w'):Cl prog 161 #[pt p,.agg x.cs.toArray] w K:=by
 refine ZXr ?_;unfold ZWi;refine Yp (cs:=x.cs) hS rfl λb w1 h4=>ZaY h4 λw2 h5=>Za<|Za<|Za<|Zb h5 0 rfl (v:=Iw x.m.key.T) rfl<|Zh<|Za<|Zb h5 1 rfl (v:=Iw fl) rfl<|Ze7 h1<|Zf<|Zh<|Za<|Zb h5 1 rfl (v:=lv) rfl<|Qln h5 2 rfl<|ZaY h5 λw3 h6=>Z1z h2 h6 (by omega) λw4 h7=>?_;refine Zf<|Qgef<|Zf<|Zw3 h7 EnX.cs λv42 w5 h8=>Zh<|Za<|Zb h8 2 rfl (v:=lv) rfl<|Zcs ZZh ZZh.und (f:=EnX.cs) (m:=xs) (λ_=>rfl) (λy hy=>EnX.flat<|hfx y hy) (h8.sn 4 [0,3,1,2]) (λ_=>Zp) (by simp;omega) λv48 w6 h9=>?_;rw[List.nil_append] at h9;refine Zo h9 2 (vs:=x.cs) rfl (by rfl) rfl ?_;refine ZwC (vs:=x.cs) rfl rfl h9 λbb w7 h10=>Zcs ZZh ZZh.und (f:=EnX.cs) (m:=[x]) (λ_=>rfl) (λy hy c hc=>by rw[List.mem_singleton.1 hy] at hc;exact EnX.flat hov c hc) h10.swap (Zfu (f:=EnX.cs) (x:=x)<|Nat.le_refl _) (by simp;omega) λlv' w8 h11=>?_;have q1:=h11.own_cells 0 rfl;refine Zh<|Za<|Zq h11 4 rfl (vs:=[lv']) q1.1 rfl (Nat.le_of_ble_eq_true rfl) (λc hc=>by rw[List.mem_singleton.1 hc];exact q1.2) (cs':=[Iw fl,lv']) (by rfl) λw9 h12=>?_;exact hk lv' _<|h12.sn 5 [4,0]
theorem ZZL {α:Type} {p:α->Bool}:∀{l:List α},(l.Pairwise λa b=>p b=true->p a=true)->l.filter p++l.filter (λx=>!p x)=l
 | [],_=>rfl
 | a::l,h=>by
  obtain ⟨h1,h2⟩:=List.pairwise_cons.1 h;have ih:=ZZL h2;cases hp:p a with
  | true=>rw[List.filter_cons_of_pos hp,List.filter_cons_of_neg (by rw[hp];decide),List.cons_append,ih]
  | false=>
   have h3:l.filter p=[]:=List.filter_eq_nil_iff.2 λx hx hpx=>by rw[h1 x hx hpx] at hp;cases hp
   have h4:l.filter (λx=>!p x)=l:=by rw[h3,List.nil_append] at ih;exact ih
   rw[List.filter_cons_of_neg (by rw[hp];decide),List.filter_cons_of_pos (by rw[hp];rfl),h3,h4];rfl
theorem Z0m {v y:Value} {xs:List EnX} {x:EnX} {zero:Array Value} (hx:flat x.ov=true) (hl:xs.length<=1000) (hy:y.cells.toList=x.cs) (hS:Sat e w<|DER v xs::Q) (hk:∀v' w',Sat e w' (DER v' (xs++[x])::Q)->K v' w') :
  bsl 251 10 1 zero [(0,y)] w λt w=>apS prog #[203,203] 203 v t w K:=by
 refine ZwC (vs:=x.cs) hy rfl hS λbb w7 h10=>Zcs ZZh ZZh.und (f:=EnX.cs) (m:=[x]) (λ_=>rfl) (λy hy c hc=>by rw[List.mem_singleton.1 hy] at hc;exact EnX.flat hx c hc) h10.swap (Zfu (f:=EnX.cs) (x:=x)<|Nat.le_refl _) (by simp;omega) λlv' w8 h11=>?_;exact hk _ _<|h11.swap.drop
theorem ZZR {p:Nat} {fl:Int} {l:List En} {k:Key} (hS:Sat e w<|ZVv p fl l::Q) (hk:∀v w',Sat e w' (Z0q v (Zqh k l).reverse::ZVv p fl (Zmb k l)::Q)->K v w') :
  Cl prog 206 #[pt p,.agg k.cs.toArray] w K:=by
 refine ZXx ?_;unfold ZWn;obtain ⟨lv,xs,hp,h0⟩:=ZWq hS;have hxl:xs.length<=64:=by have:=hp.2.len;rw[<-hp.1,List.length_map] at this;exact this
 have hfl:∀x∈xs,flat x.ov=true:=λx hx=>ZlV 2 h0 rfl hx;obtain ⟨P,hP⟩:∃P:EnX->Bool,P=λx=>decide (Zv x.m.key k):=⟨_,rfl⟩;have hPk:∀x:EnX,P x=decide (Zv x.m.key k):=λx=>by rw[hP]
 have hup:xs.Pairwise λa b=>Zv a.m.key b.m.key:=by
  have h1:=hp.2.up;rw[<-hp.1] at h1;have h2:=List.pairwise_map.1 h1;exact h2
 have hparts:xs.filter P++xs.filter (λx=>!P x)=xs:=ZZL (hup.imp λ{a b} hab hb=>by
  rw[hPk,decide_eq_true_iff] at*;exact hab.trans hb)
 have ef:xs.map EnX.e=l:=hp.1;have ek:(xs.filter P).map EnX.e=Zmb k l:=by rw[<-ef,hP];unfold Zmb;rw[List.filter_map];rfl
 have eg:(xs.filter λx=>!P x).map EnX.e=Zqh k l:=by rw[<-ef,hP];unfold Zqh;rw[List.filter_map];rfl
 refine Yp (cs:=k.cs) h0 rfl λb w1 h1=>Zw3 h1 EnX.cs λt9 w2 h2=>Zw3 h2 EnX.cs λt10 w3 h3=>ZjF (λq t6 t7 w=>∃j:Nat,j<=xs.length/\t7=Iw j/\q=xs.length - j/\Sat e w (DER t6 ((xs.take j).filter P)::DER t9 []::blk b 83 k.cs::PB p fl lv::DER lv xs::Yh (xs.map ZcP)::Q)) xs.length ⟨0,Nat.zero_le _,rfl,rfl,h3⟩ ?_;rintro q t6 _ w g1 ⟨j,hj,rfl,rfl,h4⟩ hg;refine Zh<|Za<|Zb h4 3 rfl (v:=lv) rfl<|Qln h4 4 rfl<|Za7 (λc=>Zi ?_)<|λc=>Zf ?_
 .obtain ⟨x,hx⟩:=Zk (l:=xs) (j:=j) (by omega);have hfil:((xs.take j).filter P).length<=64:=Nat.le_trans (List.length_filter_le _ _) (by rw[List.length_take];omega);refine J1.cut (λt6 w=>Sat e w<|DER t6 ((xs.take<|j+1).filter P)::DER t9 []::blk b 83 k.cs::PB p fl lv::DER lv xs::Yh (xs.map ZcP)::Q) (λk2 hcut=>?_)<|λt6 w h6=>?_
  .rw[ZVZ hx] at hcut;refine ZaY h4 λw4 h5=>Zh<|Za<|Zb h5 3 rfl (v:=lv) rfl<|Qix h5 4 rfl hx λa ha=>Zbd ha λa1 ha1=>Zbd ha1 λa2 ha2=>Zn0 h5 4 rfl ha2 (us:=x.m.key.cs) rfl rfl<|Zo h5 2 (vs:=k.cs) rfl (by rfl) rfl ?_;refine ZLj h5 λw5 h6=>Za7 (λc2=>Zi ?_)<|λc2=>Zf ?_
   .rw[show P x=true from by rw[hPk];exact decide_eq_true<|Zav.1 c2] at hcut;refine Zh<|Za<|Zb h6 3 rfl (v:=lv) rfl<|Qix h6 4 rfl hx λa ha=>Ym h6 4 rfl ha rfl<|Z0m (x:=x) (hfl x<|List.mem_of_getElem? hx) (by omega) rfl h6 λv' w7 h7=>?_;exact hcut _ _ h7
   .rw[show P x=false from by rw[hPk];exact decide_eq_false λh=>c2<|Zav.2 h] at hcut;refine hcut _ _ ?_;rw[if_neg (by decide),List.append_nil];exact h6
  .exact Qincs<|hg _ _ _ _ (by omega) ⟨j+1,by omega,rfl,rfl,h6⟩
 .obtain rfl:j=xs.length:=by omega
  rw[List.take_length] at h4;obtain ⟨m,hm⟩:∃m,m=(xs.filter P).length:=⟨_,rfl⟩;have hml:m<=xs.length:=by rw[hm];exact List.length_filter_le _ _
  have hdrop:xs.drop m=xs.filter λx=>!P x:=by
   conv=>lhs;rw[<-hparts]
   rw[hm,List.drop_left]
  refine Zh<|Za<|Zb h4 3 rfl (v:=lv) rfl<|Qln h4 4 rfl<|Qsubs ?_;refine ZjF (λq t5 t8 w=>∃i:Nat,m<=i/\i<=xs.length/\t8=Iw ((i:Int) - 1)/\q=i/\Sat e w (DER t5 (xs.drop i).reverse::DER t6 (xs.filter P)::blk b 83 k.cs::PB p fl lv::DER lv xs::Yh (xs.map ZcP)::Q)) xs.length
   ⟨xs.length,hml,Nat.le_refl _,rfl,rfl,by rw[List.drop_length];exact h4.swap⟩ ?_
  rintro q t5 _ w g3 ⟨i,hi1,hi2,rfl,hq,h5⟩ hg3;refine Qln h5 1 rfl<|Zu5 (λc1=>Zi ?_)<|λc1=>Zf ?_
  .obtain ⟨i',rfl⟩:∃i',i=i'+1:=⟨i - 1,by omega⟩;obtain ⟨x,hx⟩:=Zk (l:=xs) (j:=i') (by omega);rw[show ((i'+1:Nat):Int) - 1=(i':Int) from by omega] at c1 ⊢;refine Zh<|Za<|Zb h5 3 rfl (v:=lv) rfl<|Qix h5 4 rfl hx λa ha=>Ym h5 4 rfl ha rfl<|Z0m (x:=x) (hfl x<|List.mem_of_getElem? hx) (by rw[List.length_reverse,List.length_drop];omega) rfl h5 λv' w7 h7=>?_;refine Qsubs<|hg3 _ _ _ _ (by omega) ⟨i',by omega,by omega,rfl,rfl,?_⟩;rw[Zaq hx,List.reverse_cons];exact h7
  .obtain rfl:i=m:=by omega
   have q3:=h5.own_cells 1 rfl;refine Zh (Za<|Zq h5 3 rfl (vs:=[t6]) q3.1 rfl (Nat.le_of_ble_eq_true rfl) (λc hc=>by rw[List.mem_singleton.1 hc];exact q3.2) (cs':=[Iw fl,t6]) (by rfl) λw5 h6=>?_)
   replace h6:Sat e w5 (DER t5 (xs.drop i).reverse::DER t6 (xs.filter P)::blk b 83 k.cs::PB p fl t6::DER lv xs::Yh (xs.map ZcP)::Q):=h6
   rw[hdrop] at h6;rw[show xs.map ZcP=(xs.filter P).map ZcP++(xs.filter λx=>!P x).map ZcP from by rw[<-List.map_append,hparts]] at h6;have h7:=Zne<|h6.pick 5 rfl;have h8:=Zt0 (b:=(xs.filter λx=>!P x).reverse.map ZcP) (by rw[List.map_reverse];exact (List.reverse_perm _).symm) h7.swap
   replace h8:Sat e w5 (Yh ((xs.filter λx=>!P x).reverse.map ZcP)::Yh ((xs.filter P).map ZcP)::DER t5 (xs.filter λx=>!P x).reverse::DER t6 (xs.filter P)::blk b 83 k.cs::PB p fl t6::DER lv xs::Q):=h8
   have h9:=ZYv (fl:=fl) (lv:=t6) (xs:=xs.filter P) (l:=Zmb k l) ⟨ek,hp.2.sub List.filter_sublist⟩<|h8.sn 7 [5,3,1,2,0];have h10:=Z0Z (v:=t5) (xs:=(xs.filter λx=>!P x).reverse)<|h9.sn 3 [1,2,0];rw[show (xs.filter λx=>!P x).reverse.map EnX.e=(Zqh k l).reverse from by rw[List.map_reverse,eg]] at h10;exact hk _ _ h10
theorem ZZd {p:Nat} {fl:Int} {l:List En} {t:Int} (hS:Sat e w<|ZVv p fl l::Q) (hk:∀v w',Sat e w' (Z0q v (Zx0 t l)::ZVv p (max fl t) (ZzN t l)::Q)->K v w') :
  Cl prog 178 #[pt p,Iw t] w K:=by
 refine ZWX ?_;unfold ZVV;obtain ⟨lv,xs,hp,h0⟩:=ZWq hS;have hxl:xs.length<=64:=by have:=hp.2.len;rw[<-hp.1,List.length_map] at this;exact this
 have hfl:∀x∈xs,flat x.ov=true:=λx hx=>ZlV 2 h0 rfl hx;obtain ⟨P,hP⟩:∃P:EnX->Bool,P=λx=>decide (x.m.key.T<t):=⟨_,rfl⟩;have hPk:∀x:EnX,P x=decide (x.m.key.T<t):=λx=>by rw[hP]
 have ef:xs.map EnX.e=l:=hp.1;have ek:(xs.filter P).map EnX.e=Zx0 t l:=by rw[<-ef,hP];unfold Zx0;rw[List.filter_map];rfl
 have eg:(xs.filter λx=>!P x).map EnX.e=ZzN t l:=by rw[<-ef,hP];unfold ZzN;rw[List.filter_map];rfl
 refine Zw3 h0 EnX.cs λt8 w2 h2=>Zw3 h2 EnX.cs λt9 w3 h3=>ZIw (λq t5 t6 t7 w=>∃j:Nat,j<=xs.length/\t7=Iw j/\q=xs.length - j/\Sat e w (DER t6 ((xs.take j).filter λx=>!P x)::DER t5 ((xs.take j).filter P)::PB p fl lv::DER lv xs::Yh (xs.map ZcP)::Q)) xs.length ⟨0,Nat.zero_le _,rfl,rfl,h3⟩ ?_;rintro q t5 t6 _ w g1 ⟨j,hj,rfl,rfl,h4⟩ hg;refine Zh<|Za<|Zb h4 2 rfl (v:=lv) rfl<|Qln h4 3 rfl<|Za7 (λc=>Zi ?_)<|λc=>Zf ?_
 .obtain ⟨x,hx⟩:=Zk (l:=xs) (j:=j) (by omega);have hfil:((xs.take j).filter P).length<=64:=Nat.le_trans (List.length_filter_le _ _) (by rw[List.length_take];omega);have hfil2:((xs.take j).filter λx=>!P x).length<=64:=Nat.le_trans (List.length_filter_le _ _) (by rw[List.length_take];omega);refine J2.cut (λt5 t6 w=>Sat e w<|DER t6 ((xs.take<|j+1).filter λx=>!P x)::DER t5 ((xs.take<|j+1).filter P)::PB p fl lv::DER lv xs::Yh (xs.map ZcP)::Q) (λk2 hcut=>?_)<|λt5 t6 w h6=>?_
  .rw[ZVZ hx,ZVZ hx] at hcut;refine Zh<|Za<|Zb h4 2 rfl (v:=lv) rfl<|Qix h4 3 rfl hx λa ha=>Zbd ha λa1 ha1=>Zbd ha1 λa2 ha2=>Zbd ha2 λa3 ha3=>Yt h4 3 rfl ha3 (v:=Iw x.m.key.T) rfl<|Za7 (λc2=>Zi ?_)<|λc2=>Zf ?_
   .rw[show P x=true from by rw[hPk];exact decide_eq_true c2] at hcut;refine Zh<|Za<|Zb h4 2 rfl (v:=lv) rfl<|Qix h4 3 rfl hx λa ha=>Ym h4 3 rfl ha rfl<|Z0m (x:=x) (hfl x<|List.mem_of_getElem? hx) (by omega) rfl h4.swap λv' w7 h7=>?_;refine hcut _ _ _ ?_;rw[if_neg (show ¬(!true)=true by decide),List.append_nil];exact h7.swap
   .rw[show P x=false from by rw[hPk];exact decide_eq_false c2] at hcut;refine Zh<|Za<|Zb h4 2 rfl (v:=lv) rfl<|Qix h4 3 rfl hx λa ha=>Ym h4 3 rfl ha rfl<|Z0m (x:=x) (hfl x<|List.mem_of_getElem? hx) (by omega) rfl h4 λv' w7 h7=>?_;refine hcut _ _ _ ?_;rw[if_neg (show ¬false=true by decide),List.append_nil];exact h7
  .exact Qincs<|hg _ _ _ _ _ (by omega) ⟨j+1,by omega,rfl,rfl,h6⟩
 .obtain rfl:j=xs.length:=by omega
  rw[List.take_length] at h4;have q3:=h4.own_cells 0 rfl;refine Zh<|Za<|Zq h4 2 rfl (vs:=[t6]) q3.1 rfl (Nat.le_of_ble_eq_true rfl) (λc hc=>by rw[List.mem_singleton.1 hc];exact q3.2) (cs':=[Iw fl,t6]) (by rfl) λw5 h6=>?_;refine Zh (Za<|Zb h6 2 rfl (v:=Iw fl) rfl<|ZwQ<|Zh<|Za<|Zq h6 2 rfl (vs:=Yi [max fl t]) rfl rfl (Nat.le_of_ble_eq_true rfl) (Zg _) (cs':=[Iw<|max fl t,t6]) (by rfl) λw6 h7=>?_)
  replace h7:Sat e w6 (DER t6 (xs.filter λx=>!P x)::DER t5 (xs.filter P)::PB p (max fl t) t6::DER lv xs::Yh (xs.map ZcP)::Q):=h7
  have h8:=Zt0 (b:=(xs.filter P).map ZcP++(xs.filter λx=>!P x).map ZcP) (by rw[<-List.map_append];exact ((List.filter_append_perm P xs).map ZcP).symm)<|h7.pick 4 rfl;have h9:=Zne h8
  replace h9:Sat e w6 (Yh ((xs.filter P).map ZcP)::Yh ((xs.filter λx=>!P x).map ZcP)::DER t6 (xs.filter λx=>!P x)::DER t5 (xs.filter P)::PB p (max fl t) t6::DER lv xs::Q):=h9
  have h10:=ZYv (fl:=max fl t) (lv:=t6) (xs:=xs.filter λx=>!P x) (l:=ZzN t l) ⟨eg,hp.2.sub List.filter_sublist⟩<|h9.sn 6 [4,2,1,3,0];have h11:=Z0Z (v:=t5) (xs:=xs.filter P)<|h10.sn 3 [1,2,0];rw[ek] at h11;exact hk _ _ h11
end Go.Proofs.YtceipnkeijhebaaGreat
end
