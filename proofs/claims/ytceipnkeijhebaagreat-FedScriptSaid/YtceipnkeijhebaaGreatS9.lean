/- Texts of the proof, joined. Conditions: none. -/
import Derived.Test.YtceipnkeijhebaaGreatS8
import Derived.KernelRfl
section
namespace Go.Proofs.YtceipnkeijhebaaGreat
open Go Go.E
set_option maxRecDepth 100000
variable {e w:World} {L Q R:List HP} {K:KV} {S S2:HP} {x:WdX} {k:KS} {M:RM} {p n f s:Nat}
theorem Z1A {N:Nd} (hf:f<x.w.Feds.length) (hl:k.nodes.length=x.w.Feds.length) (h1:N.isBold=(k.node f).isBold) (h2:rkI N=rkI (k.node f)) (h3:tlI N=tlI (k.node f))
  (h:Sat e w<|rnH x n f N (M.ms f)::Yh ((ZVT x n k M).eraseIdx f)::([Yh<|ZVO x k M,RBk p x k M,RSl x k M,RBo x k M,RRk x k M,RXv x M,RTl x k M,RGn x k M,RCk x k M]++Q)):Sat e w (RP p x n (k.setN f N) M++Q):=
 ZZ6 (Nat.le_refl n) hf hl h1 h2 (by rw[Z0l h3];exact h)
theorem Z0L (hf:f<x.w.Feds.length) (hl:k.nodes.length=x.w.Feds.length) (h:Sat e w<|rnH x n f (k.node f) (M.ms f)::Yh ((ZVT x n k M).eraseIdx f)::([Yh<|ZVO x k M,RBk p x k M,RSl x k M,RBo x k M,RRk x k M,RXv x M,RTl x k M,RGn x k M,RCk x k M]++Q)):Sat e w (RP p x n k M++Q):=by
 have:=Z1A hf hl rfl rfl rfl h;rwa [ZcV (by rw[hl];exact hf)] at this
theorem Z0Y (b a:Nat) (i:Zn) (N:Nd):(N.hear x.w b a i).2.2.isBold=N.isBold/\rkI (N.hear x.w b a i).2.2=rkI N/\tlI (N.hear x.w b a i).2.2=tlI N:=by cases N <;> exact ⟨rfl,rfl,rfl⟩
theorem ZY2 {a b:Nat} (hal:a<x.w.Feds.length) (hbl:b<x.w.Feds.length) (hI:Ze1 x.w k s) (hs:s<=1000000) (hr:∀g,S g->ZtG x g) (hS:Sat e w<|RP p x n k M++S::Q)
  (hk:∀M' w',Sat e w' (RP p x n (k.deliver x.w a b).2 M'++S::Q)->K (Iw (k.deliver x.w a b).1) w'):Cl prog 49 #[pt p,Iw (a:Int),Iw (b:Int)] w K:=by
 refine ZWd ?_;unfold ZVD;rw[ZWS];have hn8:=hI.may.n;refine Zh<|Za<|Zb hS 2 rfl (v:=pt M.g) rfl<|ZYu (hS.pick 8 rfl) λw1 h1=>Zam<|Zal<|Yp (cs:=Zn.zero.cs) (Sat.putB (L:=RP p x n k M++S::Q) 8 rfl h1) rfl λt7 w2 h2=>?_;cases hq:k.q a b with
 | nil=>
  have hst:k.deliver x.w a b=(150,k):=by unfold KS.deliver;rw[hq]
  rw[hst] at hk;have hb:ZX7 x.w.Feds.length (λa b=>k.q a b) a b=false:=by
   unfold ZX7;rw[show (λa b=>k.q a b) (a:Int).toNat (b:Int).toNat=[] from hq];exact Bool.and_false _
  rw[hb];refine Zq h2 0 rfl (vs:=(ZYf x.w.Feds.length (λa b=>k.q a b) a b).cs) rfl rfl (by decide) (Zg _) (cs':=(ZYf x.w.Feds.length (λa b=>k.q a b) a b).cs) (by rfl) λw3 h3=>Zch (Zi<|hk M _ h3.drop)
 | cons i r=>
  have hi:Zb8 x.w.Feds.length i:=hI.q a b i (by rw[hq];exact List.mem_cons_self ..);have hab:a≠b:=λh=>by
   subst h;rw[hI.self] at hq;cases hq
  have hB:ZX7 x.w.Feds.length (λa b=>k.q a b) a b=true:=by
   unfold ZX7;rw[decide_eq_true ⟨by omega,by omega,by omega,by omega,by omega⟩,show (λa b=>k.q a b) (a:Int).toNat (b:Int).toNat=i::r from hq];rfl
  have hV:ZYf x.w.Feds.length (λa b=>k.q a b) a b=i:=by
   unfold ZYf;rw[if_pos hB,show (λa b=>k.q a b) (a:Int).toNat (b:Int).toNat=i::r from hq];rfl
  have hQ:ZYL x.w.Feds.length (λa b=>k.q a b) a b=λc d=>(k.setQ a b r).q c d:=by
   unfold ZYL;rw[if_pos hB,show (λa b=>k.q a b) (a:Int).toNat (b:Int).toNat=i::r from hq];exact ZvB hI.netl hI.rowl hal hbl r
  rw[hB,hV];refine Zq h2 0 rfl (vs:=i.cs) rfl rfl (by decide) (Zg _) (cs':=i.cs) (by rfl) λw3 h3=>ZaJ<|Zf ?_;have h3:Sat e w3 (RP p x n k M++(S::blk t7 88 i.cs::Q)):=h3.sn 12 [1,2,3,4,5,6,7,8,9,10,11,0];refine Zw3 h3 Zn.cs λv1 w4 h4=>Zh<|Za<|ZYp (i:=3) (j:=6) hbl rfl rfl h4 ?_;generalize hres:(k.node b).hear x.w b a i=res;have hkd:=Z0Y (x:=x) b a i<|k.node b;rw[hres] at hkd;refine ZwL<|J2.cut (λv er w=>er=Iw res.1/\Sat e w (DI v res.2.1::(rnH x n b res.2.2 (M.ms b)::Yh ((ZVT x n k M).eraseIdx b)::([Yh<|ZVO x k M,RBk p x k M,RSl x k M,RBo x k M,RRk x k M,RXv x M,RTl x k M,RGn x k M,RCk x k M]++S::blk t7 88 i.cs::Q)))) (λk1 hcut=>?_) ?_
  .have hdr:∀{w},Sat e w (DI v1 []::(RP p x n k M++(S::blk t7 88 i.cs::Q)))->Sat e w (rnH x n b (k.node b) (M.ms b)::Yh ((ZVT x n k M).eraseIdx b)::([Yh<|ZVO x k M,RBk p x k M,RSl x k M,RBo x k M,RRk x k M,RXv x M,RTl x k M,RGn x k M,RCk x k M]++S::blk t7 88 i.cs::DI v1 []::Q)):=λh=>Sat.focus (h.sn 13 [1,2,3,4,5,6,7,8,9,10,11,12,0]) b<|Yk hbl;cases hN:k.node b with
   | slow N=>
    rw[hN] at hres;rw[show decide (rkI (.slow N)<0)=true from rfl];refine Zi<|ZaY h4 λw5 h5=>Zh<|Za<|ZZg (i:=3) (j:=4) hbl rfl rfl h5<|Zo h5 12 (vs:=i.cs) rfl (by rfl) rfl ?_;have h6:=hdr h5;rw[hN] at h6 ⊢;refine Z04 h6 λw7 h7=>hcut _ _ _ ⟨by rw[<-hres];rfl,?_⟩;rw[<-hres];exact Sat.selR [_,_,_,_,_,_,_,_,_,_,_,_,_,_] [_,_,_,_,_,_,_,_,_,_,_,_,_,_] h7 [13,0,1,2,3,4,5,6,7,8,9,10,11,12] (by decide) rfl
   | bold N rk t=>
    rw[hN] at hres;rw[decide_eq_false (show ¬rkI (.bold N rk t)<0 by show ¬(rk:Int)<0;omega)];refine Zf<|ZaY h4 λw5 h5=>Zh<|Za<|ZYH (i:=3) (j:=5) hbl rfl rfl h5<|Zo h5 12 (vs:=i.cs) rfl (by rfl) rfl ?_;have h6:=hdr h5;rw[hN] at h6 ⊢;refine Z1b 10 rfl hr h6 λv w7 h7=>Zam<|Zal<|hcut _ _ _ ⟨by rw[<-hres];rfl,?_⟩;rw[<-hres];exact Sat.selR [_,_,_,_,_,_,_,_,_,_,_,_,_,_,_] [_,_,_,_,_,_,_,_,_,_,_,_,_,_] h7 [0,1,2,3,4,5,6,7,8,9,10,11,12,13] (by decide) rfl
  rintro v _ w6 ⟨rfl,h6⟩;have h7:Sat e w6 (RP p x n (k.setN b res.2.2) M++(S::blk t7 88 i.cs::DI v res.2.1::Q)):=Z1A hbl hI.nl hkd.1 hkd.2.1 hkd.2.2<|h6.sn 14 [1,2,3,4,5,6,7,8,9,10,11,12,13,0];refine ZrP (λc1=>Zi ?_)<|λc1=>Zf ?_
  .have hN:res.2.2=k.node b:=by rw[<-hres];exact hear_bad (by rw[hres];exact c1)
   have hst:k.deliver x.w a b=(res.1,k):=by
    unfold KS.deliver;rw[hq];dsimp only;rw[Zsg,hres,if_pos c1]
   rw[hst] at hk;rw[hN,ZcV (by rw[hI.nl];exact hbl)] at h7;exact hk M _<|h7.sn 13 [0,1,2,3,4,5,6,7,8,9,10]
  have hde:=ZsJ hq (wd:=x.w) (by rw[hres];exact c1);rw[hres] at hde;rw[hde] at hk;have hlen:=hear_len hI hbl a i;rw[hres] at hlen;refine Zh<|Za<|Zb h7 2 rfl (v:=pt M.g) rfl<|ZZQ (Sat.pick (l:=RP p x n (k.setN b res.2.2) M++(S::blk t7 88 i.cs::DI v res.2.1::Q)) h7 8 rfl) λw10 h10=>?_;have h10:Sat e w10 (ZVw M.g x.w.Feds.length k.room (ZYL x.w.Feds.length (λa b=>k.q a b) a b)::(RP p x n (k.setN b res.2.2) M++(S::blk t7 88 i.cs::DI v res.2.1::Q)).eraseIdx 8):=h10;rw[hQ] at h10;have hcnt:((k.setN b res.2.2).setQ a b r).counted a b i=k.counted a b i:=by
   have hbd:∀j,(((k.setN b res.2.2).setQ a b r).node j).isBold=(k.node j).isBold:=λj=>by
    show ((k.setN b res.2.2).node j).isBold=_;rw[ZaK];split
    .rename_i h;rw[<-h.1];exact hkd.1
    .rfl
   rw[Zf7,Zf7,hbd,hbd]
  have hrk2:rkI (((k.setN b res.2.2).setQ a b r).node b)=rkI (k.node b):=by
   show rkI ((k.setN b res.2.2).node b)=_;rw[ZaK,if_pos ⟨rfl,by rw[hI.nl];exact hbl⟩];exact hkd.2.1
  generalize hk2:(k.setN b res.2.2).setQ a b r=k2 at*;have e2b:k2.boxes=k.boxes:=by rw[<-hk2];rfl
  have e2c:k2.cut=k.cut:=by rw[<-hk2];rfl
  have h11:Sat e w10 (RP p x n k2 M++(S::blk t7 88 i.cs::DI v res.2.1::Q)):=by
   rw[<-hk2];exact Sat.putB (L:=RP p x n (k.setN b res.2.2) M++(S::blk t7 88 i.cs::DI v res.2.1::Q)) 8 rfl h10
  refine Zo h11 11 (vs:=i.cs) rfl (by rfl) rfl<|ZXT hal hbl h11 λw12 h12=>?_;rw[hcnt];refine J0.cut (λw=>Sat e w<|RP p x n { k2 with cut:=Zw6 k a b i } M++(S::blk t7 88 i.cs::DI v res.2.1::Q)) (λk1 hcut=>?_) ?_
  .cases hcn:k.counted a b i with
   | false=>
    refine Zf<|hcut _ ?_;rw[show Zw6 k a b i=k2.cut by unfold Zw6;rw[hcn,e2c]];exact h12
   | true=>
    obtain ⟨_,hbb⟩:=ZkG hcn;obtain ⟨c,hc,hco⟩:=Zll hI hbl hbb;obtain ⟨N,rk,t,hN⟩:=Zt9 hbb;have hrk:rk<Zai x.w:=by have:=hI.rank b hbl hbb;rw[hN] at this;exact this
    rw[show Zw6 k a b i=some (c.got i.Colour) by unfold Zw6;rw[hcn,hc]] at hcut;refine Zi<|ZaY h12 λw13 h13=>Zh<|Za<|Zb h13 2 rfl (Z0D<|e2c.trans hc)<|Zh<|Za<|ZYp (i:=2) (j:=5) hbl rfl rfl h13 ?_;rw[hrk2,Z1t hN];refine Za<|Zb h13 11 rfl (v:=Iw i.Colour) rfl<|ZZ8 hrk (Zyb hco hs) (ZWZ (e2c.trans hc) h13) λw15 h15=>?_;rw[Zv8] at h15;exact hcut _<|ZW2 _ c (e2c.trans hc) h15
  .intro w13 h13;have hlb:=Znn hI hs b;exact ZYd (k:={ k2 with cut:=Zw6 k a b i }) (S:=DI v res.2.1) hbl (by show k2.boxes.length=_;rw[e2b];exact hI.bl) (by show (k2.boxes.getD b []).length<=_;rw[e2b];show (k.box b).length<=_;omega) hlen (Sat.selR [_,_,_,_,_,_,_,_,_,_,_,_,_] [_,_,_,_,_,_,_,_,_,_,_,_] h13 [0,1,2,3,4,5,6,7,8,9,12,10] (by decide) rfl) (λ_=>Zp) λM' w15 _ h15=>hk M' _<|h15.sn 12 [0,1,2,3,4,5,6,7,8,9,11]
theorem Z19 {a g:Nat} (h:¬g=a):ZxR k a g=decide (rkI (k.node a)<0\/rkI (k.node g)<0):=by
 unfold ZxR;rw[decide_eq_false h,Bool.eq_iff_iff,decide_eq_true_iff];have h1:=ZYF<|k.node a;have h2:=ZYF<|k.node g;generalize (k.node a).isBold=b1 at h1 ⊢;generalize (k.node g).isBold=b2 at h2 ⊢;cases b1 <;> cases b2 <;> simp at h1 h2 ⊢ <;> omega
theorem Z1K {t:Int} {N N':Nd} (h:N.tell x.w f=(some t,N')):N'.isBold=N.isBold/\rkI N'=rkI N:=by
 cases N with
 | slow N=>
  unfold Nd.tell at h;dsimp only at h;split at h
  .have h:_=N':=congrArg Prod.snd h;subst h;exact ⟨rfl,rfl⟩
  .cases h
 | bold N r t=>
  unfold Nd.tell at h;dsimp only at h;split at h
  .cases h
  .have h:_=N':=congrArg Prod.snd h;subst h;exact ⟨rfl,rfl⟩
theorem ZZE (hf:f<x.w.Feds.length) (hI:Ze1 x.w k s) (hr:∀g,S g->ZtG x g) (hS:Sat e w<|RP p x n k M++S::Q)
  (hk:∀M' w',Sat e w' (RP p x n (k.tell x.w f).2 M'++S::Q)->K (Iw (k.tell x.w f).1) w'):Cl prog 50 #[pt p,Iw (f:Int)] w K:=by
 refine ZWW ?_;unfold ZVQ;have hn8:=hI.may.n;refine Zh<|Za<|ZYa (i:=2) (j:=6) hf rfl rfl hS<|Zt hS 1 rfl (ZXQ hf) ?_;by_cases hb:k.box f=[]
 case neg=>
  rw[show k.tell x.w f=(2,k) from if_pos hb] at hk;have hpos:0<(k.box f).length:=List.length_pos_iff.2 hb;exact Qgtt<|Zi<|hk M _ hS
 rw[ZBg hb] at hk;rw[hb];refine Zle (by decide)<|Zf<|Zh<|Za<|ZYp (i:=2) (j:=5) hf rfl rfl hS<|ZwL<|J1.cut (λv w=>∃t N',(k.node f).tell x.w f=(some t,N')/\v=Iw t/\Sat e w (RP p x n (k.setN f N') M++S::Q)) (λk1 hcut=>?_) ?_
 .have h1:=Sat.focus hS f<|Yk hf;cases hN:k.node f with
  | slow N=>
   rw[hN] at h1 hk;rw[show decide (rkI (.slow N)<0)=true from rfl];refine Zi<|Zh<|Za<|ZZg (i:=2) (j:=3) hf rfl rfl hS ?_;rw[hN];refine Z02 (ZaN hf) 10 rfl h1 hr λw2 h2=>Zam<|Zal ?_;cases hB:N.clk.tellB (Zcd N) (Zs x.w f).Look with
   | false=>
    rw[show Nd.tell x.w f (.slow N)=(none,.slow N) from if_neg (by rw[hB];decide)] at hk;rw[Zyt hB] at h2;exact Zch (Zi<|hk M _<|Z0L hf hI.nl<|by rw[hN];exact h2)
   | true=>
    have htd:(ZiG (Zs x.w f) N).clk.told=N.clk.tellT (Zcd N) (Zs x.w f).Look:=by
     have:=of_decide_eq_true hB;unfold ZiG Clk.tell;rw[if_neg (by omega)]
    exact ZaJ (Zf<|hcut _ _ ⟨_,_,by rw[hN];exact if_pos hB,by rw[htd],Z1A (N:=.slow<|ZiG (Zs x.w f) N) hf hI.nl (by rw[hN];rfl) (by rw[hN];rfl) (by rw[hN];rfl) h2⟩)
  | bold N r t=>
   rw[hN] at h1 hk;rw[decide_eq_false (show ¬rkI (.bold N r t)<0 by show ¬(r:Int)<0;omega)];refine Zf<|Zh<|Za<|ZYH (i:=2) (j:=4) hf rfl rfl hS ?_;rw[hN];refine ZZ2 10 rfl hr h1 λw2 h2=>?_;have h3:Sat e w2 (RP p x n k M++S::Q):=Z0L hf hI.nl (by rw[hN];exact h2);refine Zh<|Za<|Zb h3 2 rfl (v:=M.tv) rfl<|Qix h3 7 rfl (Yk hf) λ_ ha=>Yt h3 7 rfl ha (v:=Iw<|tlI<|k.node f) rfl ?_;rw[show tlI (k.node f)=t by rw[hN];rfl];refine ZFH (λc1=>Zi ?_) λc1=>Zf ?_
   .rw[show Nd.tell x.w f (.bold N r t)=(none,.bold N r t) from if_pos c1] at hk;exact hk M _ h3
   .refine Zh<|Za<|Zb h3 2 rfl (v:=M.tv) rfl<|ZdJ h3 7 rfl (λ_=>rfl) (by rw[List.length_map,List.length_range];exact hf) (x:=Za6 (Zs x.w f) N) rfl (λc hc=>by rw[List.mem_singleton.1 hc];rfl) λw4 h4=>hcut _ _ ⟨_,_,by rw[hN];exact if_neg c1,rfl,?_⟩;have h5:=Sat.focus h4 f<|Yk (F:=λj=>rnH x n j (k.node j)<|M.ms j) hf;rw[hN] at h5;refine ZZ6 (N:=.bold N r<|Za6 (Zs x.w f) N) (Nat.le_refl n) hf hI.nl (by rw[hN];rfl) (by rw[hN];rfl) ?_;rw[show RTl x (k.setN f (.bold N r<|Za6 (Zs x.w f) N)) M=Zz 3 1 (Ye .i64) M.tv (((fes x).map λf=>tlI<|k.node f).set f<|Za6 (Zs x.w f) N) from congrArg (Zz 3 1 (Ye .i64) M.tv) (ZcQ (λj _ hne=>by rw[ZaK,if_neg λh=>hne h.1.symm]) λ_=>by rw[ZaK,if_pos ⟨rfl,by rw[hI.nl];exact hf⟩];rfl).symm];exact h5
 rintro _ w2 ⟨tt,N',hres,rfl,h4⟩;rw[hres] at hk;have hkd:=Z1K hres;have hk1l:(k.setN f N').boxes.length=x.w.Feds.length:=hI.bl;have hrk:∀j,rkI ((k.setN f N').node j)=rkI (k.node j):=λj=>by
  rw[ZaK];split
  .rename_i h;rw[<-h.1];exact hkd.2
  .rfl
 refine Zdk (λz t35 w=>∃j:Nat,j<=x.w.Feds.length/\t35=Iw j/\z=x.w.Feds.length - j/\∃M',Sat e w<|RP p x n ((k.setN f N').put f<|Zq8 k f tt j) M'++S::Q) x.w.Feds.length ⟨0,Nat.zero_le _,rfl,rfl,M,by rw[show Zq8 k f tt 0=[] from rfl,Zrv (by rw[hk1l];exact hf)];exact h4⟩ ?_;rintro z _ w3 g1 ⟨j,hj,rfl,rfl,M1,h5⟩ hg1;refine Zh<|Za<|Za<|Zb h5 2 rfl (v:=x.fv) rfl<|Zt h5 10 rfl (λ_ h=>(hr _ h).feds) ?_;rw[Z1d];refine Za7 (λc=>Zi ?_) λc=>Zf ?_
 .have hjl:j<x.w.Feds.length:=by omega
  refine J0.cut (λw=>∃M',Sat e w<|RP p x n ((k.setN f N').put f<|Zq8 k f tt<|j+1) M'++S::Q) (λk2 hcut=>?_) λw9 ⟨M',h9⟩=>Qincs<|hg1 _ _ _ (by omega) ⟨j+1,by omega,rfl,rfl,M',h9⟩;rw[ZpG] at hcut;have no:ZxR k f j=false->k2 w3:=λhp=>hcut _ ⟨M1,by rw[if_neg (by rw[hp];decide),List.append_nil];exact h5⟩;by_cases c1:j=f
  .refine Qnef<|Zu<|Zu<|Zu<|Zu<|Zu<|Zu<|Zu<|Zu<|Zu<|Zrb<|Zrb<|Zrb<|Zrb<|Zrb<|Zrb<|Zrb<|Zrb<|Zu<|Yd<|Zf<|no ?_;unfold ZxR;rw[decide_eq_true c1];rfl
  have hp:=Z19 (k:=k) c1;refine Qnet<|Ze<|Ze<|Zwz<|Ze<|Za<|Ze<|Zb h5 2 rfl (v:=M1.rv) rfl<|Ze<|Ze<|Qix h5 5 rfl (Yk hf) λq hq=>Ze<|Yt h5 5 rfl hq (v:=Iw<|rkI<|(k.setN f N').node f) rfl<|Ze<|Za7 (λc2=>Ze<|Zd<|Zd<|Zd<|Zd<|Zd<|Zd<|Zd<|Zd<|Ze<|Yv<|Yv<|Zi ?_) λc2=>Ze<|Zj<|Zj<|Zwz<|Zj<|Za<|Zj<|Zb h5 2 rfl (v:=M1.rv) rfl<|Zj<|Zj<|Qix h5 5 rfl (Yk hjl) λq hq=>Zj<|Yt h5 5 rfl hq (v:=Iw<|rkI<|(k.setN f N').node j) rfl<|Zj<|Za7 (λc3=>Ze<|Yd<|Yv<|Zi ?_) λc3=>Ze<|Yd<|Yv<|Zf<|no (by rw[hp,decide_eq_false];rw[hrk] at c2 c3;omega)
  all_goals
   rw[show ZxR k f j=true by rw[hp,decide_eq_true];simp only[hrk] at *;omega,if_pos rfl] at hcut;refine Zaf (Yi [tt,0,0]) (by kernel_rfl)<|Zaf (Yi [tt,0,0,(j:Int),0,0]) (by kernel_rfl)<|Zaf (ZAA tt j).cs (by kernel_rfl)<|ZwC (vs:=(ZAA tt j).cs) rfl rfl h5 λb w6 h6=>?_;have hbx:((k.setN f N').put f<|Zq8 k f tt j).box f=Zq8 k f tt j:=by
    rw[Zmr,if_pos ⟨rfl,by rw[hk1l];exact hf⟩];show k.box f++_=_;rw[hb,List.nil_append]
   have hbl:(Zq8 k f tt j).length<=j:=by
    unfold Zq8;rw[List.length_map];exact Nat.le_trans (List.length_filter_le _ _) (by rw[List.length_range];omega)
   refine ZYd (l:=[ZAA tt j]) (S:=blk b 88 (ZAA tt j).cs) hf (by show ((k.setN f N').boxes.set f _).length=_;rw[List.length_set];exact hk1l) (by rw[hbx];omega) (Nat.le_of_ble_eq_true rfl) (h6.selR [_,_,_,_,_,_,_,_,_,_,_] [_,_,_,_,_,_,_,_,_,_,_] [1,2,3,4,5,6,7,8,9,10,0] (by decide) rfl) (Zfu (f:=Zn.cs)<|Nat.le_refl _) λM' w8 _ h8=>?_;rw[ZAn _ (by rw[hk1l];exact hf)] at h8;exact hcut _ ⟨M',h8.selR [_,_,_,_,_,_,_,_,_,_,_] [_,_,_,_,_,_,_,_,_,_] [0,1,2,3,4,5,6,7,8,9] (by decide) rfl⟩
 .have ej:j=x.w.Feds.length:=by omega
  rw[ej] at h5;refine hk M1 _ ?_;show Sat e w3 (RP p x n ((k.setN f N').put f<|ZaW k f tt) M1++S::Q);rw[Zv4,hI.nl];exact h5
theorem ZZp {g n:Nat} {c:Zan} (hS:Sat e w<|ZYK g n c::R) (hk:K (Iw c.value) w):Cl prog 123 #[pt g] w K:=by
 obtain ⟨y,_,h1⟩:=ZY8 hS;exact ZXi<|Zh<|Za<|Zb h1 0 rfl (v:=Iw c.value) rfl hk
theorem ZXZ {g n:Nat} {c:Zan} (hS:Sat e w<|ZYK g n c::R) (hk:K (Iw c.over) w):Cl prog 119 #[pt g] w K:=by
 obtain ⟨y,_,h1⟩:=ZY8 hS;exact ZW0<|Zh<|Za<|Zb h1 0 rfl (v:=Iw c.over) rfl hk
theorem ZZb {N:WN} {rk:Nat} {tl:Int} (hf:f<x.w.Feds.length) (hN:k.node f=.bold N rk tl) (hI:Ze1 x.w k s) (hs:s<=1000000) (hn:n<=1000) (hr:∀g,S g->ZtG x g) (hS:Sat e w<|RP p x n k M++S::Q)
  (hk:∀M' w',Sat e w' (RP p x n (k.report x.w f).2 M'++S::Q)->K (Iw (k.report x.w f).1) w'):Cl prog 53 #[pt p,Iw (f:Int)] w K:=by
 refine ZWj ?_;unfold ZVF;rw[ZWS];have hn8:=hI.may.n;have hb8:=Zk9 hI.may;have hbf:(k.node f).isBold=true:=by rw[hN];rfl
 obtain ⟨c,hc,hco⟩:=Zll hI hf hbf;have hrk:rk<Zai x.w:=by have:=hI.rank f hf hbf;rw[hN] at this;exact this
 refine Zh<|Za<|ZYH (i:=2) (j:=4) hf rfl rfl hS ?_;have h1:=Sat.focus hS f<|Yk hf;rw[hN] at h1 ⊢;refine ZZe h1 λw3 h3=>ZwC (vs:=Ye .i64<|ZcM N) rfl rfl (Z0L (p:=p) (Q:=S::Q) hf hI.nl<|by rw[hN];exact h3) λb w6 h6=>?_;have h7:Sat e w6 (Zz 3 1 (Ye .i64) (.slice (some ⟨b,0,none⟩) 1 1) [ZcM N]::(RP p x n k M++S::Q)):=h6.imp λg hg=>.inr ⟨b,1,Ye .i64<|ZcM N,rfl,hg,rfl,Nat.le_refl _,rfl⟩;have hlen:=Znn hI hs f;refine ZjF (λz t7 t34 w=>∃j:Nat,j<=(k.box f).length/\t34=Iw j/\z=(k.box f).length - j/\Sat e w (Zz 3 1 (Ye .i64) t7 (ZcM N::ZtH k f ((k.box f).take j))::(RP p x n k M++S::Q))) (k.box f).length ⟨0,Nat.zero_le _,rfl,rfl,h7⟩ ?_;rintro z t7 _ w8 g1 ⟨j,hj,rfl,rfl,h8⟩ hg1;refine Zh<|Za<|ZYa (i:=3) (j:=7) hf rfl rfl h8<|Zt h8 2 rfl (ZXQ hf)<|Za7 (λc0=>Zi ?_) λc0=>Zf ?_
 .obtain ⟨i,hi⟩:=Zk (l:=k.box f) (j:=j) (by omega);have hio:=hI.box f i<|List.mem_of_getElem? hi;obtain ⟨to,hTo⟩:∃b:Nat,i.m.To=b:=⟨i.m.To.toNat,by have:=hio.to;omega⟩;have htl:to<x.w.Feds.length:=by have:=hio.to;omega
  have hcl:ZtH k f ((k.box f).take<|j+1)=ZtH k f ((k.box f).take j)++if k.counted f to i=true then [i.m.key.T] else []:=by
   rw[Zx hi,ZuW,hTo,Int.toNat_natCast]
  refine J1.cut (λt7 w=>Sat e w<|Zz 3 1 (Ye .i64) t7 (ZcM N::ZtH k f ((k.box f).take<|j+1))::(RP p x n k M++S::Q)) (λk2 hcut=>?_) λt7' w13 h13=>Qincs<|hg1 _ _ _ _ (by omega) ⟨j+1,by omega,rfl,rfl,h13⟩;refine Zh<|Za<|ZYa (i:=3) (j:=7) hf rfl rfl h8<|Zw h8 2 rfl (ZXQ hf) (λ_=>rfl) hi λa ha=>Ym h8 2 rfl ha rfl<|Yp (cs:=Zn.zero.cs) h8 rfl λt9 w9 h9=>Zq h9 0 rfl (vs:=i.cs) rfl rfl (by decide) (Zg _) (cs':=i.cs) (by rfl) λw10 h10=>?_;refine Za<|Za<|Zb h10 0 rfl (v:=Iw i.m.To) rfl<|Zo h10 0 (vs:=i.cs) rfl (by rfl) rfl ?_;rw[hTo];refine ZXT hf htl (Sat.selR [_,_,_,_,_,_,_,_,_,_,_,_] [_,_,_,_,_,_,_,_,_,_,_,_] h10 [2,3,4,5,6,7,8,9,10,11,0,1] (by decide) rfl) λw12 h12=>?_;have h13:Sat e w12 (Zz 3 1 (Ye .i64) t7 (ZcM N::ZtH k f ((k.box f).take j))::(RP p x n k M++S::Q)):=(h12.pick 10 rfl).drop.pick 10 rfl;cases hcn:k.counted f to i with
  | false=>
   rw[hcn,if_neg (by decide),List.append_nil] at hcl;rw[hcl] at hcut;exact Zf (hcut _ _ h13)
  | true=>
   rw[hcn,if_pos rfl] at hcl;rw[hcl] at hcut;refine Zi<|Za<|Za<|Za<|Zb h12 10 rfl (v:=Iw i.m.key.T) rfl ?_;exact Zj7 Zvs (f:=Ye .i64) (λ_=>rfl) Zmu h13 (x:=i.m.key.T) rfl (by
    have:=Zsd k f<|(k.box f).take j;rw[List.length_take] at this;rw[List.length_cons];omega) hcut
 have ej:j=(k.box f).length:=by omega
 rw[ej,List.take_length] at h8;have h9:Sat e w8 (RP p x n k M++(Zz 3 1 (Ye .i64) t7 (ZcM N::ZtH k f (k.box f))::S::Q)):=h8.sn 11 [1,2,3,4,5,6,7,8,9,10,0];refine Zh<|Za<|Zb h9 2 rfl (Z0D hc)<|ZXZ (ZWZ hc h9)<|ZaY h9 λw10 h10=>Zh<|Za<|Zb h10 2 rfl (Z0D hc)<|Zh<|Za<|Zb h10 2 rfl (v:=M.rv) rfl<|Qix h10 5 rfl (Yk hf) λq hq=>Yt h10 5 rfl hq (v:=Iw<|rkI<|k.node f) rfl ?_;have hrl:=Zsd k f<|k.box f;refine ZX9 (h10.pick 10 rfl) (λ_=>Zp) (by rw[List.length_cons];omega) λw11 h11=>?_;have h12:Sat e w11 (RP p x n k M++S::Q):=h11.drop;refine ⟨Yt h12 5 rfl hq (v:=Iw<|rkI<|k.node f) rfl ⟨rfl,rfl⟩,Zb h12 2 rfl (v:=M.rv) rfl ⟨rfl,rfl⟩,Zb h12 2 rfl (Z0D hc) ⟨rfl,rfl⟩,?_⟩;rw[Z1t hN];generalize hx:ZaP (ZcM N::ZtH k f (k.box f))=t;have hxv:Yu t=true:=by rw[<-hx];exact Zo9 _
 have hE:(Zcg (Zai x.w) c).early rk↔(¬c.over<c.begun\/(c.T.all λt=>decide<|t=c.begun)=false\/c.Rp.getD rk 0=c.begun):=by
  unfold Zan.early;rw[Zvp hco.t<|λt=>decide<|t=(Zcg (Zai x.w) c).begun];rfl
 have same:∀{w} (er:Int),k.report x.w f=(er,k)->Sat e w (ZYK M.c (Zai x.w) (Zcg (Zai x.w) c)::([Yh<|ZVT x n k M,Yh<|ZVO x k M,RBk p x k M,RSl x k M,RBo x k M,RRk x k M,RXv x M,RTl x k M,RGn x k M]++S::Q))->K (Iw er) w:=by
  intro w er he h;rw[he] at hk;have:=ZW2 c c hc h;rw[ZoM hc] at this;exact hk M _ this
 have hov:=hco.over;have hbg:=hco.begun;refine ZZc hb8 hrk hxv (by show c.over<=1000000;omega) (ZWZ hc h12) (λhe w13 h13=>?_) (λhe ho w13 h13=>?_)<|λhe ho w13 h13=>?_
 .refine Zng (by decide)<|Zd<|Zd<|Zd<|Zd<|Zd<|Zd<|Zd<|Yv<|Zi<|same 130 ?_ h13;unfold KS.report;rw[hN,hc];exact if_pos<|hE.1 he
 .refine Zng (by decide)<|Zd<|Zd<|Zd<|Zd<|Zd<|Zd<|Zd<|Yv<|Zi<|same 150 ?_ h13;unfold KS.report;rw[hN,hc];dsimp only;rw[if_neg<|λh=>he<|hE.2 h];exact if_pos (by have:0<c.on (c.over % 2):=ho;omega)
 have hon:=hco.onk<|c.over % 2;have ho':¬0<c.on (c.over % 2):=ho;generalize hc1:({ c with Rp:=c.Rp.set rk c.begun,least:=min c.least t }:CL)=c1;have hre:=Zvh (wd:=x.w) hN hc (λh=>he<|hE.2 h) (by omega) hx.symm hc1.symm;rw[ZwH (m:=Zai x.w) hco.r hrk t hc1.symm] at h13;have e1b:c1.begun=c.begun:=by rw[<-hc1]
 have e1o:c1.over=c.over:=by rw[<-hc1]
 have hlt:c.over<c.begun:=Classical.byContradiction λh=>he<|hE.2 (.inl h);refine ZoP rfl<|Zj<|Zj<|Zwz<|Zj<|Za ?_;by_cases hall:(c1.Rp.all λt=>decide<|t=c1.begun)=true
 case neg=>
  rw[if_neg hall] at hre h13;have h14:=ZW2 c1 c hc h13;generalize hk2:({ k with cut:=some c1 }:KS)=k2 at*;have e2c:k2.cut=some c1:=by rw[<-hk2]
  refine Zj<|Zb h14 2 rfl (Z0D e2c)<|Zj<|ZXZ (ZWZ e2c h14)<|Zj<|Zj<|Znq (by show c1.over=c.over;exact e1o)<|Yd<|Zi ?_;rw[hre] at hk;exact hk M _ h14
 rw[if_pos hall] at hre h13;generalize hc2:({ c1 with over:=c1.begun,value:=max c1.value c1.least }:CL)=c2 at*;rw[show max c1.value c1.least=c2.value by rw[<-hc2]] at hre;have e2o:c2.over=c.begun:=by rw[<-hc2];exact e1b
 have hco2:ZeV c2 (Zai x.w) (s+1):=by
  have h5:=hco.on;rw[<-hc2,<-hc1];exact ⟨hco.t,(List.length_set).trans hco.r,by dsimp only;omega,by dsimp only;omega,by dsimp only;omega⟩
 have h14:=ZW2 c2 c hc h13;generalize hk2:({ k with cut:=some c2 }:KS)=k2 at*;have e2c:k2.cut=some c2:=by rw[<-hk2]
 have e2l:k2.nodes.length=x.w.Feds.length:=by rw[<-hk2];exact hI.nl
 have hp2:ZdF x.w k2 (s+1) (40000*(s+1)):=by
  rw[<-hk2];exact (hI.pre.mono (Nat.le_succ s)<|Nat.le_refl _).cut (Nat.le_refl _) (Zpf hI hf hbf) hco2
 refine Zj<|Zb h14 2 rfl (Z0D e2c)<|Zj<|ZXZ (ZWZ e2c h14)<|Zj<|Zj<|Zd8 (by show ¬c2.over=c.over;omega)<|Yd<|Zf<|Zdk (λz t91 w=>∃j:Nat,j<=x.w.Feds.length/\t91=Iw j/\z=x.w.Feds.length - j/\∃M',Sat e w<|RP p x n ((List.range j).foldl (settle1 x.w c2.value) k2) M'++S::Q) x.w.Feds.length ⟨0,Nat.zero_le _,rfl,rfl,M,h14⟩ ?_;rintro z _ w15 g3 ⟨j,hj,rfl,rfl,M1,h15⟩ hg3;have hfp:=ZhP (t:=c2.value) (List.range j) (λg hg=>by have:=List.mem_range.1 hg;omega) hp2;rw[List.length_range] at hfp;have hcj:=(ZkA (wd:=x.w) c2.value (List.range j) k2 0).2.trans e2c;refine Zh<|Za<|Za<|Zb h15 2 rfl (v:=x.fv) rfl<|Zt h15 10 rfl (λ_ h=>(hr _ h).feds) ?_;rw[Z1d];refine Za7 (λc3=>Zi ?_)<|λc3=>Zf ?_
 case refine_2=>
  have ej:j=x.w.Feds.length:=by omega
  rw[ej] at h15;rw[hre] at hk;refine hk M1 _ ?_;show Sat e w15 (RP p x n (k2.settle x.w c2.value) M1++S::Q);rw[ZlS,e2l];exact h15
 have hjl:j<x.w.Feds.length:=by omega
 refine J0.cut (λw=>∃M',Sat e w<|RP p x n ((List.range<|j+1).foldl (settle1 x.w c2.value) k2) M'++S::Q) (λk4 hcut=>?_) λw17 ⟨M',h17⟩=>Qincs<|hg3 _ _ _ (by omega) ⟨j+1,by omega,rfl,rfl,M',h17⟩;rw[List.range_succ,List.foldl_append] at hcut;have hcut:∀w,(∃M',Sat e w<|RP p x n (settle1 x.w c2.value ((List.range j).foldl (settle1 x.w c2.value) k2) j) M'++S::Q)->k4 w:=hcut;generalize (List.range j).foldl (settle1 x.w c2.value) k2=kj at*;refine Zh<|Za<|ZYp (i:=2) (j:=5) hjl rfl rfl h15 ?_;cases hnj:kj.node j with
 | slow N'=>
  refine ZnR (show ¬(0:Int)<=-1 by decide)<|Zf<|hcut _ ⟨M1,?_⟩;rw[show settle1 x.w c2.value kj j=kj by unfold settle1;rw[hnj]];exact h15
 | bold N' rk' tl'=>
  have hnl:kj.nodes.length=x.w.Feds.length:=hfp.inv.nl;refine Zqv (show (0:Int)<=(rk':Int) by omega)<|Zi<|ZaY h15 λw16 h16=>Zh<|Za<|Zb h16 2 rfl (v:=M1.bv) rfl<|Qix h16 4 rfl (Yk hjl) λq hq=>Yt h16 4 rfl hq (v:=boP (kj.node j)<|M1.ms j) rfl<|Zh<|Za<|Zb h16 2 rfl (Z0D hcj)<|ZZp (ZWZ hcj h16) ⟨Yt h16 4 rfl hq (v:=boP (kj.node j)<|M1.ms j) rfl ⟨rfl,rfl⟩,Zb h16 2 rfl (v:=M1.bv) rfl ⟨rfl,rfl⟩,?_⟩;have h17:=Sat.focus h16 j<|Yk (F:=λj=>rnH x n j (kj.node j)<|M1.ms j) hjl;rw[hnj] at h17 ⊢;have hW:=Z18 0 h17 rfl;have hol:=Znh hfp.inv.may hjl hW c2.value;have fin:∀{w:World} {v:Value} {l:List Zn} {N2:WN},l.length<=1000000->settle1 x.w c2.value kj j=(kj.setN j (.bold N2 rk' tl')).put j l->Sat e w (DI v l::(rnH x n j (.bold N2 rk' tl') (M1.ms j)::Yh ((ZVT x n kj M1).eraseIdx j)::([Yh<|ZVO x kj M1,RBk p x kj M1,RSl x kj M1,RBo x kj M1,RRk x kj M1,RXv x M1,RTl x kj M1,RGn x kj M1,RCk x kj M1]++S::Q)))->
    Cl prog 103 #[pt p,Iw (j:Int),v] w λ_ w=>k4 w:=λ{w v l N2} hl he h=>by
   have h2:Sat e w (RP p x n (kj.setN j (.bold N2 rk' tl')) M1++(DI v l::S::Q)):=Z1A hjl hnl (by rw[hnj];rfl) (by rw[hnj];rfl) (by rw[hnj];rfl)<|h.sn 12 [1,2,3,4,5,6,7,8,9,10,11,0];refine ZYd (k:=kj.setN j (.bold N2 rk' tl')) (S:=DI v l) hjl hfp.bl (Nat.le_trans (hfp.len j)<|by omega) hl h2 (λ_=>Zp) λM' w6 _ h6=>hcut _ ⟨M',?_⟩;rw[he];exact (Sat.pick (l:=RP p x n _ M'++(DI v l::S::Q)) h6 10 rfl).drop
  refine Z0b hn h17 (λhe w3 h3=>Zok<|Zow<|ZoK ?_)<|λhe v u w3 h3=>Zok<|Zow<|ZoK ?_
  .refine ZXE (l:=[]) 0 rfl (h3.mk_pure trivial) ZxZ (by decide) λv4 w4 h4=>fin (N2:=N') (Nat.zero_le _) ?_ (h4.pick 1 rfl).drop;rw[<-hnj,ZcV (by rw[hnl];exact hjl),show ([]:List Msg).map Zae=[] from rfl,Zrv (by rw[hfp.bl];exact hjl)];unfold settle1;rw[hnj];exact if_neg he
  .refine ZXE (l:=Zek x.w j (Zs x.w j) N' c2.value) 1 rfl h3 (λ_=>Zp) (by unfold Zek;omega) λv4 w4 h4=>fin (N2:=Ys N' c2.value) (l:=(Zek x.w j (Zs x.w j) N' c2.value).map Zae) (by rw[List.length_map];unfold Zek;omega) ?_<|((h4.pick 1 rfl).drop.pick 1 rfl).drop;unfold settle1;rw[hnj];exact if_pos he
variable {wd:Wd} {M:KM}
theorem ZKN (hS:Sat e w<|Zby p wd k n s::Q) (hk:K (Iw k.value) w):Cl prog 10 #[pt p] w K:=by
 refine ZKq ?_;unfold ZKn;obtain ⟨M,hI,h1⟩:=ZpC hS;refine Zh<|Za ?_;cases hc:k.cut with
 | none=>
  have hcv:(kcs wd k M)[4]?=some Pn:=by unfold kcs;rw[hc];rfl
  refine Zb h1 2 rfl hcv<|Ztj<|Zi ?_;unfold KS.value at hk;rwa [hc] at hk
 | some c=>
  have hcv:(kcs wd k M)[4]?=some (pt M.c):=by unfold kcs;rw[hc];rfl
  refine Zb h1 2 rfl hcv<|ZmP _<|Zf<|Zh<|Za<|Zb h1 2 rfl hcv<|Zrc (ZhH hc h1) ?_;unfold KS.value at hk;rwa [hc] at hk
def ZBN (wd:Wd) (k:KS) (a:Int):List Zak:=if inN wd a then (k.node a.toNat).log wd a.toNat else []
def ZJt (wd:Wd) (k:KS) (a:Int):Int:=if inN wd a then (k.node a.toNat).st wd a.toNat else -1
def ZDK (wd:Wd) (k:KS) (a:Int):List Zn:=if inN wd a then k.box a.toNat else []
theorem Zxy {a:Int} (ha:inN wd a):∃b:Nat,a=b/\b<wd.Feds.length:=⟨a.toNat,by unfold inN at ha;omega,by unfold inN at ha;omega⟩
theorem ZdZ {a:Int} (hn:n<=1000) (hS:Sat e w<|Zby p wd k n s::Q) (hk:∀v w',Sat e w' (DD v (ZBN wd k a)::Zby p wd k n s::Q)->K v w'):Cl prog 17 #[pt p,Iw a] w K:=by
 refine Zgr ?_;unfold Zhc;obtain ⟨M,hI,h1⟩:=ZpC hS;refine Zdx h1 ?_;by_cases ha:inN wd a
 .rw[decide_eq_true (show 0<=a/\a<(wd.Feds.length:Int) from ha)];obtain ⟨b,rfl,hb⟩:=Zxy ha;refine ZaJ<|Zf<|Zh<|Za<|Zml hb h1<|Zxr hn (Sat.focus h1 b<|Yk (F:=λj=>ndH wd n j (k.node j)<|M.ms j) hb) λv w2 h2=>?_;have h3:=Sat.unfocus b (Yk (F:=λj=>ndH wd n j (k.node j)<|M.ms j) hb)<|Sat.selR [_,_,_,_,_,_,_,_,_] [ndH wd n b (k.node b)<|M.ms b,Yh<|(Zat wd n k M).eraseIdx b,Yh<|Zar wd k M,BK p wd k M,NK wd k M,XK wd M,GK wd k M,CK wd k M,DD v<|(k.node b).log wd b] h2 [1,2,3,4,5,6,7,8,0] (by decide) rfl;rw[Zcy hI.nl,ZcV (by rw[hI.nl];exact hb)] at h3;have e1:ZBN wd k b=(k.node b).log wd b:=if_pos ha;rw[e1] at hk;exact hk _ _ (ZkQ hI h3).swap
 .rw[decide_eq_false (show ¬(0<=a/\a<(wd.Feds.length:Int)) from ha)];have e1:ZBN wd k a=[]:=if_neg ha;rw[e1] at hk;exact Zch<|Zi<|hk _ _<|hS.own_nil 129 7 Zak.cs
theorem ZKO {a:Int} (hS:Sat e w<|Zby p wd k n s::Q) (hk:K (Iw<|ZJt wd k a) w):Cl prog 14 #[pt p,Iw a] w K:=by
 refine ZKs ?_;unfold ZKo;obtain ⟨M,hI,h1⟩:=ZpC hS;refine Zdx h1 ?_;by_cases ha:inN wd a
 .rw[decide_eq_true (show 0<=a/\a<(wd.Feds.length:Int) from ha)];obtain ⟨b,rfl,hb⟩:=Zxy ha;refine ZaJ<|Zf<|Zh<|Za<|Zml hb h1 ?_;have e1:ZJt wd k b=(k.node b).st wd b:=if_pos ha;rw[e1] at hk;exact ZLr (Sat.focus h1 b<|Yk (F:=λj=>ndH wd n j (k.node j)<|M.ms j) hb) hk
 .rw[decide_eq_false (show ¬(0<=a/\a<(wd.Feds.length:Int)) from ha)];have e1:ZJt wd k a=-1:=if_neg ha;rw[e1] at hk;exact Zch<|Zi hk
theorem Zp2 {a:Int} (hs:s<=1000000) (hS:Sat e w<|Zby p wd k n s::Q) (hk:∀v w',Sat e w' (DI v (ZDK wd k a)::Zby p wd k n s::Q)->K v w'):Cl prog 20 #[pt p,Iw a] w K:=by
 refine ZgI ?_;unfold Zg4;obtain ⟨M,hI,h1⟩:=ZpC hS;refine Zdx h1 ?_;by_cases ha:inN wd a
 .rw[decide_eq_true (show 0<=a/\a<(wd.Feds.length:Int) from ha)];obtain ⟨b,rfl,hb⟩:=Zxy ha;refine ZaJ<|Zf<|Zh<|Za<|Zjt hb h1 ?_;have hlen:=Znn hI hs b;refine Zje (l:=k.box b) (by omega) (h1.pick 1 rfl) (ZiZ hb) λv w2 h2=>?_;have e1:ZDK wd k b=k.box b:=if_pos ha;rw[e1] at hk;exact hk _ _ (ZkQ hI<|Sat.selR [_,_,_,_,_,_,_,_] [Yh<|Zat wd n k M,Yh<|Zar wd k M,BK p wd k M,NK wd k M,XK wd M,GK wd k M,CK wd k M,DI v<|k.box b] h2 [2,1,3,4,5,6,7,0] (by decide) rfl).swap
 .rw[decide_eq_false (show ¬(0<=a/\a<(wd.Feds.length:Int)) from ha)];have e1:ZDK wd k a=[]:=if_neg ha;rw[e1] at hk;exact Zch<|Zi<|hk _ _<|Ziz hS
theorem Zq1 {v fv:Value} {l:List Zn} {q:Zn->Bool} (i:Nat) (hi:L[i]?=some S) (hS:Sat e w L) (hr:∀g,S g->rdS 8 Zn.cs v l g) (hl:l.length<=1000000000000)
  (hp:∀o∈l,∀(w:World) (K:KV),Sat e w L->(∀w',Sat e w' L->K (.bool<|q o) w')->clV prog fv #[.agg o.cs.toArray] w K)
  (hk:∀w',Sat e w' L->K (.bool<|l.any q) w'):Cl prog 56 #[v,fv] w K:=by
 refine Za8 ?_;unfold Zas;refine Zbn ?_;unfold ZaH;refine Zt hS i hi hr<|Zdk (λz t8 w=>∃j:Nat,j<=l.length/\t8=Iw j/\z=l.length - j/\(∀o∈l.take j,q o=false)/\Sat e w L) l.length ⟨0,Nat.zero_le _,rfl,rfl,by simp,hS⟩ ?_;rintro z _ w g ⟨j,hj,rfl,rfl,hno,h1⟩ hg;refine Za7 (λc=>Zi ?_)<|λc=>Zf ?_
 .obtain ⟨o,ho⟩:=Zk (l:=l) (j:=j) (by omega);refine Zw h1 i hi hr (λ_=>rfl) ho λa ha=>Ym h1 i hi ha rfl<|hp o (List.mem_of_getElem? ho) _ _ h1 λw2 h2=>?_;cases hb:q o with
  | true=>
   have:=hk _ h2;rw[List.any_eq_true.2 ⟨o,List.mem_of_getElem? ho,hb⟩] at this;exact Zi (Qget this)
  | false=>
   refine Zf<|Qincs<|hg _ _ _ (by omega) ⟨j+1,by omega,rfl,rfl,λy hy=>?_,h2⟩;rw[Zx ho] at hy;rcases List.mem_append.1 hy with h | h
   .exact hno y h
   .rw[List.mem_singleton.1 h];exact hb
 .have ej:j=l.length:=by omega
  rw[ej,List.take_length] at hno;have:=hk _ h1;rw[List.any_eq_false.2 λx hx=>by rw[hno x hx];decide] at this;exact Qgef this
def ZsV (i:Zn):Bool:=!decide (i.Kind=2)
theorem Zla {l:List Zn} {c:Int}:Zpr c l=0↔∀x∈l,x.Colour=c->x.Kind=2:=by
 unfold Zpr;rw[List.countP_eq_zero];constructor
 .intro h x hx hc;have:=h x hx;rw[Bool.and_eq_true,decide_eq_true_iff,decide_eq_true_iff] at this;exact Classical.byContradiction λhk=>this ⟨hk,hc⟩
 .intro h x hx;rw[Bool.and_eq_true,decide_eq_true_iff,decide_eq_true_iff];rintro ⟨h1,h2⟩;exact h1<|h x hx h2
theorem Zug {α:Type} {F:Nat->List α} {n:Nat} {x:α}:x∈fl F n↔∃a,a<n/\x∈F a:=by
 unfold fl;rw[List.mem_flatMap];constructor
 .rintro ⟨a,ha,hx⟩;exact ⟨a,List.mem_range.1 ha,hx⟩
 .rintro ⟨a,ha,hx⟩;exact ⟨a,List.mem_range.2 ha,hx⟩
theorem Zuj (hI:Ze1 wd k s):(k.net.all λr=>r.all λl=>l.all λi=>decide<|i.Kind=2)=decide (¬0<Zpr 0 (ZpJ wd.Feds.length λa b=>k.q a b)+Zpr 1 (ZpJ wd.Feds.length λa b=>k.q a b)):=by
 rw[Bool.eq_iff_iff,decide_eq_true_iff,List.all_eq_true];have hmem:∀x,x∈ZpJ wd.Feds.length (λa b=>k.q a b)↔∃a b,a<wd.Feds.length/\b<wd.Feds.length/\x∈k.q a b:=by
  intro x;unfold ZpJ;rw[Zug];constructor
  .rintro ⟨a,ha,hx⟩;unfold ZrF at hx;obtain ⟨b,hb,hx⟩:=Zug.1 hx;exact ⟨a,b,ha,hb,hx⟩
  .rintro ⟨a,b,ha,hb,hx⟩;exact ⟨a,ha,Zug.2 ⟨b,hb,hx⟩⟩
 constructor
 .intro h;have h0:∀x∈ZpJ wd.Feds.length (λa b=>k.q a b),x.Kind=2:=by
   intro x hx;obtain ⟨a,b,ha,hb,hx⟩:=(hmem x).1 hx;have h1:k.net[a]?=some (k.net.getD a []):=by rw[List.getD_eq_getElem?_getD,List.getElem?_eq_getElem (by rw[hI.netl];exact ha)];rfl
   have h2:(k.net.getD a [])[b]?=some (k.q a b):=by
    show _=some ((k.net.getD a []).getD b []);rw[List.getD_eq_getElem?_getD (l:=k.net.getD a []),List.getElem?_eq_getElem (by rw[hI.rowl a ha];exact hb)];rfl
   have h3:=List.all_eq_true.1 (h _<|List.mem_of_getElem? h1) _<|List.mem_of_getElem? h2;exact of_decide_eq_true<|List.all_eq_true.1 h3 x hx
  have e0:=Zla (c:=0).2 λx hx _=>h0 x hx;have e1:=Zla (c:=1).2 λx hx _=>h0 x hx;omega
 .intro h r hr;rw[List.all_eq_true];intro l hl;rw[List.all_eq_true];intro i hi;obtain ⟨a,ha⟩:=List.getElem?_of_mem hr;obtain ⟨b,hb⟩:=List.getElem?_of_mem hl;have hal:=(List.getElem?_eq_some_iff.1 ha).1;have hbl:=(List.getElem?_eq_some_iff.1 hb).1;rw[hI.netl] at hal;have e1:k.net.getD a []=r:=by rw[List.getD_eq_getElem?_getD,ha];rfl
  have hr2:=hI.rowl a hal;rw[e1] at hr2;have e2:k.q a b=l:=by
   show (k.net.getD a []).getD b []=l;rw[e1,List.getD_eq_getElem?_getD,hb];rfl
  have hx:i∈ZpJ wd.Feds.length (λa b=>k.q a b):=(hmem i).2 ⟨a,b,hal,by omega,by rw[e2];exact hi⟩;have hc:=(hI.q a b i<|by rw[e2];exact hi).col;rw[decide_eq_true_iff];rcases (show i.Colour=0\/i.Colour=1 from by omega) with h0 | h0
  .exact Zla.1 (show Zpr 0 _=0 from by omega) i hx h0
  .exact Zla.1 (show Zpr 1 _=0 from by omega) i hx h0
def ZiF (wd:Wd) (k:KS) (f:Nat):Bool:=((k.box f).all λi=>decide<|i.Kind=2)&&match k.node f with
  | .slow N=>!(ZjD N.q&&decide ((hdM N.q).key.T<wd.End))
  | .bold N _ _=>!(ZjD N.q&&decide ((hdM N.q).key.T<wd.End))&&N.ms.isEmpty
theorem Zwh (wd:Wd) (k:KS):k.quiet wd=((k.net.all λr=>r.all λl=>l.all λi=>decide<|i.Kind=2)&&(List.range k.nodes.length).all (ZiF wd k)):=rfl
theorem ZtY {n j:Nat} {q:Nat->Bool} (hj:j<n) (h:q j=false):(List.range n).all q=false:=by
 rw[List.all_eq_false];exact ⟨j,List.mem_range.2 hj,by rw[h];decide⟩
theorem Zc0 (hs:s<=1000000) (hS:Sat e w<|Zby p wd k n s::Q) (hk:∀w',Sat e w' (Zby p wd k n s::Q)->K (.bool<|k.quiet wd) w'):Cl prog 12 #[pt p] w K:=by
 refine ZeO ?_;unfold ZeG;obtain ⟨M,hI,h0⟩:=ZpC hS;have hn8:=hI.may.n;refine ZaY h0 λw1 h1=>Zh<|Za<|Zb h1 2 rfl (v:=pt M.g) rfl<|Zh<|Za<|Zb h1 2 rfl (v:=pt M.g) rfl ?_;have back:∀{w':World},Sat e w' (GK wd k M::([Yh<|Zat wd n k M,Yh<|Zar wd k M,BK p wd k M,NK wd k M,XK wd M,CK wd k M]++Q))->Sat e w' (KP p wd n k M++Q):=λh=>h.sn 7 [1,2,3,4,5,0,6];refine Zg9 (h1.pick 5 rfl) λw2 h2=>?_;have h2:=back h2;refine ⟨Zb h2 2 rfl (v:=pt M.g) rfl ⟨rfl,rfl⟩,Zg9 (h2.pick 5 rfl) λw3 h3=>?_⟩;have h3:=back h3;have hall:(ZpJ wd.Feds.length λa b=>k.q a b).length<=1024:=by
  obtain ⟨D,hD,_⟩:=Yx.open<|h3.pick 5 rfl;exact hD.all_len
 have l0:=ZqW 0<|ZpJ wd.Feds.length λa b=>k.q a b;have l1:=ZqW 1<|ZpJ wd.Feds.length λa b=>k.q a b;have hnq:=Zuj hI;rw[Zwh,hnq,hI.nl] at hk;generalize hc0:Zpr 0 (ZpJ wd.Feds.length λa b=>k.q a b)=n0 at*;generalize hc1:Zpr 1 (ZpJ wd.Feds.length λa b=>k.q a b)=n1 at*;refine Qadds<|Ztu (λc=>Zi ?_)<|λc=>Zf ?_
 .rw[decide_eq_false (by omega),Bool.false_and] at hk;exact hk _<|ZkQ hI h3
 rw[decide_eq_true (by omega),Bool.true_and] at hk;refine Zh<|Za<|Zb h3 2 rfl (v:=M.nv) rfl<|Qln h3 3 rfl ?_;rw[List.length_map,List.length_range];refine Zdk (λz t w=>∃j:Nat,j<=wd.Feds.length/\t=Iw j/\z=wd.Feds.length - j/\(∀i,i<j->ZiF wd k i=true)/\Sat e w (KP p wd n k M++Q)) wd.Feds.length ⟨0,Nat.zero_le _,rfl,rfl,λi hi=>by omega,h3⟩ ?_;rintro z _ w4 g1 ⟨j,hj,rfl,rfl,hq,h4⟩ hg;refine Za7 (λc=>Zi ?_)<|λc=>Zf ?_
 .have hjl:j<wd.Feds.length:=by omega
  have no:ZiF wd k j=false->∀{w:World},Sat e w (KP p wd n k M++Q)->K Bf w:=λh _ hS=>by
   rw[ZtY hjl h] at hk;exact hk _<|ZkQ hI hS
  have hlen:=Znn hI hs j;refine Qix h4 3 rfl (Yk hjl) λa ha=>Yt h4 3 rfl ha (v:=ndV (k.node j)<|M.ms j) rfl<|Zh<|Za<|Zjt hjl h4<|Zq1 (q:=ZsV) (l:=k.box j) 1 rfl h4 (ZiZ hjl) (by omega) (λo _ w K h hK=>?_) λw5 h5=>?_
  .refine ⟨_,_,_,rfl,ZdX (t0:=.agg o.cs.toArray) ?_⟩;unfold Zds;refine Yp (cs:=o.cs) h rfl λb w6 h6=>Za<|Zb h6 0 rfl (v:=Iw o.Kind) rfl<|ZF7 ?_;have e1:decide (¬o.Kind=2)=ZsV o:=by
    unfold ZsV;by_cases h:o.Kind=2
    .rw[decide_eq_true h,decide_eq_false<|λh'=>h' h];rfl
    .rw[decide_eq_false h,decide_eq_true h];rfl
   rw[e1];exact hK _ h6.drop
  .have hbx:((k.box j).all λi=>decide<|i.Kind=2)=!(k.box j).any ZsV:=by
    rw[List.not_any_eq_all_not];congr 1;funext i;unfold ZsV;rw[Bool.not_not]
   cases hany:(k.box j).any ZsV with
   | true=>
    refine Zi<|no ?_ h5;unfold ZiF;rw[hbx,hany];rfl
   | false=>
    rw[hany] at hbx;refine Zf<|Zva (Sat.focus h5 j<|Yk (F:=λi=>ndH wd n i (k.node i)<|M.ms i) hjl) λv w6 h6=>?_;have h7:=Sat.unfocus j (Yk (F:=λi=>ndH wd n i (k.node i)<|M.ms i) hjl)<|Sat.selR [_,_,_,_,_,_,_,_,_] [ndH wd n j (k.node j)<|M.ms j,Yh<|(Zat wd n k M).eraseIdx j,Yh<|Zar wd k M,BK p wd k M,NK wd k M,XK wd M,GK wd k M,CK wd k M,Zz 85 6 Msg.cs v (k.node j).q] h6 [1,2,3,4,5,6,7,8,0] (by decide) rfl;rw[Zcy hI.nl,ZcV (by rw[hI.nl];exact hjl)] at h7;have h8:Sat e w6 (KP p wd n k M++Zz 85 6 Msg.cs v (k.node j).q::Q):=h7;refine ZaY h8 λw9 h9=>?_;have h10:Sat e w9 (KP p wd n k M++Q):=h9.sn 8 [0,1,2,3,4,5,6];refine Qln h9 7 rfl ?_;have step2:(ZjD (k.node j).q&&decide ((hdM (k.node j).q).key.T<wd.End))=false->Cl prog 43 #[pt p,Iw (j:Int)] w9 λt56 w=>
      bn .neq t56 w λt58 w=>gd t58 true (λk=>k t56 w) w λt60 w=>gd t58 true (λk=>nc t60 w k) w λt61 w=>gd t58 true (λk=>fld 0 t61 w k) w λt62 w=>gd t58 true (λk=>ld1 t62 w k) w λt63 w=>
      gd t58 true (λk=>Cl prog 58 #[t63] w k) w λt64 w=>gd t58 true (λk=>bi .gtr .i64 t64 (Iw 0) w k) w λt65 w=>pk t58 t65 Bf w λt66 w=>
      Zr t66 (K Bf w) (bi .add .i64 (Iw (j:Int)) (Iw 1) w λt67 w=>g1 [t67] w):=by
     intro hh;refine ZbX hjl h10 ?_;have fin:ZiF wd k j=true->∀{w:World},Sat e w (KP p wd n k M++Q)->bi .add .i64 (Iw (j:Int)) (Iw 1) w λt67 w=>g1 [t67] w:=by
      intro hqj w h;refine Qincs<|hg _ _ _ (by omega) ⟨j+1,by omega,rfl,rfl,λi hi=>?_,h⟩;by_cases hij:i=j
      .rw[hij];exact hqj
      .exact hq i (by omega)
     cases hN:k.node j with
     | slow N=>
      refine ZtL<|Zu<|Zu<|Zu<|Zu<|Zu<|Zu<|Yd<|Zf<|fin ?_ h10;rw[hN] at hh;unfold ZiF;rw[hbx,hN];exact congrArg (λb=>!b) hh
     | bold N rk tl=>
      refine ZtQ _<|Ze<|Ze<|Zwz<|Ze<|Zbd (Zfy hjl hN) λa ha=>Ze<|Yt h10 0 rfl ha (v:=pt (M.ms j).1) rfl ?_;have h11:=Sat.focus h10 j<|Yk (F:=λi=>ndH wd n i (k.node i)<|M.ms i) hjl;rw[hN] at h11;have h12:Sat e w9 (ZfN (M.ms j) rk tl::Ya (M.ms j).1 wd j (Zs wd j) N n::Yh ((Zat wd n k M).eraseIdx j)::([Yh<|Zar wd k M,BK p wd k M,NK wd k M,XK wd M,GK wd k M,CK wd k M]++Q)):=Sat.split (l':=[_,_]) h11;refine Ze<|ZpL h12.swap<|Ze ?_;rw[hN] at hh;have hqn:ZiF wd k j=N.ms.isEmpty:=by
       unfold ZiF;rw[hbx,hN];show (true&&(!_&&_))=_;rw[show (ZjD N.q&&decide ((hdM N.q).key.T<wd.End))=false from hh];rfl
      refine Ztu (λc5=>Yv<|Zi<|no ?_ h10)<|λc5=>Yv<|Zf<|fin ?_ h10
      .rw[hqn];cases hms:N.ms with
       | nil=>rw[hms] at c5;exact absurd c5 (by decide)
       | cons _ _=>rfl
      .rw[hqn];cases hms:N.ms with
       | nil=>rfl
       | cons _ _=>rw[hms,List.length_cons] at c5;omega
    cases hw:(k.node j).q with
    | nil=>
     rw[hw] at step2;refine Zle (by decide) (Zu<|Zu<|Zu<|Zu<|Zu<|Zu<|Zu<|Zu<|Zu<|Zu<|Yd<|Zf<|step2 rfl)
    | cons m r=>
     rw[hw] at step2 h9;refine ZtF (by rw[List.length_cons];omega)<|Ze<|Ze<|Qix (j:=0) h9 7 rfl (x:=m) rfl λa ha=>Ze<|Zbd ha λa1 ha1=>Ze<|Zbd ha1 λa2 ha2=>Ze<|Yt h9 7 rfl ha2 (v:=Iw m.key.T) rfl<|Ze<|Ze<|Zwz<|Ze<|Za<|Ze<|Zb h9 2 rfl (v:=Iw wd.End) rfl<|Ze<|Za7 (λc5=>Yv<|Zi<|no ?_ h10)<|λc5=>Yv<|Zf<|step2 ?_
     .have hh:(ZjD (k.node j).q&&decide ((hdM (k.node j).q).key.T<wd.End))=true:=by
       rw[hw];show (true&&decide (m.key.T<wd.End))=true;rw[decide_eq_true c5];rfl
      unfold ZiF;rw[hbx];cases hN:k.node j with
      | slow N=>
       rw[hN] at hh;exact congrArg (λb=>!b) hh
      | bold N _ _=>
       rw[hN] at hh;show (true&&(!_&&_))=false;rw[show (ZjD N.q&&decide ((hdM N.q).key.T<wd.End))=true from hh];rfl
     .show (true&&decide (m.key.T<wd.End))=false;rw[decide_eq_false c5];rfl
 .have ej:j=wd.Feds.length:=by omega
  rw[ej] at hq;rw[List.all_eq_true.2 λi hi=>hq i<|List.mem_range.1 hi] at hk;exact hk _<|ZkQ hI h4
variable {M:RM}
theorem ZX6 {a:Int} (hr:∀g,S g->ZtG x g) (hS:Sat e w<|RP p x n k M++S::Q) (hk:K (.bool<|decide<|inN x.w a) w):Cl prog 46 #[pt p,Iw a] w K:=by
 refine ZXs ?_;unfold ZWg;refine Zu5 (λc1=>?_) λc1=>?_
 .refine Ze<|Ze<|Ze<|Zwz<|Ze<|Za<|Ze<|Za<|Ze<|Zb hS 2 rfl (v:=x.fv) rfl<|Ze<|Zt hS 10 rfl (λ_ h=>(hr _ h).feds)<|Ze<|ZwL<|Yv ?_;rw[Z1d];rwa [show decide (inN x.w a)=decide (a<(x.w.Feds.length:Int)) by unfold inN;simp[c1]] at hk
 .rw[decide_eq_false λh:inN x.w a=>c1 h.1] at hk;exact Zu<|Zu<|Zu<|Zu<|Zu<|Zu<|Zu<|Zu<|Yd hk
theorem Z17 {i m q:Bool} {o:BinOp} {kd c4 y z:Value} {g:Nat} {K:Value->WP} (h1:∀K:KV,K (.bool m) w->bi o .i64 kd c4 w K) (h2:∀K:KV,K (.bool q) w->Cl prog g #[y,z] w K) (hk:K (.bool<|i || (m&&!q)) w) :
  MF (.bool i) kd (λj=>GF (.bool i) (bi o .i64 j c4) λl=>MF (.bool i) l λm=>MT m y λn=>MT m z λo=>GT m (Cl prog g #[n,o]) λp=>GT m (Zb3 p) λq=>GF (.bool i) (pk m q Bf) λr=>PP (.bool i) Bt r K) w:=by
 cases i with
 | false=>
  refine Zj<|Zj<|h1 _<|Zj ?_;cases m with
  | false=>exact Zu (Zu<|Zu<|Zu<|Zj<|Yd<|Yd hk)
  | true=>
   refine Ze<|Ze<|Ze<|h2 _<|Ze ?_;cases q with
   | false=>exact Zch (Zj<|Yv<|Yd hk)
   | true=>exact ZaJ (Zj<|Yv<|Yd hk)
 | true=>exact Zd (Zd<|Zd<|Zrb<|Zrb<|Zrb<|Zrb<|Zd<|Yv hk)
theorem Z2k {i m:Bool} {kd c:Value} {o:BinOp} {K:Value->WP} (h1:∀K:KV,K (.bool m) w->bi o .i64 kd c w K) (hk:K (.bool<|i || m) w):MF (.bool i) kd (λf=>GF (.bool i) (bi o .i64 f c) λh=>PP (.bool i) Bt h K) w:=by
 cases i with
 | false=>exact Zj (Zj<|h1 _<|Yd hk)
 | true=>exact Zd (Zd<|Yv hk)
theorem Z2a (o:Zbs):(decide (o.Kind<0) || decide (6<o.Kind) || (decide (¬o.Kind=4)&&!decide (inN x.w o.A)) || (decide (o.Kind=2)&&!decide (inN x.w o.B)))=decide (ZuO x.w o):=by
 rw[Bool.eq_iff_iff,decide_eq_true_iff];unfold ZuO;simp only[Bool.or_eq_true,Bool.and_eq_true,Bool.not_eq_true',decide_eq_true_iff,decide_eq_false_iff_not,or_assoc]
theorem Z0H {o:Zbs} (hs:s<=1000000) (hn:n<=1000) (hx:x.short) (hr:∀g,S g->ZtG x g) (hS:Sat e w<|ZVX p x k n s::S::Q) (hk:∀w',Sat e w' (ZVX p x (doK x.w k o).2 (Zdq n o) (s+1)::S::Q)->K (Iw (doK x.w k o).1) w') :
  Cl prog 9 #[pt p,Iw o.Kind,Iw o.A,Iw o.B] w K:=by
 refine ZXn ?_;unfold ZWs;obtain ⟨M,hI,h0⟩:=ZYq hS;have hI':=hI.doK o;have fin:∀{w:World} {M':RM} {er:Int} {k':KS},doK x.w k o=(er,k')->Sat e w (RP p x (Zdq n o) k' M'++S::Q)->K (Iw er) w:=by
  intro w M' er k' he h;rw[he] at hk hI';exact hk _<|ZX8 (M:=M') hI' h
 have hle:n<=Zdq n o:=by unfold Zdq;split <;> omega
 have h1:=Z0f hle h0;refine ZwL<|Z2k (λ_=>ZFJ)<|Z17 (λ_=>ZF7) (λ_=>ZX6 hr h1)<|Z17 (λ_=>ZBD) (λ_=>ZX6 hr h1) ?_;rw[Z2a];by_cases hb:ZuO x.w o
 .rw[decide_eq_true hb];exact Zd<|Zd<|Zd<|Zrb<|Zrb<|Zrb<|Zrb<|Zrb<|Zrb<|Zrb<|Zrb<|Zd<|Yv<|Zi<|fin (if_pos hb) h1
 rw[decide_eq_false hb];have hg:doK x.w k o=k.do' x.w o.Kind.toNat o.A.toNat o.B.toNat:=if_neg hb;have d1:¬o.Kind<0:=λh=>hb (.inl h);have d2:¬6<o.Kind:=λh=>hb (.inr (.inl h));refine Zj<|Zj<|ZFJ<|Zj ?_;by_cases c4:o.Kind=4
 .rw[decide_eq_false (show ¬4<o.Kind by omega)];rw[show o.Kind.toNat=4 by omega] at hg;rw[show Zdq n o=n from if_neg (by omega)] at fin;refine Zu<|Zu<|Zu<|Zu<|Zu<|Zu<|Zu<|Zu<|Zj<|Yd<|Yd<|Zf<|Qeqf<|Zf<|Qeqf<|Zf<|Qeqf<|Zf<|Qeqf<|Zf<|Znq c4<|Zi<|Zh<|Za ?_;cases hc:k.cut with
  | none=>
   refine Zb h0 2 rfl (show (Z0p x k M)[9]?=some Pn by show some (ZG0 k.cut M.c)=_;rw[hc];rfl)<|Ztj<|Zi<|fin (hg.trans ?_) h0;show k.begin'=_;unfold KS.begin';rw[hc]
  | some c=>
   obtain ⟨hb0,hco⟩:=hI.cutIs hc;have hb8:=Zk9 hI.may;refine Zb h0 2 rfl (Z0D hc)<|ZmP _<|Zf<|Zh<|Za<|Zb h0 2 rfl (Z0D hc)<|ZZu (by omega) hb8 (ZWZ hc h0) λw3 h3=>?_;by_cases hu:c.over<c.begun
   .rw[if_pos (show (Zcg (Zai x.w) c).over<(Zcg (Zai x.w) c).begun from hu)] at h3 ⊢;have h4:=ZW2 c c hc h3;rw[ZoM hc] at h4;refine fin (hg.trans ?_) h4;show k.begin'=_;unfold KS.begin';rw[hc];exact if_pos hu
   .rw[if_neg (show ¬(Zcg (Zai x.w) c).over<(Zcg (Zai x.w) c).begun from hu)] at h3 ⊢;refine fin (hg.trans ?_)<|ZW2 { c with begun:=c.begun+1,least:=Inf } c hc h3;show k.begin'=_;unfold KS.begin';rw[hc];exact if_neg hu
 have ca:inN x.w o.A:=Classical.byContradiction λh=>hb (.inr (.inr (.inl ⟨c4,h⟩)));obtain ⟨a,hA,hal⟩:=Zxy ca;rw[hA,Int.toNat_natCast] at hg;rw[hA];by_cases c5:4<o.Kind
 .rw[decide_eq_true c5];rw[show Zdq n o=n from if_neg (by omega)] at fin;refine Ze<|Ze<|Zwz<|Ze<|Za<|Ze<|Zb h0 2 rfl (v:=M.rv) rfl<|Ze<|Ze<|Qix h0 5 rfl (Yk hal) λq hq=>Ze<|Yt h0 5 rfl hq (v:=Iw<|rkI<|k.node a) rfl<|Ze ?_;cases hN:k.node a with
  | slow N=>
   refine Ztt (show (-1:Int)<0 by decide)<|Zj<|Yv<|Yd<|Zi<|fin (hg.trans ?_) h0;rcases (show o.Kind.toNat=5\/o.Kind.toNat=6 by omega) with h | h <;> rw[h]
   .show k.turn a=_;unfold KS.turn;rw[hN]
   .show k.report x.w a=_;unfold KS.report;rw[hN]
  | bold N rk tl=>
   refine Ze7 (show ¬(rk:Int)<0 by omega)<|Zj<|Yv<|Yd<|Zf<|Qeqf<|Zf<|Qeqf<|Zf<|Qeqf<|Zf<|Qeqf<|Zf<|Qeqf<|Zf ?_;by_cases c6:o.Kind=5
   .refine Znq c6<|Zi<|ZaY h0 λw1 h2=>Zh<|Za ?_;have hbf:(k.node a).isBold=true:=by rw[hN];rfl
    obtain ⟨c',hc,hco⟩:=Zll hI hal hbf;have hrk:rk<Zai x.w:=by have:=hI.rank a hal hbf;rw[hN] at this;exact this
    refine Zb h2 2 rfl (Z0D hc)<|Zh<|Za<|ZYp (i:=2) (j:=5) hal rfl rfl h2 ?_;rw[Z1t hN];refine ZZ1 hrk (ZWZ hc h2) λw3 h3=>?_;rw[Zvu (by rw[hco.t];exact hrk)] at h3;have h4:=ZW2 _ c' hc h3;rw[c6] at hg;by_cases hu:¬c'.over<c'.begun\/c'.t rk=c'.begun
    .rw[if_pos hu,ZoM hc] at h4;rw[show (Zcg (Zai x.w) c').turnE rk=130 from if_pos hu];refine fin (hg.trans ?_) h4;show k.turn a=_;unfold KS.turn;rw[hN,hc];exact if_pos hu
    .rw[if_neg hu] at h4;rw[show (Zcg (Zai x.w) c').turnE rk=0 from if_neg hu];refine fin (hg.trans ?_) h4;show k.turn a=_;unfold KS.turn;rw[hN,hc];exact if_neg hu
   .rw[show o.Kind.toNat=6 by omega] at hg;exact Zd8 c6<|Zf<|ZZb hal hN hI hs hn hr h0 λM' w3 h3=>fin hg h3
 rw[decide_eq_false c5];refine Zu<|Zu<|Zu<|Zu<|Zu<|Zu<|Zu<|Zu<|Zj<|Yd<|Yd<|Zf ?_;by_cases d0:o.Kind=0
 .rw[show o.Kind.toNat=0 by omega] at hg;rw[show Zdq n o=n+1 from if_pos d0] at fin;exact Znq d0<|Zi<|ZZH hal hI hs hn hx hr h0 λM' w3 h3=>fin hg h3
 rw[show Zdq n o=n from if_neg d0] at fin;refine Zd8 d0<|Zf ?_;by_cases d3:o.Kind=1
 .rw[show o.Kind.toNat=1 by omega] at hg;exact Znq d3<|Zi<|ZZs hal hI hs h0 λM' w3 h3=>fin hg h3
 refine Zd8 d3<|Zf ?_;by_cases d4:o.Kind=2
 .rw[show o.Kind.toNat=2 by omega] at hg;obtain ⟨b,hB,hbl⟩:=Zxy (wd:=x.w) (a:=o.B)<|Classical.byContradiction λh=>hb (.inr (.inr (.inr ⟨d4,h⟩)));rw[hB,Int.toNat_natCast] at hg;rw[hB];exact Znq d4<|Zi<|ZY2 hal hbl hI hs hr h0 λM' w3 h3=>fin hg h3
 refine Zd8 d4<|Zf ?_;rw[show o.Kind.toNat=3 by omega] at hg;exact Qeqt<|Zi<|ZZE hal hI hr h0 λM' w3 h3=>fin hg h3
theorem ZZy (hS:Sat e w<|ZVX p x k n s::Q) (hk:K (Iw k.value) w):Cl prog 11 #[pt p] w K:=by
 refine ZWD ?_;unfold ZVK;obtain ⟨M,hI,h1⟩:=ZYq hS;unfold KS.value at hk;refine Zh<|Za ?_;cases hc:k.cut with
 | none=>
  rw[hc] at hk;exact Zb h1 2 rfl (show (Z0p x k M)[9]?=some Pn by show some (ZG0 k.cut M.c)=_;rw[hc];rfl) (Ztj<|Zi hk)
 | some c=>
  rw[hc] at hk;obtain ⟨y,_,h2⟩:=ZY8<|ZWZ hc h1;exact Zb h1 2 rfl (Z0D hc)<|ZmP _<|Zf<|Zh<|Za<|Zb h1 2 rfl (Z0D hc)<|Zh<|Za<|Zb h2 0 rfl (v:=Iw c.value) rfl hk
theorem Z0j {a:Int} (hn:n<=1000) (hr:∀g,S g->ZtG x g) (hS:Sat e w<|ZVX p x k n s::S::Q) (hk:∀v w',Sat e w' (DD v (ZBN x.w k a)::ZVX p x k n s::S::Q)->K v w'):Cl prog 18 #[pt p,Iw a] w K:=by
 refine ZW7 ?_;unfold ZWb;obtain ⟨M,hI,h1⟩:=ZYq hS;refine ZX6 hr h1 ?_;by_cases ha:inN x.w a
 case neg=>
  rw[show ZBN x.w k a=[] from if_neg ha] at hk;rw[decide_eq_false ha];exact Zch<|Zi<|hk _ _<|hS.own_nil 129 7 Zak.cs
 rw[show ZBN x.w k a=(k.node a.toNat).log x.w a.toNat from if_pos ha] at hk;rw[decide_eq_true ha];obtain ⟨b,rfl,hb⟩:=Zxy ha;rw[Int.toNat_natCast] at hk;have h2:=Sat.focus h1 b<|Yk hb;have fin:∀{w v l},Sat e w (DD v l::(rnH x n b (k.node b) (M.ms b)::Yh ((ZVT x n k M).eraseIdx b)::([Yh<|ZVO x k M,RBk p x k M,RSl x k M,RBo x k M,RRk x k M,RXv x M,RTl x k M,RGn x k M,RCk x k M]++S::Q)))->Sat e w (DD v l::ZVX p x k n s::S::Q):=λ{w v l} h=>
  (ZX8 hI<|Z0L (p:=p) (Q:=S::DD v l::Q) hb hI.nl<|h.sn 13 [1,2,3,4,5,6,7,8,9,10,11,12,0]).pick 2 rfl
 refine ZaJ<|Zf<|Zh<|Za<|ZYp (i:=2) (j:=5) hb rfl rfl h1 ?_;cases hN:k.node b with
 | slow N=>
  rw[hN] at h2 hk fin;refine Ztt (show (-1:Int)<0 by decide)<|Zi<|Zh<|Za<|ZZg (i:=2) (j:=3) hb rfl rfl h1 ?_;rw[hN];exact Z1v hn h2 λv w3 h3=>hk _ _ (fin h3)
 | bold N r t=>
  rw[hN] at h2 hk fin;refine Ze7 (show ¬(r:Int)<0 by omega)<|Zf<|Zh<|Za<|ZYH (i:=2) (j:=4) hb rfl rfl h1 ?_;rw[hN];exact Z1D hn h2 λv w3 h3=>hk _ _<|fin h3
theorem ZZx {a:Int} (hr:∀g,S g->ZtG x g) (hS:Sat e w<|ZVX p x k n s::S::Q) (hk:K (Iw<|ZJt x.w k a) w):Cl prog 15 #[pt p,Iw a] w K:=by
 refine ZWB ?_;unfold ZVL;obtain ⟨M,hI,h1⟩:=ZYq hS;refine ZX6 hr h1 ?_;by_cases ha:inN x.w a
 case neg=>
  rw[show ZJt x.w k a=-1 from if_neg ha] at hk;rw[decide_eq_false ha];exact Zch<|Zi hk
 rw[show ZJt x.w k a=(k.node a.toNat).st x.w a.toNat from if_pos ha] at hk;rw[decide_eq_true ha];obtain ⟨b,rfl,hb⟩:=Zxy ha;rw[Int.toNat_natCast] at hk;have h2:=Sat.focus h1 b<|Yk hb;refine ZaJ<|Zf<|Zh<|Za<|ZYp (i:=2) (j:=5) hb rfl rfl h1 ?_;cases hN:k.node b with
 | slow N=>
  rw[hN] at h2 hk;refine Ztt (show (-1:Int)<0 by decide)<|Zi<|Zh<|Za<|ZZg (i:=2) (j:=3) hb rfl rfl h1 ?_;rw[hN];obtain ⟨_,_,_,_,h3⟩:=ZZv h2;exact Zh (Za<|Zb h3 0 rfl (v:=Iw N.st) rfl hk)
 | bold N r t=>
  rw[hN] at h2 hk;refine Ze7 (show ¬(r:Int)<0 by omega)<|Zf<|Zh<|Za<|ZYH (i:=2) (j:=4) hb rfl rfl h1 ?_;rw[hN];obtain ⟨_,_,_,_,_,_,h3⟩:=ZYB h2;exact Zh<|Za<|Zb h3 0 rfl (v:=Iw (N.now<|Zs x.w b).1) rfl hk
theorem Z0h {a:Int} (hs:s<=1000000) (hr:∀g,S g->ZtG x g) (hS:Sat e w<|ZVX p x k n s::S::Q) (hk:∀v w',Sat e w' (DI v (ZDK x.w k a)::ZVX p x k n s::S::Q)->K v w'):Cl prog 21 #[pt p,Iw a] w K:=by
 refine ZW4 ?_;unfold ZV4;obtain ⟨M,hI,h1⟩:=ZYq hS;refine Zw3 h1 Zn.cs λv1 w1 h2=>?_;have h3:Sat e w1 (RP p x n k M++(S::DI v1 []::Q)):=h2.sn 12 [1,2,3,4,5,6,7,8,9,10,11,0];refine ZX6 hr h3 ?_;by_cases ha:inN x.w a
 case neg=>
  rw[show ZDK x.w k a=[] from if_neg ha] at hk;rw[decide_eq_false ha];exact Zch<|Zi<|hk _ _<|(ZX8 (Q:=S::DI v1 []::Q) hI h3).pick 2 rfl
 rw[show ZDK x.w k a=k.box a.toNat from if_pos ha] at hk;rw[decide_eq_true ha];obtain ⟨b,rfl,hb⟩:=Zxy ha;rw[Int.toNat_natCast] at hk;have hlen:=Znn hI hs b;refine ZaJ<|Zf<|Zh<|Za<|ZYa (i:=2) (j:=6) hb rfl rfl h3<|Zcs ZW8 ZW8.und (f:=Zn.cs) (l:=[]) (m:=k.box b) (λ_=>rfl) (λ_ _=>Zg _) (h2.pick 2 rfl).swap (ZXQ hb) (by rw[List.length_nil];omega) λv3 w3 h4=>hk _ _ ?_;rw[List.nil_append] at h4;exact (ZX8 (Q:=S::DI v3 (k.box b)::Q) hI<|h4.sn 12 [2,1,3,4,5,6,7,8,9,10,11,0]).pick 2 rfl
theorem ZZt (hs:s<=1000000) (hr:∀g,S g->ZtG x g) (hS:Sat e w<|ZVX p x k n s::S::Q) (hk:∀w',Sat e w' (ZVX p x k n s::S::Q)->K (.bool<|k.quiet x.w) w'):Cl prog 13 #[pt p] w K:=by
 refine ZWH ?_;unfold ZVH;obtain ⟨M,hI,h0⟩:=ZYq hS;have hn8:=hI.may.n;refine Zh<|Za<|Zb h0 2 rfl (v:=pt M.g) rfl<|ZYj (h0.pick 8 rfl) λw2 h2=>?_;have h2:Sat e w2 (RP p x n k M++S::Q):=Sat.putB (L:=RP p x n k M++S::Q) 8 rfl h2;have hnq:=Zuj hI;rw[Zwh,hnq,hI.nl] at hk;have no1:0<Zpr 0 (ZpJ x.w.Feds.length λa b=>k.q a b)+Zpr 1 (ZpJ x.w.Feds.length λa b=>k.q a b)->∀{w},Sat e w (RP p x n k M++S::Q)->K Bf w:=λh w hS=>by
  rw[decide_eq_false<|λh'=>h' h,Bool.false_and] at hk;exact hk _<|ZX8 hI hS
 refine Ztu (λc=>Zd<|Zd<|Zd<|Zd<|Zd<|Zd<|Yv<|Zi<|no1 (by omega) h2) λc=>Zj<|Zj<|Zwz<|Zj<|Za<|Zj<|Zb h2 2 rfl (v:=pt M.g) rfl<|Zj<|ZYj (h2.pick 8 rfl) λw3 h3=>Zj ?_;have h3:Sat e w3 (RP p x n k M++S::Q):=Sat.putB (L:=RP p x n k M++S::Q) 8 rfl h3;refine Ztu (λc1=>Yd<|Zi<|no1 (by omega) h3) λc1=>Yd<|Zf ?_;clear no1;rw[decide_eq_true (by omega),Bool.true_and] at hk;refine Zdk (λz t w=>∃j:Nat,j<=x.w.Feds.length/\t=Iw j/\z=x.w.Feds.length - j/\(∀i,i<j->ZiF x.w k i=true)/\Sat e w (RP p x n k M++S::Q)) x.w.Feds.length ⟨0,Nat.zero_le _,rfl,rfl,λi hi=>by omega,h3⟩ ?_;rintro z _ w4 g1 ⟨j,hj,rfl,rfl,hq,h4⟩ hg;refine Zh<|Za<|Za<|Zb h4 2 rfl (v:=x.fv) rfl<|Zt h4 10 rfl (λ_ h=>(hr _ h).feds) ?_;rw[Z1d];refine Za7 (λc=>Zi ?_)<|λc=>Zf ?_
 case refine_2=>
  have ej:j=x.w.Feds.length:=by omega
  rw[ej] at hq;rw[List.all_eq_true.2 λi hi=>hq i<|List.mem_range.1 hi] at hk;exact hk _<|ZX8 hI h4
 have hjl:j<x.w.Feds.length:=by omega
 have no:ZiF x.w k j=false->∀{w:World},Sat e w (RP p x n k M++S::Q)->K Bf w:=λh _ hS=>by
  rw[ZtY hjl h] at hk;exact hk _<|ZX8 hI hS
 have hlen:=Znn hI hs j;refine Zdk (λz t w=>∃m:Nat,m<=(k.box j).length/\t=Iw m/\z=(k.box j).length - m/\(∀i∈(k.box j).take m,i.Kind=2)/\Sat e w (RP p x n k M++S::Q)) (k.box j).length ⟨0,Nat.zero_le _,rfl,rfl,λi hi=>(by cases hi),h4⟩ ?_;rintro z _ w5 g2 ⟨m,hm,rfl,rfl,hbx,h5⟩ hg2;refine Zh<|Za<|ZYa (i:=2) (j:=6) hjl rfl rfl h5<|Zt h5 1 rfl (ZXQ hjl)<|Za7 (λc2=>Zi ?_) λc2=>Zf ?_
 .obtain ⟨i,hi⟩:=Zk (l:=k.box j) (j:=m) (by omega);refine Zh<|Za<|ZYa (i:=2) (j:=6) hjl rfl rfl h5<|Zw h5 1 rfl (ZXQ hjl) (λ_=>rfl) hi λa ha=>Zbd ha λa1 ha1=>Yt h5 1 rfl ha1 (v:=Iw i.Kind) rfl<|ZrP (λc3=>Zi<|no ?_ h5) λc3=>Zf<|Qincs<|hg2 _ _ _ (by omega) ⟨m+1,by omega,rfl,rfl,λy hy=>?_,h5⟩
  .unfold ZiF;rw[List.all_eq_false.2 ⟨i,List.mem_of_getElem? hi,by rw[decide_eq_false c3];decide⟩];rfl
  .rw[Zx hi] at hy;rcases List.mem_append.1 hy with h | h
   .exact hbx y h
   .rw[List.mem_singleton.1 h];exact c3
 rw[List.take_of_length_le (by omega)] at hbx;have hbx:((k.box j).all λi=>decide<|i.Kind=2)=true:=List.all_eq_true.2 λi hi=>decide_eq_true<|hbx i hi;clear hg2;have step:ZiF x.w k j=true->∀{w},Sat e w (RP p x n k M++S::Q)->bi .add .i64 (Iw (j:Int)) (Iw 1) w λc7 w=>g1 [c7] w:=λh w hS=>Qincs<|hg _ _ _ (by omega) ⟨j+1,by omega,rfl,rfl,λi hi=>by
  by_cases hij:i=j
  .rw[hij];exact h
  .exact hq i (by omega),hS⟩
 refine Zw3 h5 Msg.cs λv6 w6 h6=>?_;have h6:Sat e w6 (RP p x n k M++S::Q):=h6.drop;refine Zh<|Za<|ZYp (i:=2) (j:=5) hjl rfl rfl h6<|ZwL<|J1.cut (λv w=>(∀N r t,k.node j=.bold N r t->N.ms.isEmpty=true)/\Sat e w (RP p x n k M++(S::Zz 85 6 Msg.cs v (k.node j).q::Q))) (λk1 hcut=>?_) ?_
 .have h7:=Sat.focus h6 j<|Yk hjl;have fin:∀{w v l},Sat e w (Zz 85 6 Msg.cs v l::(rnH x n j (k.node j) (M.ms j)::Yh ((ZVT x n k M).eraseIdx j)::([Yh<|ZVO x k M,RBk p x k M,RSl x k M,RBo x k M,RRk x k M,RXv x M,RTl x k M,RGn x k M,RCk x k M]++S::Q)))->Sat e w (RP p x n k M++(S::Zz 85 6 Msg.cs v l::Q)):=λ{w v l} h=>
   Z0L (p:=p) (Q:=S::Zz 85 6 Msg.cs v l::Q) hjl hI.nl (h.sn 13 [1,2,3,4,5,6,7,8,9,10,11,12,0])
  cases hN:k.node j with
  | slow N=>
   rw[hN] at h7 fin hcut;rw[show decide (rkI (.slow N)<0)=true from rfl];refine Zi<|Zh<|Za<|ZZg (i:=2) (j:=3) hjl rfl rfl h6 ?_;rw[hN];exact ZZN h7 λv w8 h8=>hcut _ _ ⟨λ_ _ _ h=>(by cases h),fin h8⟩
  | bold N r t=>
   rw[hN] at h7 fin hcut;rw[decide_eq_false (show ¬rkI (.bold N r t)<0 by show ¬(r:Int)<0;omega)];refine Zf<|Zh<|Za<|ZYH (i:=2) (j:=4) hjl rfl rfl h6 ?_;rw[hN];refine ZZX h7 λv w8 h8=>?_;have h9:=fin h8;refine Zh<|Za<|ZYH (i:=2) (j:=4) hjl rfl rfl h9 ?_;rw[hN];refine Z0F h8.drop ?_;cases hms:N.ms with
   | nil=>exact Zle (by decide) (Zf<|hcut _ _ ⟨λ_ _ _ h=>(by injection h with h;rw[<-h,hms];rfl),h9⟩)
   | cons y l=>
    refine ZtF (by rw[List.length_cons];omega)<|Zi<|no ?_ (Sat.pick (l:=RP p x n k M++(S::Zz 85 6 Msg.cs v N.q::Q)) h9 11 rfl).drop;unfold ZiF;rw[hbx,hN];show (true&&(_&&N.ms.isEmpty))=false;rw[hms];exact Bool.and_false _
 rintro v w7 ⟨hms,h7⟩;refine ZaY h7 λw8 h8=>Qln h8 11 rfl ?_;have h9:Sat e w8 (RP p x n k M++S::Q):=(Sat.pick (l:=RP p x n k M++(S::Zz 85 6 Msg.cs v (k.node j).q::Q)) h8 11 rfl).drop;have hqn:ZiF x.w k j=!(ZjD (k.node j).q&&decide ((hdM (k.node j).q).key.T<x.w.End)):=by
  unfold ZiF;rw[hbx];cases hN:k.node j with
  | slow N=>rfl
  | bold N r t=>show (true&&(_&&N.ms.isEmpty))=_;rw[hms _ _ _ hN,Bool.and_true];rfl
 rw[hqn] at no step;cases hw:(k.node j).q with
 | nil=>
  rw[hw] at step;exact Zle (by decide) (Zu<|Zu<|Zu<|Zu<|Zu<|Zu<|Zu<|Zu<|Zu<|Zu<|Zu<|Yd<|Zf<|step rfl h9)
 | cons m r=>
  rw[hw] at step no h8;refine ZtF (by rw[List.length_cons];omega)<|Ze<|Ze<|Qix (j:=0) h8 11 rfl (x:=m) rfl λa ha=>Ze<|Zbd ha λa1 ha1=>Ze<|Zbd ha1 λa2 ha2=>Ze<|Yt h8 11 rfl ha2 (v:=Iw m.key.T) rfl<|Ze<|Ze<|Zwz<|Ze<|Za<|Ze<|Za<|Ze<|Zb h8 2 rfl (v:=Iw x.End) rfl<|Ze<|Za7 (λc5=>Yv<|Zi<|no ?_ h9)<|λc5=>Yv<|Zf<|step ?_ h9
  .show (!(true&&decide (m.key.T<x.w.End)))=false;rw[decide_eq_true (show m.key.T<x.w.End from c5)];rfl
  .show (!(true&&decide (m.key.T<x.w.End)))=true;rw[decide_eq_false (show ¬m.key.T<x.w.End from c5)];rfl
variable {M:KM}
noncomputable def ZtU (wd:Wd) (room:Int):Int:=if (Za4 wd).2≠0 then (Za4 wd).2 else if 1<=room/\room<=16 then 0 else 1
theorem Zq6 {n room:Int} (hn:1<=n/\n<=8) (h:¬(1<=room/\room<=16)) (hk:K (.tuple #[Pn,Iw 1]) w):Cl prog 25 #[Iw n,Iw room] w K:=by
 refine Zhf ?_;unfold Zn6;by_cases c3:room<1
 .exact Qltf<|Zj<|Ze<|Qgtf<|Yd<|Zj<|Ze<|Qltt<|Yd<|Zd<|Zd<|Yv<|Zi hk
 .exact Qltf<|Zj<|Ze<|Qgtf<|Yd<|Zj<|Ze<|Qltf<|Yd<|Zj<|Ze<|Qgtt<|Yd<|Zi hk
def ndK (wd:Wd) (f:Nat):Nd:=ZpY wd wd.Feds.length f (Zs wd f)<|Zcz wd f
theorem ZhV {j:Nat} (hj:j<wd.Feds.length):Zcz wd (j+1)=Zcz wd j+if (Zs wd j).Kind=0 then 0 else 1:=by
 unfold Zcz;rw[Zx<|ZaN hj,List.filter_append,List.length_append];congr 1;rw[List.filter_cons];by_cases h:(Zs wd j).Kind=0
 .rw[if_neg (by rw[decide_eq_true h];decide),if_pos h];rfl
 .rw[if_pos (by rw[decide_eq_false h];rfl),if_neg h];rfl
theorem Zs7:Zcz wd wd.Feds.length=Zai wd:=by
 unfold Zcz Zai;rw[List.take_length]
theorem ZuX:∀(l:List Nat),Sat e w Q->Sat e w (Yh (l.map λ_=>DI Sn [])::Q)
 | [],h=>Sat.join (l':=[]) h
 | _::l,h=>by
  have h1:=Ziz<|ZuX l h;have h2:Sat e w ((DI Sn []::l.map λ_=>DI Sn [])++Q):=(h1.swap.split.perm List.perm_middle);exact Sat.join (l':=DI Sn []::l.map λ_=>DI Sn []) h2
theorem Zx5 {α:Type} {j:Nat} (F:Nat->α) (x:α):((List.range<|j+1).map λi=>if i=j then x else F i)=(List.range j).map F++[x]:=by
 rw[List.range_succ,List.map_append];congr 1
 .refine List.map_congr_left λi hi=>?_;have:=List.mem_range.1 hi;rw[if_neg (by omega)]
 .show [if j=j then x else F j]=[x];rw[if_pos rfl]
theorem ZuA (m:Nat):Zan.zero m=Zcg m (CL.zero m):=by
 have:(λi=>(List.replicate m (0:Int)).getD i 0)=λ_=>0:=by
  funext i;rw[List.getD_eq_getElem?_getD,List.getElem?_replicate];split <;> rfl
 unfold Zan.zero Zcg CL.zero;dsimp only;rw[this]
abbrev nkH (wd:Wd) (j:Nat) (ms:Nat->Nat × Nat):List HP:=(List.range j).map λf=>ndH wd 0 f (ndK wd f)<|ms f
abbrev nkV (wd:Wd) (j:Nat) (ms:Nat->Nat × Nat):List Value:=(List.range j).map λf=>ndV (ndK wd f)<|ms f
theorem ZtP {j:Nat} {ms:Nat->Nat × Nat} {m:Nat × Nat} {nv bv pv:Value} (hj:j<1000) (hpv:pv=ndV (ndK wd j) m) (hS:Sat e w<|ndH wd 0 j (ndK wd j) m::Yh (nkH wd j ms)::blk p 66 [Iw wd.End,nv,bv,pt n,Pn]::Zz 116 1 one nv (nkV wd j ms)::Q)
  {K:World->Prop} (hk:∀nv' w',Sat e w' (Yh (nkH wd (j+1) λi=>if i=j then m else ms i)::blk p 66 [Iw wd.End,nv',bv,pt n,Pn]::Zz 116 1 one nv' (nkV wd (j+1) λi=>if i=j then m else ms i)::Q)->K w') :
  bsl 116 1 1 (Zl prog 116) [(0,pv)] w λt73 w=>apS prog #[63,63] 63 nv t73 w λt74 w=>ncP (pt p)<|fld 1 (pt p) w λt76 w=>stN 1 t76 t74 w λ_ w=>K w:=by
 subst hpv;have hflat:flat (ndV (ndK wd j) m)=true:=by cases ndK wd j <;> rfl
 have hcells:(ndV (ndK wd j) m).cells.toList=one (ndV (ndK wd j) m):=by cases ndK wd j <;> rfl
 refine ZwC hcells rfl hS λb w1 h1=>?_;refine Zcs ZRH ZRH.und (f:=one) (l:=nkV wd j ms) (m:=[ndV (ndK wd j) m]) (λ_=>rfl) (λx hx v hv=>by
  rw[List.mem_singleton.1 hx] at hv;rw[List.mem_singleton.1 hv];exact hflat) (h1.sn 5 [4,0,1,2,3]) (Zfu (f:=one)<|Nat.le_refl _) (by rw[List.length_map,List.length_range,List.length_singleton];omega) λnv' w2 h2=>?_
 have q1:=h2.own_cells 0 rfl;refine Zh<|Za<|Zpm h2 4 rfl q1 (Nat.le_of_ble_eq_true rfl) (cs':=[Iw wd.End,nv',bv,pt n,Pn]) rfl λw3 h3=>?_;have h4:Sat e w3 (ndH wd 0 j (ndK wd j) m::Yh (nkH wd j ms)::blk p 66 [Iw wd.End,nv',bv,pt n,Pn]::Zz 116 1 one nv' (nkV wd j ms++[ndV (ndK wd j) m])::Q):=h3.sn 5 [2,3,4,0];have h5:=ZiX h4;have e1:nkH wd (j+1) (λi=>if i=j then m else ms i)=nkH wd j ms++[ndH wd 0 j (ndK wd j) m]:=by
  rw[<-Zx5];refine List.map_congr_left λi _=>?_;by_cases h:i=j
  .subst h;rw[if_pos rfl];dsimp only;rw[if_pos rfl]
  .rw[if_neg h];dsimp only;rw[if_neg h]
 have e2:nkV wd (j+1) (λi=>if i=j then m else ms i)=nkV wd j ms++[ndV (ndK wd j) m]:=by
  rw[<-Zx5];refine List.map_congr_left λi _=>?_;by_cases h:i=j
  .subst h;rw[if_pos rfl];dsimp only;rw[if_pos rfl]
  .rw[if_neg h];dsimp only;rw[if_neg h]
 refine hk nv' _ ?_;rw[e1,e2];exact h5
theorem Zu2 {x:WdX} {room:Int} (i:Nat) (hi:L[i]?=some S) (hS:Sat e w L) (hr:∀g,S g->ZtG x g) (hwf:x.wf) (hs:x.short)
  (hbad:ZtU x.w room≠0->∀w',Sat e w' L->K (.tuple #[Pn,Iw<|ZtU x.w room]) w')
  (hok:ZtU x.w room=0->∀p w',Sat e w' (Zby p x.w (KS.init x.w room.toNat) 0 0::L)->K (.tuple #[pt p,Iw 0]) w'):Cl prog 6 #[.agg x.cs.toArray,Iw room] w K:=by
 refine ZoN ?_;unfold ZvL;refine Yp (cs:=x.cs) hS rfl λb w1 h1=>?_;have hi1:(blk b 25 x.cs::L)[i+1]?=some S:=hi;refine Zo h1 0 (vs:=x.cs) rfl (by rfl) rfl ?_;refine ZdI (x:=x) (i+1) hi1 h1 hr hwf hs λw2 h2=>Zam<|Zal ?_;have hxl:x.w.Feds.length=x.Feds.length:=by simp[WdX.w]
 refine ZrP (λc1=>Zi ?_)<|λc1=>Zf ?_
 .have e1:ZtU x.w room=(Za4 x.w).2:=if_pos c1;rw[e1] at hbad;exact hbad c1 _ h2.drop
 have hwd:=ZfI c1;have hkd:=ZlD c1;have hn8:=hwd.n;refine Za<|Zb h2 0 rfl (v:=x.fv) rfl<|Zt h2 (i+1) hi1 (λ_ h=>(hr _ h).feds) ?_;by_cases hrm:1<=room/\room<=16
 case neg=>
  have e1:ZtU x.w room=1:=by unfold ZtU;rw[if_neg<|λh=>h c1,if_neg hrm]
  rw[e1] at hbad;refine Zq6 (by omega) hrm ?_;exact Zam<|Zal<|Zng (by decide)<|Zi<|hbad (by decide) _ h2.drop
 have e1:ZtU x.w room=0:=by unfold ZtU;rw[if_neg<|λh=>h c1,if_pos hrm]
 have hok:=hok e1;obtain ⟨rm,hrm'⟩:∃r:Nat,room=r:=⟨room.toNat,by omega⟩;have hrt:room.toNat=rm:=by omega
 rw[hrt] at hok;refine ZsT (by omega) (by omega) hrm.1 hrm.2 h2 λg w3 h3=>?_;refine Zam<|Zal<|ZoP rfl<|Zf<|ZaY h3 λw4 h4=>Za<|Zb h4 1 rfl (v:=Iw x.End) rfl ?_;have hi4:(Yx g x.Feds.length room (λ_ _=>[])::blk b 25 x.cs::L)[i+2]?=some S:=hi;refine Za<|Zb h4 1 rfl (v:=x.fv) rfl<|Zt h4 (i+2) hi4 (λ_ h=>(hr _ h).feds)<|Zyg Z1X (by omega) h4 one (λ_=>rfl) Sn (by kernel_rfl) λbv w5 h5=>?_;refine ⟨Zb h5 2 rfl (v:=Iw x.End) rfl ⟨rfl,rfl⟩,?_⟩;have q1:=h5.own_cells 0 rfl;have hEnd:x.End=x.w.End:=rfl;refine Zaf [Iw x.End,Sn,bv,pt g,Pn] ?_ ?_
 .obtain ⟨A,cc,rfl,_⟩:=h5.shape 0 rfl<|λ_=>Zp;kernel_rfl
 refine Yp (cs:=[Iw x.End,Sn,bv,pt g,Pn]) h5 rfl λp w6 h6=>?_;rw[ZYE,ZOc];generalize hwdx:x.w=wd at*;have hEnd:x.End=wd.End:=by rw[<-hwdx];rfl
 rw[hEnd,hxl.symm] at h6;have hi6:∀{A B C D:HP},(A::B::C::D::blk b 25 x.cs::L)[i+5]?=some S:=hi;have h7:Sat e w6 (Yh (nkH wd 0 λ_=>(0,0))::blk p 66 [Iw wd.End,Sn,bv,pt g,Pn]::Zz 116 1 one Sn (nkV wd 0 λ_=>(0,0))::Zz 46 1 one bv (List.replicate wd.Feds.length Sn)::Yx g wd.Feds.length room (λ_ _=>[])::blk b 25 x.cs::L):=by
  have h8:=h6.own_nil 116 1 one;exact Sat.join (l':=[])<|h8.sn 5 [1,0,2,3,4]
 refine Za<|Zb h7 5 rfl (v:=x.fv) rfl<|Zt h7 (i+6) hi (λ_ h=>(hr _ h).feds) ?_;refine ZjF (λz t11 t51 w=>∃(j:Nat) (nv:Value) (ms:Nat->Nat × Nat),j<=x.Feds.length/\t51=Iw j/\t11=Iw (Zcz wd j:Nat)/\z=x.Feds.length - j/\
   Sat e w (Yh (nkH wd j ms)::blk p 66 [Iw wd.End,nv,bv,pt g,Pn]::Zz 116 1 one nv (nkV wd j ms)::Zz 46 1 one bv (List.replicate wd.Feds.length Sn)::Yx g wd.Feds.length room (λ_ _=>[])::blk b 25 x.cs::L)) x.Feds.length
  ⟨0,Sn,λ_=>(0,0),Nat.zero_le _,rfl,rfl,rfl,h7⟩ ?_
 rintro z _ _ w8 g1 ⟨j,nv,ms,hj,rfl,rfl,rfl,h8⟩ hg1;refine Za7 (λc0=>Zi ?_)<|λc0=>Zf ?_
 .have hjl:j<x.Feds.length:=by omega
  have hjw:j<wd.Feds.length:=by omega
  obtain ⟨fx,hfx⟩:=Zk (l:=x.Feds) (j:=j) hjl;have hfm:=List.mem_of_getElem? hfx;have hfa:Zs wd j=fx.f:=by
   have h9:=ZaN hjw;rw[<-hwdx] at h9 ⊢;have h10:x.w.Feds[j]?=some fx.f:=by simp only[WdX.w];rw[List.getElem?_map,hfx];rfl
   rw[h10] at h9;exact (Option.some.inj h9).symm
  have hfk:(Zs wd j).Kind=fx.Kind:=by rw[hfa];rfl
  have hi8:∀{A B C D E F:HP},(A::B::C::D::E::F::L)[i+6]?=some S:=hi;refine J1.cut (λt11 w=>∃nv ms,t11=Iw (Zcz wd (j+1):Nat)/\Sat e w (Yh (nkH wd (j+1) ms)::blk p 66 [Iw wd.End,nv,bv,pt g,Pn]::Zz 116 1 one nv (nkV wd (j+1) ms)::Zz 46 1 one bv (List.replicate wd.Feds.length Sn)::Yx g wd.Feds.length room (λ_ _=>[])::blk b 25 x.cs::L)) (λk2 hcut=>?_) ?_
  .refine Zw h8 (i+6) hi8 (λ_ h=>(hr _ h).feds) (λ_=>rfl) hfx λa ha=>Ym h8 (i+6) hi8 ha rfl<|Yp (cs:=(⟨0,0,0,Sn,[],Sn,[],Sn,[],Sn,[]⟩:Zao).cs) h8 rfl λt13 w9 h9=>Zq h9 0 rfl (vs:=fx.cs) rfl rfl (Nat.le_of_ble_eq_true rfl) (Zc1 (i+7) hi h9 λg hg=>(hr g hg).fed fx hfm) (cs':=fx.cs) (by rfl) λw10 h10=>?_;refine Za<|Zb h10 0 rfl (v:=Iw fx.Kind) rfl ?_;have h11:Sat e w10 (Yh (nkH wd j ms)::blk p 66 [Iw wd.End,nv,bv,pt g,Pn]::Zz 116 1 one nv (nkV wd j ms)::Zz 46 1 one bv (List.replicate wd.Feds.length Sn)::Yx g wd.Feds.length room (λ_ _=>[])::blk b 25 x.cs::L):=h10.drop;have hfw:wd.Feds[j]?=some (Zs wd j):=ZaN hjw;refine ZoR (λck=>Zi ?_)<|λck=>Zf ?_
   .refine Zo h11 5 (vs:=x.cs) rfl (by rfl) rfl ?_;have hmay:Zh3 wd j=some (Zs wd j):=by
     unfold Zh3;rw[if_pos (by omega),Int.toNat_natCast,hfw];show (if (Zs wd j).Kind=0 then some (Zs wd j) else none)=_;rw[if_pos (by rw[hfk];exact ck)]
    refine ZsZ (x:=x) (f:=(j:Int)) (i+6) hi8 h11 hr hwf hs (λh=>absurd c1<|by rw[hwdx] at h;exact h) (λ_ h=>by rw[hwdx,hmay] at h;cases h) λ_ m fd hm hfd' _ r w12 h12=>?_;have hmj:m=j:=by omega
    subst hmj;rw[hwdx] at hfd' h12;rw[hfw] at hfd';obtain rfl:=Option.some.inj hfd';refine Zam<|Zal<|Zh<|Za<|Zb h12 2 rfl (v:=nv) rfl<|Zaf [pt r] (by kernel_rfl) ?_;have hndk:ndK wd m=.slow (ZoV wd.Feds.length m<|Zs wd m):=Zgj (by rw[hfk];exact ck);refine ZtP (j:=m) (m:=(r,0)) (by omega) (by rw[hndk];rfl) (Q:=Zz 46 1 one bv (List.replicate wd.Feds.length Sn)::Yx g wd.Feds.length room (λ_ _=>[])::blk b 25 x.cs::L) (ms:=ms) (by rw[hndk];exact h12) λnv' w13 h13=>?_;refine hcut _ _ ⟨nv',_,?_,h13⟩;rw[ZhV hjw,if_pos (by rw[hfk];exact ck)];rfl
   .refine Zo h11 5 (vs:=x.cs) rfl (by rfl) rfl ?_;have hk1:(Zs wd j).Kind=1:=by
     rcases hkd _ (List.mem_of_getElem? hfw) with h | h
     .rw[hfk] at h;exact absurd h ck
     .exact h
    have hmay:Zhq wd j=some (Zs wd j):=by
     unfold Zhq;rw[if_pos (by omega),Int.toNat_natCast,hfw];show (if (Zs wd j).Kind=1 then some (Zs wd j) else none)=_;rw[if_pos hk1]
    refine Ztr (x:=x) (f:=(j:Int)) (i+6) hi8 h11 hr hwf hs (λh=>absurd c1<|by rw[hwdx] at h;exact h) (λ_ h=>by rw[hwdx,hmay] at h;cases h) λ_ m fd hm hfd' _ r w12 h12=>?_;have hmj:m=j:=by omega
    subst hmj;rw[hwdx] at hfd' h12;rw[hfw] at hfd';obtain rfl:=Option.some.inj hfd';refine Zam<|Zal<|Zh<|Za<|Zb h12 2 rfl (v:=nv) rfl<|Zaf [pt r,Iw (Zcz wd m:Nat),Iw 0] (by kernel_rfl) ?_;refine Yp (cs:=[pt r,Iw (Zcz wd m:Nat),Iw 0]) h12 rfl λbb w13 h13=>?_;have hndk:ndK wd m=.bold (ZiQ wd) (Zcz wd m) 0:=Zgb (by rw[hfk];exact ck);refine ZtP (j:=m) (m:=(r,bb)) (by omega) (by rw[hndk];rfl) (Q:=Zz 46 1 one bv (List.replicate wd.Feds.length Sn)::Yx g wd.Feds.length room (λ_ _=>[])::blk b 25 x.cs::L) (ms:=ms) (by rw[hndk];exact Sat.join (l':=[_,_]) h13) λnv' w14 h14=>Yr (by have:=ZhV hjw;have:Zcz wd m<=wd.Feds.length:=Nat.le_trans (List.length_filter_le _ _) (by rw[List.length_take];omega);omega) ?_;refine hcut _ _ ⟨nv',_,?_,h14⟩;rw[ZhV hjw,if_neg (by rw[hfk];exact ck)]
  .rintro _ w9 ⟨nv',ms',rfl,h9⟩;exact Qincs<|hg1 _ _ _ _ (by omega) ⟨j+1,nv',ms',by omega,rfl,rfl,rfl,h9⟩
 .have ej:j=wd.Feds.length:=by omega
  subst ej;rw[Zs7];have hb8:=Zk9 hwd;generalize hk0:KS.init0 wd rm=k0;have hki:=Zqp c1 rm;rw[hk0] at hki;have hnd:∀f,f<wd.Feds.length->k0.node f=ndK wd f:=λf hf=>by rw[<-hk0,Zgi hf];rfl
  have hbx:∀f,k0.box f=[]:=λf=>by rw[<-hk0];exact ZmC rm f
  have hcut0:k0.cut=if Zai wd=0 then none else some (CL.zero<|Zai wd):=by rw[<-hk0];rfl
  have parts:∀{w:World} (c:Nat) {Q:List HP},Sat e w (Yh (nkH wd wd.Feds.length ms)::blk p 66 [Iw wd.End,nv,bv,pt g,ZG0 k0.cut c]::Zz 116 1 one nv (nkV wd wd.Feds.length ms)::Zz 46 1 one bv (List.replicate wd.Feds.length Sn)::Yx g wd.Feds.length room (λ_ _=>[])::ZBC (Zai wd) k0.cut c::Q)->
    Sat e w (KP p wd 0 k0 ⟨nv,bv,g,c,ms,λ_=>Sn⟩++Q):=by
   intro w c Q h;have h9:=ZuX (List.range wd.Feds.length) h;have e2:Zat wd 0 k0 ⟨nv,bv,g,c,ms,λ_=>Sn⟩=nkH wd wd.Feds.length ms:=List.map_congr_left λf hf=>by rw[hnd f<|List.mem_range.1 hf]
   have e3:Zar wd k0 ⟨nv,bv,g,c,ms,λ_=>Sn⟩=(List.range wd.Feds.length).map λ_=>DI Sn []:=List.map_congr_left λf _=>by rw[hbx]
   have e4:Zju wd k0 ⟨nv,bv,g,c,ms,λ_=>Sn⟩=nkV wd wd.Feds.length ms:=List.map_congr_left λf hf=>by rw[hnd f<|List.mem_range.1 hf]
   have e5:Zg7 wd ⟨nv,bv,g,c,ms,λ_=>Sn⟩=List.replicate wd.Feds.length Sn:=by
    show ((List.range wd.Feds.length).map λ_=>Sn)=_;rw[List.map_const',List.length_range]
   have e6:(λa b=>k0.q a b)=λ_ _=>[]:=by
    funext a b;rw[<-hk0];exact ZqT rm a b
   have e7:(k0.room:Int)=room:=by rw[<-hk0,hrm'];rfl
   show Sat e w ([Yh<|Zat wd 0 k0 _,Yh<|Zar wd k0 _,blk p _ _,Zz _ 1 one _<|Zju wd k0 _,Zz _ 1 one _<|Zg7 wd _,Yx _ _ _<|λa b=>k0.q a b,ZBC (Zai wd) k0.cut _]++Q);rw[e2,e3,e4,e5,e6,e7];exact h9.sn 7 [1,0,2,3,4,5,6]
  refine ZFJ<|J0.cut (λw=>∃M',Sat e w<|KP p wd 0 k0 M'++blk b 25 x.cs::L) (λk3 hcut=>?_) ?_
  .by_cases hb:Zai wd=0
   .have e2:k0.cut=none:=by rw[hcut0,if_pos hb]
    rw[decide_eq_false (by omega)];refine Zf<|hcut _ ⟨_,parts 0 ?_⟩;rw[e2];have h9:=h8.mk_pure (p:=True) trivial;exact h9.sn 7 [1,2,3,4,5,0,6]
   .have e2:k0.cut=some (CL.zero<|Zai wd):=by rw[hcut0,if_neg hb]
    rw[decide_eq_true (by omega)];refine Zi<|ZuG (by omega) (by omega) h8 λc w9 h9=>?_;refine Zam<|Zal<|Zh<|Za<|Zq h9 2 rfl (vs:=[pt c]) rfl rfl (Nat.le_of_ble_eq_true rfl) (by simp[flat]) (cs':=[Iw wd.End,nv,bv,pt g,pt c]) (by rfl) λw10 h10=>?_;refine hcut _ ⟨_,parts c ?_⟩;rw[e2];rw[ZuA] at h10;exact h10.sn 7 [1,2,3,4,5,0,6]
  .rintro w9 ⟨M',h9⟩;refine Zo h9 7 (vs:=x.cs) rfl (by rfl) rfl ?_;refine ZwB (x:=x) (i+8) hi h9 hr hs (by have:=hwd.tree;rw[<-hwdx] at this;exact this) (by omega) (λf hf=>?_) λv w10 h10 hsl=>?_
   .have hfm:f.f∈wd.Feds:=by rw[<-hwdx];exact List.mem_map_of_mem hf
    have h:=hwd.init f.f hfm;have hp:wd.Parents=x.Parents:=by rw[<-hwdx];rfl
    rw[hp] at h;exact ⟨h.1,λo ho=>(h.2 o ho).1⟩
   .rw[hwdx] at h10 hsl;have hmem:=λm (h:m∈Zaz wd.Parents wd.Feds wd.Feds)=>Znu h;have hmok:=λm (h:m∈Zaz wd.Parents wd.Feds wd.Feds)=>Zql (wd:=wd) h;have hfin:(Zaz wd.Parents wd.Feds wd.Feds).foldl ZxY k0=KS.init wd rm:=by rw[<-hk0,<-ZuV]
    generalize Zaz wd.Parents wd.Feds wd.Feds=l at h10 hsl hmem hmok hfin;refine Qln h10 0 rfl<|Zdk (λz t113 w=>∃j:Nat,j<=l.length/\t113=Iw j/\z=l.length - j/\∃M',Sat e w<|Zz 85 6 Msg.cs v l::(KP p wd 0 ((l.take j).foldl ZxY k0) M'++blk b 25 x.cs::L)) l.length ⟨0,Nat.zero_le _,rfl,rfl,M',h10⟩ ?_;rintro z _ w11 g4 ⟨j,hj',rfl,rfl,M2,h11⟩ hg4;refine Za7 (λc5=>Zi ?_)<|λc5=>Zf ?_
    .obtain ⟨m,hm⟩:=Zk (l:=l) (j:=j) (by omega);have hml:=List.mem_of_getElem? hm;obtain ⟨fi,fd,hfi,hsp⟩:=hmem m hml;have hfrom:m.key.From=(fi:Int):=(Zpu hsp).from';have hfil:fi<wd.Feds.length:=(List.getElem?_eq_some_iff.1 hfi).1;have hpre:=Zof (wd:=wd) (l.take j) k0 0 (λy hy=>hmok y<|List.mem_of_mem_take hy) hki;rw[List.length_take] at hpre;refine Qix h11 0 rfl hm λa ha=>Ym h11 0 rfl ha rfl<|Yp (cs:=Msg.zero.cs) h11 rfl λt19 w12 h12=>Zq h12 0 rfl (vs:=m.cs) rfl rfl (by decide) (Zg _) (cs':=m.cs) (by rfl) λw13 h13=>?_;refine Za<|Za<|Zb h13 0 rfl (v:=Iw m.key.From) rfl<|Zo h13 0 (vs:=m.cs) rfl (by rfl) rfl ?_;refine Zaf (Zae m).cs (by kernel_rfl) ?_;refine ZwC (vs:=(Zae m).cs) rfl rfl h13 λbb w14 h14=>?_;rw[hfrom];have h15:Sat e w14 (KP p wd 0 ((l.take j).foldl ZxY k0) M2++blk bb 88 (Zae m).cs::(Zz 85 6 Msg.cs v l::blk b 25 x.cs::L)):=h14.sn 11 [3,4,5,6,7,8,9,0,2,10];refine ZdQ (l:=[Zae m]) (S:=blk bb 88 (Zae m).cs) hfil hpre.bl (Nat.le_trans (hpre.len fi)<|by omega) (Nat.le_of_ble_eq_true rfl) h15 (Zfu (f:=Zn.cs)<|Nat.le_refl _) λM3 w16 _ h16=>Qincs<|hg4 _ _ _ (by omega) ⟨j+1,by omega,rfl,rfl,M3,?_⟩;have e9:(l.take<|j+1).foldl ZxY k0=((l.take j).foldl ZxY k0).put fi [Zae m]:=by
      rw[Zx hm,List.foldl_append];show KS.put _ m.key.From.toNat [Zae m]=_;rw[hfrom,Int.toNat_natCast]
     rw[e9];exact h16.sn 10 [8,0,1,2,3,4,5,6,9]
    .have ej:j=l.length:=by omega
     rw[ej,List.take_length,hfin] at h11;have hki2:=Ze1.init c1 rm;exact hok p _<|ZkQ hki2<|h11.sn 9 [1,2,3,4,5,6,7]
def Z2d:Zn:=⟨2,⟨⟨Inf,0,0⟩,0,0,0⟩,0⟩
def Z1h (N:WN):WN:=⟨N.old,N.ms,N.q,N.fl,[-1,-1,Inf]⟩
theorem ZY5.bound {all:List Msg} {N:WN} (h:ZY5 all N):ZYr N 2 Z2d=⟨0,[],Z1h N⟩:=by
 unfold ZYr;rw[Zvb (by refine ⟨by omega,?_,by omega⟩;show (2:Int)<((3:Nat):Int);omega)];have h2:N.at' 2=0:=by unfold WN.at';rw[h.clk];rfl
 show (if N.at' 2<0\/Yu Inf=false then _ else if Inf<N.at' 2 then _ else _)=_;rw[h2,if_neg (by decide),if_neg (by decide),h.clk];rfl
theorem hear_early {N:WN} (h1:N.at' 1=-1) {m:Msg} {c:Int} (hm:m.key.T<N.fl):ZYr N 1 ⟨0,m,c⟩=⟨110,[],N⟩/\ZYr N 1 ⟨1,m,c⟩=⟨110,[],N⟩:=by
 have hj:(0:Int)<=1/\(1:Int)<ZZ0.Feds.length/\(1:Int)≠((0:Nat):Int):=⟨by omega,by show (1:Int)<((3:Nat):Int);omega,by omega⟩;constructor
 .unfold ZYr;rw[Zvb hj];show (if m.key.T<N.fl\/(0<=N.at' 1/\m.key.T<N.at' 1) then _ else _)=_;rw[if_pos (.inl hm)]
 .unfold ZYr;rw[Zvb hj];show (if 0<=N.at' 1 then _ else if m.key.T<N.fl then _ else _)=_;rw[if_neg (by omega),if_pos hm]
theorem ZY5.twice {all:List Msg} {N:WN} (h:ZY5 all N) {m:Msg} {c:Int} (hm:0<=m.key.T) (hin:∃y∈all,y.key=m.key):ZYr N 1 ⟨0,m,c⟩=⟨3,[],N⟩:=by
 unfold ZYr;rw[Zvb (by refine ⟨by omega,?_,by omega⟩;show (1:Int)<((3:Nat):Int);omega)];show (if m.key.T<N.fl\/(0<=N.at' 1/\m.key.T<N.at' 1) then _ else if ZeQ m.key (N.ms++N.q)=true then _ else _)=_;have h1:=h.at1;have h2:=h.fl;rw[if_neg (by omega),h.line,if_pos<|Zgl.2 hin]
theorem hj1:(0:Int)<=1/\(1:Int)<ZZ0.Feds.length/\(1:Int)≠((0:Nat):Int):=⟨by omega,by show (1:Int)<((3:Nat):Int);omega,by omega⟩
theorem Z0u (k:Key) (a b:List Msg):ZeQ k (a++b)=(ZeQ k a || ZeQ k b):=List.any_append
theorem ZY5.anti {all:List Msg} {N:WN} {k:Nat} (h:ZY5 all N) (hW:WOk ZZ0 0 bF0 N k) {m:Msg} {c:Int} (hm:0<=m.key.T) (hin:ZeQ m.key all=true) (hl:all.length<=64) :
  (ZYr N 1 ⟨1,m,c⟩).e=0/\ZY5 (without all m.key) (ZYr N 1 ⟨1,m,c⟩).N:=by
 have hlen:N.ms.length+N.q.length=all.length:=by rw[<-h.line,List.length_append]
 have hh:(Yj m.key N.ms).length<=N.ms.length:=List.length_filter_le ..;have h1:=h.at1;have h2:=h.fl;have hcls:∀y∈without all m.key,y.Class=0:=λy hy=>h.cls y (ZTD.1 hy).1;unfold ZYr;rw[Zvb hj1];rw[if_neg (show ¬(1:Int)=2 by decide),if_neg (show ¬(1:Int)=0 by decide),if_pos rfl];show HR.e (if 0<=N.at' 1 then _ else if m.key.T<N.fl then _ else if ZeQ m.key N.q=true then _ else if ZeQ m.key N.ms=false then _ else if 65<N.q.length+(Yj m.key N.ms).length then _ else _)=0/\ZY5 _ (HR.N<|if 0<=N.at' 1 then _ else if m.key.T<N.fl then _ else if ZeQ m.key N.q=true then _ else if ZeQ m.key N.ms=false then _ else if 65<N.q.length+(Yj m.key N.ms).length then _ else _);rw[if_neg (by omega),if_neg (by omega)];cases hq:ZeQ m.key N.q with
 | true=>
  rw[if_pos rfl];refine ⟨rfl,h.old,h.fl,h.clk,?_,hcls⟩;show N.ms++without N.q m.key=_;rw[<-h.line,ZlU];congr 1;refine (Zkv λy hy he=>?_).symm;obtain ⟨x,hx,hx2⟩:=Zgl.1 hq;have:=hW.line.mid hy hx;rw[he,hx2] at this;exact Zv.irrefl _ this
 | false=>
  have hms:ZeQ m.key N.ms=true:=by
   rw[<-h.line,Z0u,hq,Bool.or_false] at hin;exact hin
  rw[if_neg (by decide),hms,if_neg (by decide),if_neg (by omega)];refine ⟨rfl,h.old,h.fl,h.clk,?_,hcls⟩;show ZbF m.key N.ms++without (Yj m.key N.ms++N.q) m.key=_;rw[ZrJ hW.line,h.line]
theorem ZY5.none {all:List Msg} {N:WN} (h:ZY5 all N) {m:Msg} {c:Int} (hm:0<=m.key.T) (hin:ZeQ m.key all=false):ZYr N 1 ⟨1,m,c⟩=⟨4,[],N⟩:=by
 have h1:=h.at1;have h2:=h.fl;rw[<-h.line,Z0u] at hin;have hq:ZeQ m.key N.q=false:=by cases hq:ZeQ m.key N.q with | false=>rfl | true=>rw[hq,Bool.or_true] at hin;cases hin
 have hms:ZeQ m.key N.ms=false:=by cases hms:ZeQ m.key N.ms with | false=>rfl | true=>rw[hms] at hin;cases hin
 unfold ZYr;rw[Zvb hj1];rw[if_neg (show ¬(1:Int)=2 by decide),if_neg (show ¬(1:Int)=0 by decide),if_pos rfl];show (if 0<=N.at' 1 then _ else if m.key.T<N.fl then _ else if ZeQ m.key N.q=true then _ else if ZeQ m.key N.ms=false then _ else _)=_;rw[if_neg (by omega),if_neg (by omega),hq,if_neg (by decide),hms,if_pos rfl]
end Go.Proofs.YtceipnkeijhebaaGreat
end
section
namespace Go.Proofs.YtceipnkeijhebaaGreat
open Go Go.E
set_option maxRecDepth 100000
variable {e w:World} {L Q R:List HP} {K:KV} {S S2:HP}
structure WOp where
 Kind:Int
 From':Int
 T:Int
 I:Zn
def WOp.ns (o:WOp):List Int:=[o.Kind,o.From',o.T,o.I.Kind,o.I.m.key.T,o.I.m.key.From,o.I.m.key.Seq,o.I.m.To,o.I.m.Class,o.I.m.Body,o.I.Colour]
abbrev WOp.cs (o:WOp):List Value:=Yi o.ns
def WOp.of (l:List Int):WOp:=⟨l.getD 0 0,l.getD 1 0,l.getD 2 0,⟨l.getD 3 0,⟨⟨l.getD 4 0,l.getD 5 0,l.getD 6 0⟩,l.getD 7 0,l.getD 8 0,l.getD 9 0⟩,l.getD 10 0⟩⟩
theorem WOp.of_ns {l:List Int} (h:l.length=11):(WOp.of l).ns=l:=by
 match l,h with
 | [_,_,_,_,_,_,_,_,_,_,_],_=>rfl
theorem WOp.of_cs {l:List Int} (h:l.length=11):(WOp.of l).cs=Yi l:=congrArg Yi<|WOp.of_ns h
def WOp.wf (o:WOp):Prop:=∀m∈o.ns,(Lit.int .i64 m).wf=true
theorem WOp.wf.t {o:WOp} (h:o.wf):ZmY o.I.m.key.T:=ZmY.of_wf<|h _ (by simp[WOp.ns])
section
variable {wd:Wd} {f:Nat} {fd:Fed} {N:WN} {k:Nat}
end
end Go.Proofs.YtceipnkeijhebaaGreat
end
section
namespace Go.Proofs.YtceipnkeijhebaaGreat
open Go Go.E
set_option maxRecDepth 100000
variable {e w:World} {L Q R:List HP} {K:KV} {S S2:HP}
theorem Z0X {l:List Fed} {g:Fed} (hk:¬g.Kind=0):ZdE (l++[g])=ZdE l++[-1]:=by
 unfold ZdE;rw[List.map_append,List.map_singleton,if_neg hk]
theorem Z0z {l:List Fed} {g:Fed} (hk:g.Kind=0):ZdE (l++[g])=(ZdE l++[-1]).set l.length 0:=by
 unfold ZdE;rw[List.map_append,List.map_singleton,if_pos hk,List.set_append_right _ _ (by rw[List.length_map];exact Nat.le_refl _),List.length_map,Nat.sub_self];rfl
theorem Z1g {x:WdX} {f:Int} (i:Nat) (hi:L[i]?=some S) (hS:Sat e w L) (hr:∀g,S g->ZtG x g) (hs:x.short)
  (hbad:(Za4 x.w).2≠0->∀w',Sat e w' L->K (.tuple #[Pn,Iw (Za4 x.w).2]) w')
  (harg:(Za4 x.w).2=0->Zhq x.w f=none->∀w',Sat e w' L->K (.tuple #[Pn,Iw 1]) w')
  (hok:(Za4 x.w).2=0->∀(n:Nat) fd,f=n->x.w.Feds[n]?=some fd->Zhq x.w f=some fd->∀r w',Sat e w' (ZYz r x n fd (ZiQ x.w) 0::L)->K (.tuple #[pt r,Iw 0]) w') :
  Cl prog 34 #[.agg x.cs.toArray,Iw f] w K:=by
 refine ZM2 ?_;unfold ZMW;refine Yp (cs:=x.cs) hS rfl λb w1 h1=>Zo h1 0 (vs:=x.cs) rfl (by rfl) rfl ?_;refine ZKG (x:=x) (i+1) hi h1 hr hs λw2 h2=>Zam<|Zal<|ZrP (λc1=>Zi<|hbad c1 _ h2.drop)<|λc1=>Zf ?_;have hwd:=ZfI c1;have hi2:(blk b 25 x.cs::L)[i+1]?=some S:=hi;have hwl:x.w.Feds.length=x.Feds.length:=by simp[WdX.w]
 by_cases d1:f<0
 .exact Ztt d1<|Zd<|Zd<|Zd<|Zd<|Zd<|Yv<|Zd<|Zd<|Zd<|Zd<|Zd<|Zd<|Zd<|Yv<|Zi<|harg c1 (if_neg<|by omega) _ h2.drop
 refine Ze7 d1<|Zj<|Zj<|Za<|Zj<|Zb h2 0 rfl (v:=x.fv) rfl<|Zj<|Zt h2 (i+1) hi2 (λ_ h=>(hr _ h).feds) ?_;by_cases d2:(x.Feds.length:Int)<=f
 .refine Ze<|Qget<|Yd<|Zd<|Zd<|Zd<|Zd<|Zd<|Zd<|Zd<|Yv<|Zi<|harg c1 ?_ _ h2.drop;unfold Zhq;rw[if_pos (by omega),List.getElem?_eq_none (by omega)];rfl
 refine Zj<|Qgef<|Yd ?_;obtain ⟨n,rfl⟩:∃n:Nat,f=n:=⟨f.toNat,by omega⟩;obtain ⟨fd,hfd⟩:=Zk (l:=x.Feds) (j:=n) (by omega);have hfdm:=List.mem_of_getElem? hfd;have hwf':x.w.Feds[n]?=some fd.f:=by simp only[WdX.w];rw[List.getElem?_map,hfd];rfl
 have hmay:Zhq x.w n=if fd.Kind=1 then some fd.f else none:=by
  unfold Zhq;rw[if_pos (by omega),Int.toNat_natCast,hwf'];rfl
 refine Zj<|Za<|Zj<|Zb h2 0 rfl (v:=x.fv) rfl<|Zj<|Zj<|Zw h2 (i+1) hi2 (λ_ h=>(hr _ h).feds) (λ_=>rfl) hfd λp hp=>Zj<|Zbd hp λp1 hp1=>Zj<|Yt h2 (i+1) hi2 hp1 (v:=Iw fd.Kind) rfl<|Zj<|ZrP (λd3=>Yd<|Zi<|harg c1 (by rw[hmay,if_neg d3]) _ h2.drop)<|λd3=>Yd<|Zf ?_;rw[if_pos d3] at hmay;refine ZaY h2 λw4 h4=>Zo h4 0 (vs:=x.cs) rfl (by rfl) rfl ?_;refine Za<|Zb h4 0 rfl (v:=x.fv) rfl<|Zw h4 (i+1) hi2 (λ_ h=>(hr _ h).feds) (λ_=>rfl) hfd λp2 hp2=>Zbd hp2 λp3 hp3=>Yt h4 (i+1) hi2 hp3 (v:=Iw fd.Start) rfl<|Za<|Zb h4 0 rfl (v:=x.fv) rfl<|Zw h4 (i+1) hi2 (λ_ h=>(hr _ h).feds) (λ_=>rfl) hfd λp4 hp4=>Zbd hp4 λp5 hp5=>Yt h4 (i+1) hi2 hp5 (v:=fd.iv) rfl<|Zt h4 (i+1) hi2 (λg hg=>((hr g hg).fed fd hfdm).init) ?_;have hn:=hwd.n;have o5:∀{l':List HP} {w'} {A:Prop} (j jb:Nat),Sat e w' l'->l'[j]?=some S->l'[jb]?=some (blk b 25 x.cs)->A->
   ((ld1 (.pointer<|some p5) w'<|λv' w''=>v'=fd.iv/\w''=w')/\((ld1 (.pointer<|some ⟨b,0+1,none⟩) w'<|λv' w''=>v'=x.fv/\w''=w')/\((ld1 (.pointer<|some p3) w'<|λv' w''=>v'=Iw fd.Start/\w''=w')/\((ld1 (.pointer<|some ⟨b,0+1,none⟩) w'<|λv' w''=>v'=x.fv/\w''=w')/\((ldN 3 (pt b) w'<|λv' w''=>v'=.agg x.cs.toArray/\w''=w')/\A))))):=λj jb h' hj hb hA=>
  ⟨Yt h' j hj hp5 (v:=fd.iv) rfl ⟨rfl,rfl⟩,Zb h' jb hb (v:=x.fv) rfl ⟨rfl,rfl⟩,Yt h' j hj hp3 (v:=Iw fd.Start) rfl ⟨rfl,rfl⟩,Zb h' jb hb (v:=x.fv) rfl ⟨rfl,rfl⟩,Zo h' jb hb (vs:=x.cs) rfl (by rfl) ⟨rfl,rfl⟩,hA⟩
 refine ZM5 h4 λq w5 h5=>o5 (i+2) 1 h5 hi rfl<|Z0g h5 λp w6 h6=>o5 (i+3) 2 h6 hi rfl<|ZM6 h6 λg w7 h7=>o5 (i+4) 3 h7 hi rfl<|Zaf (rws x n fd.Start fd.Init.length q p g Sn Sn) (by kernel_rfl) ?_;refine Yp (cs:=rws x n fd.Start fd.Init.length q p g Sn Sn) h7 rfl λr w8 h8=>?_;have hxl:x.Feds.length<=8:=by have:=hn.2;omega
 have h9:=h8.own_nil 3 1<|Ye .i64;refine Zdk (λmm t9 w=>∃(j:Nat) (cv:Value),j<=x.Feds.length/\t9=Iw j/\mm=x.Feds.length - j/\Sat e w (DN cv (ZdE<|(x.Feds.take j).map Zao.f)::BR r x n fd.Start fd.Init.length q p g cv Sn::ZM8 g 0 []::ZVv p 0 []::ZNs q 64 []::blk b 25 x.cs::L)) x.Feds.length
  ⟨0,Sn,Nat.zero_le _,rfl,rfl,h9⟩ ?_
 rintro mm _ w9 g1 ⟨j,cv,hj,rfl,rfl,h10⟩ hg1;have hi6:∀{A1 A2 A3 A4 A5 A6:HP},(A1::A2::A3::A4::A5::A6::L)[i+6]?=some S:=λ{_ _ _ _ _ _}=>by simpa using hi
 refine Za<|Zb h10 5 rfl (v:=x.fv) rfl<|Zt h10 (i+6) hi6 (λ_ h=>(hr _ h).feds)<|Za7 (λc=>Zi ?_)<|λc=>Zf ?_
 .obtain ⟨fj,hfj⟩:=Zk (l:=x.Feds) (j:=j) (by omega);have htl:((x.Feds.take j).map Zao.f).length=j:=by rw[List.length_map,List.length_take];omega
  have htk:(x.Feds.take<|j+1).map Zao.f=(x.Feds.take j).map Zao.f++[fj.f]:=by rw[Zx hfj,List.map_append];rfl
  have hcl:(ZdE<|(x.Feds.take j).map Zao.f).length=j:=by unfold ZdE;rw[List.length_map];exact htl
  refine J0.cut (λw=>∃cv',Sat e w<|DN cv' (ZdE<|(x.Feds.take<|j+1).map Zao.f)::BR r x n fd.Start fd.Init.length q p g cv' Sn::ZM8 g 0 []::ZVv p 0 []::ZNs q 64 []::blk b 25 x.cs::L) (λk2 hk2=>?_) ?_
  .refine Zh<|Za<|Zb h10 1 rfl (v:=cv) rfl<|Zj7 Zvs (f:=Ye .i64) (λ_=>rfl) Zmu h10 (x:=-1) rfl (by omega) λcv' w10 h11=>?_;have q1:=h11.own_cells 0 rfl;refine Zh (Za<|Zq h11 1 rfl (vs:=[cv']) q1.1 rfl (Nat.le_of_ble_eq_true rfl) (λc hc=>by rw[List.mem_singleton.1 hc];exact q1.2) (cs':=rws x n fd.Start fd.Init.length q p g cv' Sn) (by rfl) λw11 h12=>?_)
   replace h12:Sat e w11 (DN cv' (ZdE ((x.Feds.take j).map Zao.f)++[-1])::BR r x n fd.Start fd.Init.length q p g cv' Sn::ZM8 g 0 []::ZVv p 0 []::ZNs q 64 []::blk b 25 x.cs::L):=h12
   refine Za<|Zb h12 5 rfl (v:=x.fv) rfl<|Zw h12 (i+6) hi6 (λ_ h=>(hr _ h).feds) (λ_=>rfl) hfj λa ha=>Zbd ha λa1 ha1=>Yt h12 (i+6) hi6 ha1 (v:=Iw fj.Kind) rfl<|ZoR (λc2=>Zi ?_)<|λc2=>Zf ?_
   .refine Zh<|Za<|Zb h12 1 rfl (v:=cv') rfl<|ZdJ h12 0 rfl (λ_=>rfl) (by rw[List.length_append,hcl];simp) (x:=0) rfl (Zmu _) λw12 h13=>hk2 _ ⟨cv',?_⟩;rw[htk,Z0z (show fj.f.Kind=0 from c2),htl];exact h13
   .refine hk2 _ ⟨cv',?_⟩;rw[htk,Z0X (show ¬fj.f.Kind=0 from c2)];exact h12
  .rintro w10 ⟨cv',h11⟩;exact Qincs<|hg1 _ _ _ (by omega) ⟨j+1,cv',by omega,rfl,rfl,h11⟩
 .have ej:j=x.Feds.length:=by omega
  rw[ej,List.take_length] at h10;have h11:=h10.own_nil 129 7 Zak.cs;exact hok c1 n fd.f rfl hwf' hmay r _<|ZYg (N:=ZiQ x.w) (x:=x) (q:=q) (p:=p) (g:=g) (cv:=cv) (lv:=Sn) (WOk.init hwd hwf' d3)<|h11.sn 7 [2,5,4,3,1,0]
variable {x:WdX} {k:KS} {M:RM} {p n f s:Nat}
def slH (x:WdX) (j r:Nat):Nd->HP
 | .slow N=>ZY6 r x j N 0
 | _=>pur True
def boH (x:WdX) (j r:Nat):Nd->HP
 | .bold N _ _=>ZYz r x j (Zs x.w j) N 0
 | _=>pur True
theorem Z1L {j:Nat} (i:Nat) (hi:L[i]?=some S) (hS:Sat e w L) (hr:∀g,S g->ZtG x g) (hs:x.short) (hc:(Za4 x.w).2=0) (hj:j<x.w.Feds.length)
  (hk:∀r er w',Sat e w' (slH x j r (ndK x.w j)::L)->K (.tuple #[slP (ndK x.w j) r,er]) w'):Cl prog 33 #[.agg x.cs.toArray,Iw (j:Int)] w K:=by
 have hm:Zh3 x.w j=if (Zs x.w j).Kind=0 then some (Zs x.w j) else none:=by
  unfold Zh3;rw[if_pos (by omega),Int.toNat_natCast,ZaN hj];rfl
 refine ZZ5 i hi hS hr hs (λh=>absurd hc h) (λ_ h w' h'=>?_) λ_ m fd hm' hfd h r w' h'=>?_
 .have hn:ndK x.w j=.bold (ZiQ x.w) (Zcz x.w j) 0:=Zgb λh0=>by rw[hm,if_pos h0] at h;cases h
  rw[hn] at hk;exact hk 0 _ _<|h'.mk_pure trivial
 .obtain rfl:m=j:=by omega
  rw[ZaN hj] at hfd;obtain rfl:=Option.some.inj hfd;have hn:ndK x.w m=.slow (ZoV x.w.Feds.length m<|Zs x.w m):=Zgj (Classical.byContradiction λh0=>by rw[hm,if_neg h0] at h;cases h);rw[hn] at hk;exact hk r _ _ h'
theorem Z1P {j:Nat} (i:Nat) (hi:L[i]?=some S) (hS:Sat e w L) (hr:∀g,S g->ZtG x g) (hs:x.short) (hc:(Za4 x.w).2=0) (hj:j<x.w.Feds.length)
  (hk:∀r er w',Sat e w' (boH x j r (ndK x.w j)::L)->K (.tuple #[boP (ndK x.w j) r,er]) w'):Cl prog 34 #[.agg x.cs.toArray,Iw (j:Int)] w K:=by
 have hm:Zhq x.w j=if (Zs x.w j).Kind=1 then some (Zs x.w j) else none:=by
  unfold Zhq;rw[if_pos (by omega),Int.toNat_natCast,ZaN hj];rfl
 have hkd:=ZlD hc _<|List.mem_of_getElem?<|ZaN hj;refine Z1g i hi hS hr hs (λh=>absurd hc h) (λ_ h w' h'=>?_) λ_ m fd hm' hfd h r w' h'=>?_
 .have hn:ndK x.w j=.slow (ZoV x.w.Feds.length j<|Zs x.w j):=Zgj (hkd.resolve_right λh0=>by rw[hm,if_pos h0] at h;cases h);rw[hn] at hk;exact hk 0 _ _<|h'.mk_pure trivial
 .obtain rfl:m=j:=by omega
  rw[ZaN hj] at hfd;obtain rfl:=Option.some.inj hfd;have hn:ndK x.w m=.bold (ZiQ x.w) (Zcz x.w m) 0:=Zgb λh0=>by rw[hm,if_neg (by omega)] at h;cases h
  rw[hn] at hk;exact hk r _ _ h'
theorem Z1y {j a b:Nat} (h:Sat e w<|boH x j b (ndK x.w j)::slH x j a (ndK x.w j)::L):∃r,slP (ndK x.w j) a=slP (ndK x.w j) r/\boP (ndK x.w j) b=boP (ndK x.w j) r/\Sat e w (rnH x 0 j (ndK x.w j) r::L):=by
 cases hn:ndK x.w j with
 | slow N=>rw[hn] at h;exact ⟨a,rfl,rfl,h.drop⟩
 | bold N r t=>rw[hn] at h;exact ⟨b,rfl,rfl,h.swap.drop⟩
theorem Z2h (N:Nd) (m:Nat):((slP N m).cells.toList=[slP N m]/\flat (slP N m)=true)/\(boP N m).cells.toList=[boP N m]/\flat (boP N m)=true:=by cases N <;> exact ⟨⟨rfl,rfl⟩,rfl,rfl⟩
theorem Z0v {α:Type} (F:Nat->Nat->α) (ms:Nat->Nat) (j r:Nat):((List.range<|j+1).map λi=>F i<|if i=j then r else ms i)=((List.range j).map λi=>F i<|ms i)++[F j r]:=by
 rw[<-Zx5];refine List.map_congr_left λi _=>?_;by_cases h:i=j
 .subst h;rw[if_pos rfl,if_pos rfl]
 .rw[if_neg h,if_neg h]
theorem Z2e {st t:TypeId} {bytes:Nat} {sv u:Value} {l:List Value} {zero:Array Value} (T:TE prog st t 1 bytes) (hb:(l.length+1)*bytes<=140737488355328) (hu:u.cells.toList=[u]/\flat u=true) (hS:Sat e w<|Zz t 1 one sv l::Q)
  (hk:∀v' w',Sat e w' (Zz t 1 one v' (l++[u])::Q)->K v' w'):bsl t 1 1 zero [(0,u)] w λy w=>apS prog #[st,st] st sv y w K:=by
 refine ZwC hu.1 rfl hS λb w1 h1=>?_;refine Zcs T T.und (f:=one) (l:=l) (m:=[u]) (λ_=>rfl) (λx hx v hv=>by
  rw[List.mem_singleton.1 hx] at hv;rw[List.mem_singleton.1 hv];exact hu.2) h1.swap (Zfu (f:=one)<|Nat.le_refl _) (by rw[List.length_singleton];exact hb) λv' w2 h2=>hk _ _<|h2.swap.drop
abbrev rkc (x:WdX) (a b c d e:Value) (g:Nat) (f:Value):List Value:=[x.pv,x.fv,Iw x.End,a,b,c,d,e,pt g,f]
abbrev NKs (x:WdX) (j:Nat) (ms:Nat->Nat):List HP:=(List.range j).map λf=>rnH x 0 f (ndK x.w f)<|ms f
abbrev NPs (x:WdX) (j:Nat) (ms:Nat->Nat) (sv bv rv:Value):List HP:=[Zz 97 1 one sv<|(List.range j).map λf=>slP (ndK x.w f)<|ms f,Zz 100 1 one bv<|(List.range j).map λf=>boP (ndK x.w f)<|ms f,Zz 3 1 (Ye .i64) rv<|(List.range j).map λf=>rkI<|ndK x.w f]
theorem ZYX {room:Int} (i:Nat) (hi:L[i]?=some S) (hS:Sat e w L) (hr:∀g,S g->ZtG x g) (hs:x.short)
  (hbad:ZtU x.w room≠0->∀w',Sat e w' L->K (.tuple #[Pn,Iw<|ZtU x.w room]) w')
  (hok:ZtU x.w room=0->∀p w',Sat e w' (ZVX p x (KS.init x.w room.toNat) 0 0::L)->K (.tuple #[pt p,Iw 0]) w'):Cl prog 7 #[.agg x.cs.toArray,Iw room] w K:=by
 refine ZKg ?_;unfold ZKc;refine Yp (cs:=x.cs) hS rfl λb w1 h1=>?_;have hi1:(blk b 25 x.cs::L)[i+1]?=some S:=hi;refine Zo h1 0 (vs:=x.cs) rfl (by rfl) rfl<|ZKG (x:=x) (i+1) hi1 h1 hr hs λw2 h2=>Zam<|Zal<|ZrP (λc1=>Zi ?_) λhc=>Zf ?_
 .rw[show ZtU x.w room=(Za4 x.w).2 from if_pos c1] at hbad;exact hbad c1 _ h2.drop
 have hwd:=ZfI hc;have hn8:=hwd.n;have hxl:x.w.Feds.length=x.Feds.length:=by simp[WdX.w]
 refine Za<|Zb h2 0 rfl (v:=x.fv) rfl<|Zt h2 (i+1) hi1 (λ_ h=>(hr _ h).feds) ?_;by_cases hrm:1<=room/\room<=16
 case neg=>
  rw[show ZtU x.w room=1 by unfold ZtU;rw[if_neg<|λh=>h hc,if_neg hrm]] at hbad;refine ZZA (by unfold Z2l;omega) ?_;exact Zam<|Zal<|Zng (by decide)<|Zi<|hbad (by decide) _ h2.drop
 have hok:=hok (by unfold ZtU;rw[if_neg<|λh=>h hc,if_pos hrm]);obtain ⟨rm,rfl⟩:∃r:Nat,room=r:=⟨room.toNat,by omega⟩;rw[Int.toNat_natCast] at hok;refine Z0d (by omega) (by omega) hrm.1 hrm.2 h2 λg w3 h3=>Zam<|Zal<|ZoP rfl<|Zf<|ZaY h3 λw4 h4=>Zo h4 1 (vs:=x.cs) rfl (by rfl) rfl ?_;have hi2:∀{A B:HP},(A::B::L)[i+2]?=some S:=hi;refine Za<|Zb h4 1 rfl (v:=x.fv) rfl<|Zt h4 (i+2) hi2 (λ_ h=>(hr _ h).feds)<|Za<|Zb h4 1 rfl (v:=x.fv) rfl<|Zt h4 (i+2) hi2 (λ_ h=>(hr _ h).feds) ?_;have mkI:∀{w:World} {L:List HP} {K:KV},Sat e w L->(∀v w',Sat e w' (Zz 3 1 (Ye .i64) v (List.replicate x.Feds.length 0)::L)->K v w')->mkS prog 22 (Iw (x.Feds.length:Int)) (Iw (x.Feds.length:Int)) w K:=
  λh hk=>Zyg Zvs (by omega) h (Ye .i64) (λ_=>rfl) 0 (by kernel_rfl) hk
 have mkX:∀{w:World} {L:List HP} {K:KV},Sat e w L->(∀v w',Sat e w' (Zz 46 1 one v (List.replicate x.Feds.length Sn)::L)->K v w')->mkS prog 62 (Iw (x.Feds.length:Int)) (Iw (x.Feds.length:Int)) w K:=
  λh hk=>Zyg Z1X (by omega) h one (λ_=>rfl) Sn (by kernel_rfl) hk
 have o2:∀{l':List HP} {w'} {A:Prop} (j:Nat),Sat e w' l'->l'[j]?=some (blk b 25 x.cs)->A->((ld1 (.pointer<|some ⟨b,0+1,none⟩) w'<|λv' w''=>v'=x.fv/\w''=w')/\((ldN 3 (pt b) w'<|λv' w''=>v'=.agg x.cs.toArray/\w''=w')/\A)):=λj h' hj hA=>
  ⟨Zb h' j hj (v:=x.fv) rfl ⟨rfl,rfl⟩,Zo h' j hj (vs:=x.cs) rfl (by rfl) ⟨rfl,rfl⟩,hA⟩
 refine ⟨mkI h4 λtv w5 h5=>o2 2 h5 rfl<|mkX h5 λxv w6 h6=>o2 3 h6 rfl ?_,mkX h4 λxv w5 h5=>o2 2 h5 rfl<|mkI h5 λtv w6 h6=>o2 3 h6 rfl ?_⟩
 all_goals
  refine Zaf (rkc x Sn Sn Sn xv tv g Pn) ?_ ?_
  .obtain ⟨A1,c1,rfl,_⟩:=h6.shape 0 rfl<|λ_=>Zp;obtain ⟨A2,c2,rfl,_⟩:=h6.shape 1 rfl<|λ_=>Zp;kernel_rfl
  have h7:Sat e w6 (([Zz 46 1 one xv<|List.replicate x.Feds.length Sn,Zz 3 1 (Ye .i64) tv<|List.replicate x.Feds.length 0,ZVw g x.Feds.length rm<|λ_ _=>[],blk b 25 x.cs])++L):=by
   first
    | exact h6.swap
    | exact h6
  clear h6 h5 h4 h3 h2 h1;rw[<-hxl] at h7;refine Yp (cs:=(rkc x Sn Sn Sn xv tv g Pn)) h7 rfl λp w8 h8=>?_;have h9:Sat e w8 (Yh (NKs x 0 λ_=>0)::blk p 96 (rkc x Sn Sn Sn xv tv g Pn)::(NPs x 0 (λ_=>0) Sn Sn Sn++([Zz 46 1 one xv<|List.replicate x.w.Feds.length Sn,Zz 3 1 (Ye .i64) tv<|List.replicate x.w.Feds.length 0,ZVw g x.w.Feds.length rm<|λ_ _=>[],blk b 25 x.cs]++L))):=
   Sat.join (l':=[]) ((((h8.own_nil 3 1<|Ye .i64).own_nil 100 1 one).own_nil 97 1 one).sn 4 [3,0,1,2])
  refine ZjF (λz t11 t12 w=>∃(j:Nat) (sv bv rv:Value) (ms:Nat->Nat),j<=x.w.Feds.length/\t12=Iw j/\t11=Iw (Zcz x.w j:Nat)/\z=x.w.Feds.length - j/\
   Sat e w (Yh (NKs x j ms)::blk p 96 (rkc x sv bv rv xv tv g Pn)::(NPs x j ms sv bv rv++([Zz 46 1 one xv<|List.replicate x.w.Feds.length Sn,Zz 3 1 (Ye .i64) tv<|List.replicate x.w.Feds.length 0,ZVw g x.w.Feds.length rm<|λ_ _=>[],blk b 25 x.cs]++L)))) x.w.Feds.length
   ⟨0,_,_,_,_,Nat.zero_le _,rfl,rfl,rfl,h9⟩ ?_
  rintro z _ _ w10 g1 ⟨j,sv,bv,rv,ms,hj,rfl,rfl,rfl,h10⟩ hg1;have hi6:∀{A B C D E F G H I:HP},(A::B::C::D::E::F::G::H::I::L)[i+9]?=some S:=hi;refine Za<|Zb h10 8 rfl (v:=x.fv) rfl<|Zt h10 (i+9) hi6 (λ_ h=>(hr _ h).feds) ?_;rw[Z1d];refine Za7 (λc0=>Zi ?_)<|λc0=>Zf ?_
  .have hjl:j<x.w.Feds.length:=by omega
   refine J1.cut (λt11 w=>∃(sv bv rv:Value) (ms:Nat->Nat),t11=Iw (Zcz x.w (j+1):Nat)/\
    Sat e w (Yh (NKs x (j+1) ms)::blk p 96 (rkc x sv bv rv xv tv g Pn)::(NPs x (j+1) ms sv bv rv++([Zz 46 1 one xv<|List.replicate x.w.Feds.length Sn,Zz 3 1 (Ye .i64) tv<|List.replicate x.w.Feds.length 0,ZVw g x.w.Feds.length rm<|λ_ _=>[],blk b 25 x.cs]++L)))) (λk2 hcut=>?_) ?_
   .refine Zo h10 8 (vs:=x.cs) rfl (by rfl) rfl<|Z1L (i+9) hi6 h10 hr hs hc hjl λr1 _ w11 h11=>Zam<|Zal<|Zo h11 9 (vs:=x.cs) rfl (by rfl) rfl<|Z1P (i+10) hi h11 hr hs hc hjl λr2 _ w12 h12=>Zam<|Zal ?_;obtain ⟨r,e1,e2,h12⟩:=Z1y h12;rw[e1,e2];obtain ⟨q1,q2⟩:=Z2h (ndK x.w j) r;refine Zh<|Za<|Zb h12 2 rfl (v:=sv) rfl<|Z2e ZO0 (by rw[List.length_map,List.length_range];omega) q1 (h12.pick 3 rfl) λsv' w13 h13=>Zh<|Za<|Zpm h13 3 rfl (h13.own_cells 0 rfl) (Nat.le_of_ble_eq_true rfl) (cs':=rkc x sv' bv rv xv tv g Pn) rfl λw14 h14=>Zh<|Za<|Zb h14 3 rfl (v:=bv) rfl<|Z2e Z2g (by rw[List.length_map,List.length_range];omega) q2 (h14.pick 4 rfl) λbv' w15 h15=>Zh<|Za<|Zpm h15 4 rfl (h15.own_cells 0 rfl) (Nat.le_of_ble_eq_true rfl) (cs':=rkc x sv' bv' rv xv tv g Pn) rfl λw16 h16=>?_;have fin:∀{w rv'},Sat e w (Zz 3 1 (Ye .i64) rv' (((List.range j).map λf=>rkI<|ndK x.w f)++[rkI<|ndK x.w j])::Zz 100 1 one bv' (((List.range j).map λf=>boP (ndK x.w f)<|ms f)++[boP (ndK x.w j) r])::Zz 97 1 one sv' (((List.range j).map λf=>slP (ndK x.w f)<|ms f)++[slP (ndK x.w j) r])::rnH x 0 j (ndK x.w j) r::Yh (NKs x j ms)::blk p 96 (rkc x sv' bv' rv' xv tv g Pn)::([Zz 46 1 one xv<|List.replicate x.w.Feds.length Sn,Zz 3 1 (Ye .i64) tv<|List.replicate x.w.Feds.length 0,ZVw g x.w.Feds.length rm<|λ_ _=>[],blk b 25 x.cs]++L))->k2 (Iw (Zcz x.w (j+1):Nat)) w:=by
     intro w rv' h;refine hcut _ _ ⟨sv',bv',rv',λi=>if i=j then r else ms i,rfl,?_⟩;unfold NKs NPs;rw[Z0v<|λf m=>rnH x 0 f (ndK x.w f) m,Z0v<|λf m=>slP (ndK x.w f) m,Z0v<|λf m=>boP (ndK x.w f) m,Z0v (λf _=>rkI<|ndK x.w f) ms j r];exact ZiX<|h.sn 6 [3,4,5,2,1,0]
    have hra:=ZhV hjl;have hrb:Zcz x.w j<=x.w.Feds.length:=Nat.le_trans (List.length_filter_le _ _) (by rw[List.length_take];omega);by_cases ck:(Zs x.w j).Kind=0
    .have hn:ndK x.w j=.slow _:=Zgj ck;rw[show boP (ndK x.w j) r=Pn by rw[hn];rfl];rw[if_pos ck] at hra;refine Ztj<|Zi<|Zh<|Za<|Zb h16 4 rfl (v:=rv) rfl<|Zj7 Zvs (f:=Ye .i64) (λ_=>rfl) Zmu (h16.pick 5 rfl) (x:=-1) rfl (by rw[List.length_map,List.length_range];omega) λrv' w17 h17=>?_;refine Zh<|Za<|Zpm h17 5 rfl (h17.own_cells 0 rfl) (Nat.le_of_ble_eq_true rfl) (cs':=rkc x sv' bv' rv' xv tv g Pn) rfl λw18 h18=>?_;rw[show (-1:Int)=rkI (ndK x.w j) by rw[hn];rfl] at h18;rw[hra] at fin;exact fin h18
    .have hn:ndK x.w j=.bold _ (Zcz x.w j) 0:=Zgb ck;rw[show boP (ndK x.w j) r=pt r by rw[hn];rfl];rw[if_neg ck] at hra;refine ZmP _<|Zf<|Zh<|Za<|Zb h16 4 rfl (v:=rv) rfl<|Zj7 Zvs (f:=Ye .i64) (λ_=>rfl) Zmu (h16.pick 5 rfl) (x:=(Zcz x.w j:Int)) rfl (by rw[List.length_map,List.length_range];omega) λrv' w17 h17=>?_;refine Zh<|Za<|Zpm h17 5 rfl (h17.own_cells 0 rfl) (Nat.le_of_ble_eq_true rfl) (cs':=rkc x sv' bv' rv' xv tv g Pn) rfl λw18 h18=>Qincs ?_;rw[show (Zcz x.w j:Int)=rkI (ndK x.w j) by rw[hn];rfl] at h18;rw[hra] at fin;exact fin h18
   .rintro _ w11 ⟨sv',bv',rv',ms',rfl,h11⟩;exact Qincs<|hg1 _ _ _ _ (by omega) ⟨j+1,sv',bv',rv',ms',by omega,rfl,rfl,rfl,h11⟩
  obtain rfl:j=x.w.Feds.length:=by omega
  rw[Zs7];have hb8:=Zk9 hwd;generalize hk0:KS.init0 x.w rm=k0;have hki:=Zqp hc rm;rw[hk0] at hki;have hnd:∀f,f<x.w.Feds.length->k0.node f=ndK x.w f:=λf hf=>by rw[<-hk0,Zgi hf];rfl
  have hcut0:k0.cut=if Zai x.w=0 then none else some (CL.zero<|Zai x.w):=by rw[<-hk0];rfl
  have parts:∀{w:World} (c:Nat) {Q:List HP},Sat e w (ZN9 (Zai x.w) k0.cut c::Yh (NKs x x.w.Feds.length ms)::blk p 96 (rkc x sv bv rv xv tv g<|ZG0 k0.cut c)::(NPs x x.w.Feds.length ms sv bv rv++([Zz 46 1 one xv<|List.replicate x.w.Feds.length Sn,Zz 3 1 (Ye .i64) tv<|List.replicate x.w.Feds.length 0,ZVw g x.w.Feds.length rm<|λ_ _=>[]]++Q)))->
    Sat e w (RP p x 0 k0 ⟨sv,bv,rv,xv,tv,g,c,ms,λ_=>Sn⟩++Q):=by
   intro w c Q h;have hm:∀{α:Type} (F:Nd->Nat->α),((fes x).map λf=>F (k0.node f) f)=(fes x).map λf=>F (ndK x.w f) f:=λF=>List.map_congr_left λf hf=>by rw[hnd f<|List.mem_range.1 hf]
   have h9:=ZuX (List.range x.w.Feds.length) h;show Sat e w ([Yh<|(fes x).map λf=>rnH x 0 f (k0.node f)<|ms f,Yh<|(fes x).map λf=>DI Sn<|k0.box f,_,Zz _ 1 one sv<|(fes x).map λf=>slP (k0.node f)<|ms f,Zz _ 1 one bv<|(fes x).map λf=>boP (k0.node f)<|ms f,Zz _ 1 (Ye .i64) rv<|(fes x).map λf=>rkI<|k0.node f,Zz _ 1 one xv<|(fes x).map λ_=>Sn,Zz _ 1 (Ye .i64) tv<|(fes x).map λf=>tlI<|k0.node f,ZVw g _ (k0.room:Int)<|λa b=>k0.q a b,_]++Q);rw[hm λN f=>rnH x 0 f N<|ms f,hm λN f=>slP N<|ms f,hm λN f=>boP N<|ms f,hm λN _=>rkI N,hm λN _=>tlI N,show (λf=>DI Sn<|k0.box f)=λ_=>DI Sn [] by funext f;rw[<-hk0,ZmC],
    show (λa b=>k0.q a b)=λ_ _=>[] by funext a b;rw[<-hk0];exact ZqT rm a b,show k0.room=rm by rw[<-hk0];rfl,
    show ((fes x).map λ_=>Sn)=List.replicate x.w.Feds.length Sn by rw[List.map_const',List.length_range],
    show ((fes x).map λf=>tlI<|ndK x.w f)=List.replicate x.w.Feds.length 0 by
     rw[show (λf=>tlI<|ndK x.w f)=λ_=>0 by funext f;unfold ndK ZpY;split <;> rfl,List.map_const',List.length_range]]
   exact h9.sn 10 [2,0,3,4,5,6,7,8,9,1]
  refine ZFJ<|J0.cut (λw=>∃M',M'.xv=xv/\Sat e w (RP p x 0 k0 M'++blk b 25 x.cs::L)) (λk3 hcut=>?_) ?_
  .by_cases hb:Zai x.w=0
   .rw[if_pos hb] at hcut0;rw[decide_eq_false (by omega)];refine Zf<|hcut _ ⟨_,rfl,parts 0 ?_⟩;rw[hcut0];exact h10.mk_pure (p:=True) trivial
   .rw[if_neg hb] at hcut0;rw[decide_eq_true (by omega)];refine Zi<|ZZ9 (n:=Zai x.w) (by omega) hb8 h10 λc w12 h12=>?_;refine Zam<|Zal<|Zh<|Za<|Zq h12 2 rfl (vs:=[pt c]) rfl rfl (Nat.le_of_ble_eq_true rfl) (by simp[flat]) (cs':=rkc x sv bv rv xv tv g<|pt c) (by rfl) λw13 h13=>hcut _ ⟨_,rfl,parts c ?_⟩;rw[hcut0];rw[ZuA] at h13;exact h13
  rintro w11 ⟨M',_,h12⟩;refine Zo h12 10 (vs:=x.cs) rfl (by rfl) rfl<|ZKU (x:=x) (i+11) hi h12 hr hs hwd.tree (by omega) (λf hf=>?_) λv w13 h13 hsl=>?_
  .have h:=hwd.init f.f<|List.mem_map_of_mem hf;exact ⟨h.1,λo ho=>(h.2 o ho).1⟩
  have hmem:=λm (h:m∈Zaz x.w.Parents x.w.Feds x.w.Feds)=>Znu h;have hmok:=λm (h:m∈Zaz x.w.Parents x.w.Feds x.w.Feds)=>Zql (wd:=x.w) h;have hfin:(Zaz x.w.Parents x.w.Feds x.w.Feds).foldl ZxY k0=KS.init x.w rm:=by rw[<-hk0,<-ZuV]
  generalize Zaz x.w.Parents x.w.Feds x.w.Feds=l at h13 hsl hmem hmok hfin;refine Zdk (λz t113 w=>∃j:Nat,j<=l.length/\t113=Iw j/\z=l.length - j/\∃M',Sat e w<|Zz 85 6 Msg.cs v l::(RP p x 0 ((l.take j).foldl ZxY k0) M'++blk b 25 x.cs::L)) l.length ⟨0,Nat.zero_le _,rfl,rfl,M',h13⟩ ?_;rintro z _ w14 g4 ⟨j,hj,rfl,rfl,M2,h15⟩ hg4;refine Qln h15 0 rfl<|Za7 (λc5=>Zi ?_)<|λc5=>Zf ?_
  case refine_2=>
   rw[List.take_of_length_le (by omega),hfin] at h15;exact hok p _<|ZX8 (Ze1.init hc rm) (h15.drop.pick 10 rfl).drop
  obtain ⟨m,hm⟩:=Zk (l:=l) (j:=j) (by omega);obtain ⟨fi,fd,hfi,hsp⟩:=hmem m<|List.mem_of_getElem? hm;have hfrom:m.key.From=(fi:Int):=(Zpu hsp).from';have hfil:fi<x.w.Feds.length:=(List.getElem?_eq_some_iff.1 hfi).1;have hpre:=Zof (wd:=x.w) (l.take j) k0 0 (λy hy=>hmok y<|List.mem_of_mem_take hy) hki;rw[List.length_take] at hpre;have hln:=hpre.len fi;have e9:(l.take<|j+1).foldl ZxY k0=((l.take j).foldl ZxY k0).put fi [Zae m]:=by
   rw[Zx hm,List.foldl_append];show KS.put _ m.key.From.toNat [Zae m]=_;rw[hfrom,Int.toNat_natCast]
  generalize (l.take j).foldl ZxY k0=kj at*;refine ZaY h15 λw16 h16=>Zh<|Za<|Zb h16 3 rfl (v:=M2.xv) rfl<|Qix h16 0 rfl hm λa ha=>Zbd ha λa0 ha0=>Zbd ha0 λa1 ha1=>Yt h16 0 rfl ha1 (v:=Iw m.key.From) rfl<|Zh<|Za<|Zb h16 3 rfl (v:=M2.xv) rfl<|Qix h16 0 rfl hm λd hd=>Zbd hd λd0 hd0=>Zbd hd0 λd1 hd1=>Yt h16 0 rfl hd1 (v:=Iw m.key.From) rfl ?_;rw[hfrom];have hF:∀{w:World},Iw m.key.From=Iw (fi:Int)/\w=w:=⟨by rw[hfrom],rfl⟩;refine Qix h16 7 rfl (Yk hfil) λu hu=>Yt h16 7 rfl hu (v:=M2.vs fi) rfl<|Qix h16 0 rfl hm λy hy=>Ym h16 0 rfl hy rfl<|Zaf (Zae m).cs (by kernel_rfl)<|⟨Yt h16 7 rfl hu (v:=M2.vs fi) rfl ⟨rfl,rfl⟩,Yt h16 0 rfl hd1 (v:=Iw m.key.From) rfl hF,Zb h16 3 rfl (v:=M2.xv) rfl ⟨rfl,rfl⟩,Yt h16 0 rfl ha1 (v:=Iw m.key.From) rfl hF,Zb h16 3 rfl (v:=M2.xv) rfl ⟨rfl,rfl⟩,ZwC (vs:=(Zae m).cs) rfl rfl h16 λbb w17 h17=>⟨Yt h17 8 rfl hu (v:=M2.vs fi) rfl ⟨rfl,rfl⟩,Yt h17 1 rfl hd1 (v:=Iw m.key.From) rfl hF,Zb h17 4 rfl (v:=M2.xv) rfl ⟨rfl,rfl⟩,Yt h17 1 rfl ha1 (v:=Iw m.key.From) rfl hF,Zb h17 4 rfl (v:=M2.xv) rfl ⟨rfl,rfl⟩,?_⟩⟩;have h19:=(h17.pick 3 rfl).focus fi<|Yk hfil;refine Zeo ZW8 ZW8.und (f:=Zn.cs) (l:=kj.box fi) (m:=[Zae m]) (λ_=>rfl) (λ_=>Zg _) (h19.pick 2 rfl).swap (Zfu (f:=Zn.cs)<|Nat.le_refl _) (by rw[List.length_singleton];omega) λv' w20 h20=>?_;have q1:=h20.own_cells 0 rfl;refine ⟨Yt h20 3 rfl ha1 (v:=Iw m.key.From) rfl hF,Zb h20 5 rfl (v:=M2.xv) rfl ⟨rfl,rfl⟩,ZdJ h20 9 rfl (λ_=>rfl) (by rw[List.length_map,List.length_range];exact hfil) (x:=v') q1.1 (λc hc=>by rw[List.mem_singleton.1 hc];exact q1.2) λw21 h21=>Qincs<|hg4 _ _ _ (by omega) ⟨j+1,by omega,rfl,rfl,{ M2 with vs:=λj=>if j=fi then v' else M2.vs j },?_⟩⟩;rw[e9];exact Sat.pick (l:=RP p x 0 (kj.put fi [Zae m]) { M2 with vs:=λj=>if j=fi then v' else M2.vs j }++(Zz 85 6 Msg.cs v l::blk b 25 x.cs::L)) (Z0t hfil hpre.bl<|h21.sn 14 [0,2,4,5,6,7,8,9,10,11,12,3,13]) 10 rfl
end Go.Proofs.YtceipnkeijhebaaGreat
end
section
namespace Go.Proofs.YtceipnkeijhebaaGreat
open Go Go.E
set_option maxRecDepth 100000
section
variable (wd:Wd)
def dl1 (a b:Nat) (p:Bool × KS):Bool × KS:=if p.1=true then (!decide ((p.2.deliver wd a b).1=2),(p.2.deliver wd a b).2) else p
def fl1 (a:Nat) (k:KS):KS:=(k.flush a).2
def ZvX (n a:Nat) (p:Bool × KS):Bool × KS:=(List.range n).foldl (λp b=>rep (dl1 wd a b) 8 p) (p.1,rep (fl1 a) 24 p.2)
def ZBa (p:Bool × KS) (a:Nat):Bool × KS:=(p.1&&(!decide ((p.2.step wd a).1=2) || !(p.2.box a).isEmpty),((p.2.step wd a).2.tell wd a).2)
def tr1 (k:KS) (a:Nat):KS:=(k.turn a).2
def rp1 (k:KS) (a:Nat):KS:=(k.report wd a).2
def ZkX (n:Nat) (k:KS):Bool × KS:=
 let p1:=(List.range n).foldl (λp a=>ZvX wd n a p) (true,k);let p2:=(List.range n).foldl (ZBa wd) p1
 (p2.1,(List.range n).foldl (rp1 wd)<|(List.range n).foldl tr1 p2.2.begin'.2)
def ZmK (n m:Nat) (k:KS):KS:=rep (λk=>(ZkX wd n k).2) m k
end
def Zpx (wd:Wd) (k:KS):List (List<|List Int):=[((k.node 0).log wd 0).map Zak.ns,((k.node 1).log wd 1).map Zak.ns]
def ZFM:RS:=(Zul (Zb2 0 0) 150<|ZF4<|Zb2 0 0).2
def Zlf:List (List<|List Int):=ZFM.feds.map λa=>a.log.map Zak.ns
def ZsX (n:Nat) (a b:Int) (room:Nat):Bool:=(ZmK (Zb2 a b) 2 n<|KS.init (Zb2 a b) room).quiet (Zb2 a b)&&decide (Zpx (Zb2 a b) (ZmK (Zb2 a b) 2 n<|KS.init (Zb2 a b) room)=Zlf)
end Go.Proofs.YtceipnkeijhebaaGreat
end
section
namespace Go.Proofs.YtceipnkeijhebaaGreat
open Go Go.E
set_option maxRecDepth 100000
variable {wd:Wd}
theorem ZoO {α:Type} {P:α->Prop} {f:α->α} (hf:∀x,P x->P (f x)):∀(n:Nat) (x:α),P x->P (rep f n x)
 | 0,_,h=>h
 | n+1,x,h=>ZoO hf n (f x)<|hf x h
theorem Zig {α:Type} {P:α->Prop} {g:α->Nat->α} {N:Nat} (hg:∀x a,a<N->P x->P (g x a)) {x:α} (h:P x):P ((List.range N).foldl g x):=by
 have key:∀(l:List Nat) (x:α),(∀a∈l,a<N)->P x->P (l.foldl g x):=by
  intro l;induction l with
  | nil=>exact λx _ h=>h
  | cons a l ih=>exact λx hl h=>ih _ (λb hb=>hl b<|List.mem_cons_of_mem _ hb)<|hg x a (hl a<|List.mem_cons_self ..) h
 exact key _ x (λa ha=>List.mem_range.1 ha) h
theorem Ztz {P:KS->Prop} {N:Nat} (hP:∀k kind a b,(kind≠4->a<N)->(kind=2->b<N)->P k->P (k.do' wd kind a b).2) {k:KS} (h:P k):P (ZkX wd N k).2:=by
 unfold ZkX;dsimp only;have h1:P ((List.range N).foldl (λp a=>ZvX wd N a p) (true,k)).2:=by
  refine Zig (P:=λp:Bool × KS=>P p.2) (λx a ha hx=>?_) h;unfold ZvX;have h24:P (rep (fl1 a) 24 x.2):=ZoO (P:=P) (f:=fl1 a) (λz hz=>hP z 1 a 0 (λ_=>ha) (λh=>by cases h) hz) 24 x.2 hx;generalize rep (fl1 a) 24 x.2=kf at h24 ⊢;refine Zig (P:=λp:Bool × KS=>P p.2) (x:=(x.1,kf)) (λy b hb hy=>?_) h24;refine ZoO (P:=λp:Bool × KS=>P p.2) (f:=dl1 wd a b) (λz hz=>?_) 8 y hy;unfold dl1;split
  .exact hP z.2 2 a b (λ_=>ha) (λ_=>hb) hz
  .exact hz
 have h2:P ((List.range N).foldl (ZBa wd)<|(List.range N).foldl (λp a=>ZvX wd N a p) (true,k)).2:=
  Zig (P:=λp:Bool × KS=>P p.2) (λx a ha hx=>hP _ 3 a 0 (λ_=>ha) (λh=>by cases h)<|hP _ 0 a 0 (λ_=>ha) (λh=>by cases h) hx) h1
 have h3:=hP _ 4 0 0 (λh=>absurd rfl h) (λh=>by cases h) h2;have h4:=Zig (P:=P) (g:=tr1) (N:=N) (λx a ha hx=>hP x 5 a 0 (λ_=>ha) (λh=>by cases h) hx) h3;exact Zig (P:=P) (g:=rp1 wd) (N:=N) (λx a ha hx=>hP x 6 a 0 (λ_=>ha) (λh=>by cases h) hx) h4
theorem Zsm {P:KS->Prop} {N:Nat} (hP:∀k kind a b,(kind≠4->a<N)->(kind=2->b<N)->P k->P (k.do' wd kind a b).2) (m:Nat) {k:KS} (h:P k):P (ZmK wd N m k):=ZoO (P:=P) (f:=λk=>(ZkX wd N k).2) (λ_ hx=>Ztz hP hx) m k h
theorem Zn3 (N m j:Nat) (k:KS):ZmK wd N (m+j) k=ZmK wd N j (ZmK wd N m k):=by
 unfold ZmK;induction m generalizing k with
 | zero=>rw[Nat.zero_add];rfl
 | succ m ih=>rw[Nat.succ_add];exact ih _
theorem Zqk (N m:Nat) (k:KS):ZmK wd N (m+1) k=(ZkX wd N<|ZmK wd N m k).2:=Zn3 N m 1 k
def ZvV (wd:Wd) (k:KS):Prop:=∃s,Ze1 wd k s
theorem ZvV.do' {k:KS} (h:ZvV wd k) (kind a b:Nat) (ha:kind≠4->a<wd.Feds.length) (hb:kind=2->b<wd.Feds.length):ZvV wd (k.do' wd kind a b).2:=by
 obtain ⟨s,hs⟩:=h;exact ⟨s+1,hs.do' kind a b ha hb⟩
theorem ZvV.run {k:KS} (h:ZvV wd k) {N:Nat} (hN:N<=wd.Feds.length) (m:Nat):ZvV wd (ZmK wd N m k):=
 Zsm (P:=ZvV wd) (λ_ kind a b ha hb hk=>hk.do' kind a b (λh=>Nat.lt_of_lt_of_le (ha h) hN)<|λh=>Nat.lt_of_lt_of_le (hb h) hN) m h
theorem Zkd {k:KS} (hI:ZvV wd k) (h:k.quiet wd=true):ZgS wd k:=by
 obtain ⟨s,hI⟩:=hI;unfold KS.quiet at h;rw[Bool.and_eq_true,List.all_eq_true,List.all_eq_true] at h;obtain ⟨h1,h2⟩:=h;refine ⟨λf i hi=>?_,λa b i hi=>?_,λf=>?_⟩
 .by_cases hf:f<wd.Feds.length
  .have h3:=h2 f<|List.mem_range.2 (by rw[hI.nl];exact hf);rw[Bool.and_eq_true,List.all_eq_true] at h3;exact of_decide_eq_true<|h3.1 i hi
  .exfalso;unfold KS.box at hi;rw[List.getD_eq_getElem?_getD,List.getElem?_eq_none (by rw[hI.bl];omega)] at hi;cases hi
 .unfold KS.q at hi;by_cases ha:a<k.net.length
  .by_cases hb:b<(k.net.getD a []).length
   .have e1:(k.net.getD a [])∈k.net:=by
     rw[List.getD_eq_getElem?_getD,List.getElem?_eq_getElem ha];exact List.getElem_mem ha
    have e2:((k.net.getD a []).getD b [])∈k.net.getD a []:=by
     rw[List.getD_eq_getElem?_getD (l:=k.net.getD a []),List.getElem?_eq_getElem hb];exact List.getElem_mem hb
    have h3:=List.all_eq_true.1 (h1 _ e1) _ e2;exact of_decide_eq_true<|List.all_eq_true.1 h3 i hi
   .rw[List.getD_eq_getElem?_getD (l:=k.net.getD a []),List.getElem?_eq_none (by omega)] at hi;cases hi
  .rw[List.getD_eq_getElem?_getD (l:=k.net),List.getElem?_eq_none (by omega)] at hi;cases hi
 .by_cases hf:f<wd.Feds.length
  .have h3:=h2 f<|List.mem_range.2 (by rw[hI.nl];exact hf);rw[Bool.and_eq_true] at h3;have idle:∀q:List Msg,(!(ZjD q&&decide ((hdM q).key.T<wd.End)))=true->Zrm wd q:=by
    rintro q h ⟨h4,h5⟩;rw[h4,decide_eq_true h5] at h;cases h
   cases hn:k.node f with
   | slow N=>
    rw[hn] at h3;exact idle _ h3.2
   | bold N r t=>
    rw[hn] at h3;have h4:=h3.2;rw[Bool.and_eq_true] at h4;exact ⟨idle _ h4.1,List.isEmpty_iff.1 h4.2⟩
  .have:k.node f=.slow ⟨⟨[],0,0⟩,[],0,0,[]⟩:=by
    unfold KS.node;rw[List.getD_eq_getElem?_getD,List.getElem?_eq_none (by rw[hI.nl];omega)];rfl
   rw[this];exact λh=>by cases h.1
theorem Zj4 {k:KS} (h:ZgS wd k):k.quiet wd=true:=by
 unfold KS.quiet;rw[Bool.and_eq_true,List.all_eq_true,List.all_eq_true];refine ⟨λr hr=>?_,λf _=>?_⟩
 .rw[List.all_eq_true];intro l hl;rw[List.all_eq_true];intro i hi;obtain ⟨a,ha⟩:=List.getElem?_of_mem hr;obtain ⟨b,hb⟩:=List.getElem?_of_mem hl;have e1:k.net.getD a []=r:=by rw[List.getD_eq_getElem?_getD,ha];rfl
  have e2:k.q a b=l:=by
   show (k.net.getD a []).getD b []=l;rw[e1,List.getD_eq_getElem?_getD,hb];rfl
  exact decide_eq_true<|h.net a b i (by rw[e2];exact hi)
 .have hn:=h.node f;have hb:((k.box f).all λi=>decide<|i.Kind=2)=true:=List.all_eq_true.2 λi hi=>decide_eq_true<|h.boxes f i hi;have idle:∀q:List Msg,Zrm wd q->(!(ZjD q&&decide ((hdM q).key.T<wd.End)))=true:=by
   intro q h;cases h1:ZjD q with
   | false=>rfl
   | true=>
    rw[decide_eq_false<|λh2=>h ⟨h1,h2⟩];rfl
  rw[hb,Bool.true_and];cases hnd:k.node f with
  | slow N=>
   rw[hnd] at hn;exact idle _ hn
  | bold N r t=>
   rw[hnd] at hn;show ((!_)&&_)=true;rw[idle _ hn.1,hn.2];rfl
theorem Zsn {k:KS} (h:ZgS wd k) (N m:Nat):ZgS wd (ZmK wd N m k)/\Zb5 wd k (ZmK wd N m k):=
 Zsm (P:=λx=>ZgS wd x/\Zb5 wd k x) (λ_ kind a b _ _ hx=>⟨(hx.1.do' kind a b).1,λf=>((hx.1.do' kind a b).2 f).trans<|hx.2 f⟩) m ⟨h,λ_=>rfl⟩
theorem ZFQ:((List.range 16).all λr=>ZsX 17 0 0<|r+1)=true:=by kernel_rfl
theorem ZGh:((List.range 16).all λr=>ZsX 17 0 1<|r+1)=true:=by kernel_rfl
theorem ZGm:((List.range 16).all λr=>ZsX 17 1 0<|r+1)=true:=by kernel_rfl
theorem ZGp:((List.range 16).all λr=>ZsX 17 1 1<|r+1)=true:=by kernel_rfl
theorem Zwa:Zlf.map List.length=[3,4]:=by kernel_rfl
theorem Zvw:((KS.init (Zb2 0 1) 8).box 0).length=1/\(KS.init (Zb2 0 1) 8).quiet (Zb2 0 1)=false:=⟨by kernel_rfl,by kernel_rfl⟩
def bit (x:Int):Prop:=x=0\/x=1
theorem ZCx {a b:Int} (ha:bit a) (hb:bit b) {room:Nat} (hr:1<=room/\room<=16):ZsX 17 a b room=true:=by
 have hm:room - 1∈List.range 16:=List.mem_range.2 (by omega);have e:room - 1+1=room:=by omega
 rcases ha with rfl | rfl <;> rcases hb with rfl | rfl
 .have:=List.all_eq_true.1 ZFQ _ hm;rwa [e] at this
 .have:=List.all_eq_true.1 ZGh _ hm;rwa [e] at this
 .have:=List.all_eq_true.1 ZGm _ hm;rwa [e] at this
 .have:=List.all_eq_true.1 ZGp _ hm;rwa [e] at this
theorem Zqg {a b:Int} (hok:(Za4<|Zb2 a b).2=0) (ha:bit a) (hb:bit b) {room:Nat} (hr:1<=room/\room<=16) {m:Nat} (hm:17<=m) :
  ZgS (Zb2 a b) (ZmK (Zb2 a b) 2 m<|KS.init (Zb2 a b) room)/\Zpx (Zb2 a b) (ZmK (Zb2 a b) 2 m<|KS.init (Zb2 a b) room)=Zlf:=by
 have h1:=ZCx ha hb hr;unfold ZsX at h1;rw[Bool.and_eq_true] at h1;have hI:ZvV (Zb2 a b) (KS.init (Zb2 a b) room):=⟨0,Ze1.init hok room⟩;have hR:=Zkd (hI.run (N:=2) (Nat.le_refl _) 17) h1.1;obtain ⟨h2,h3⟩:=Zsn hR 2<|m - 17;rw[<-Zn3,show 17+(m - 17)=m from by omega] at h2 h3;refine ⟨h2,?_⟩;rw[<-of_decide_eq_true h1.2];unfold Zpx;rw[h3 0,h3 1]
theorem Zsv {wd:Wd} {k:KS} (h:Zpx wd k=Zlf):((k.node 0).log wd 0).length=3/\((k.node 1).log wd 1).length=4:=by
 have h1:=Zwa;rw[<-h] at h1;unfold Zpx at h1;simp only[List.map_cons,List.map_nil,List.length_map,List.cons.injEq,and_true] at h1;exact h1
variable {e w:World} {L Q R:List HP} {K:KV} {S S2:HP} {k:KS} {M:KM} {p n f s:Nat}
theorem ZLK {x:WdX} (i:Nat) (hi:L[i]?=some S) (hS:Sat e w L) (hr:∀g,S g->ZtG x g) (hk:∀w' (b:Bool),Sat e w' L->(b=true->x.short)->K (.bool b) w'):Cl prog 4 #[.agg x.cs.toArray] w K:=by
 refine ZJ1 ?_;unfold ZJJ;refine Yp (cs:=x.cs) hS rfl λb w1 h1=>?_;have hno:∀w',Sat e w' (blk b 25 x.cs::L)->K Bf w':=λw' h'=>hk w' false h'.drop (λh=>by cases h);refine Za<|Zb h1 0 rfl (v:=x.pv) rfl<|Zt h1 (i+1) hi (λ_ h=>(hr _ h).par) ?_;by_cases c1:(50:Int)<x.Parents.length
 .exact Qgtt<|Zd<|Zd<|Zd<|Zd<|Yv<|Zi<|hno _ h1
 refine Zle c1<|Zj<|Za<|Zj<|Zb h1 0 rfl (v:=x.fv) rfl<|Zj<|Zt h1 (i+1) hi (λ_ h=>(hr _ h).feds) ?_;by_cases c2:(20:Int)<x.Feds.length
 .exact Ze<|Qgtt<|Yd<|Zi<|hno _ h1
 refine Zj<|Zle c2<|Yd<|Zf ?_;rw[ZYE];refine Zdk (λq t w=>∃j:Nat,j<=x.Feds.length/\t=Iw j/\q=x.Feds.length - j/\(∀f∈x.Feds.take j,f.short)/\Sat e w (blk b 25 x.cs::L)) x.Feds.length ⟨0,Nat.zero_le _,rfl,rfl,by simp,h1⟩ ?_;rintro q _ w g ⟨j,hj,rfl,rfl,hall,h2⟩ hg;refine Za<|Zb h2 0 rfl (v:=x.fv) rfl<|Zt h2 (i+1) hi (λ_ h=>(hr _ h).feds)<|Za7 (λc=>Zi ?_)<|λc=>Zf ?_
 .obtain ⟨fd,hf⟩:=Zk (l:=x.Feds) (j:=j) (by omega);have hfm:=List.mem_of_getElem? hf;refine Za<|Zb h2 0 rfl (v:=x.fv) rfl<|Zw h2 (i+1) hi (λ_ h=>(hr _ h).feds) (λ_=>rfl) hf λa ha=>Ym h2 (i+1) hi ha rfl<|Yp (cs:=[Iw 0,Iw 0,Iw 0,Sn,Sn,Sn,Sn]) h2 rfl λt w5 h5=>Zq h5 0 rfl (vs:=fd.cs) rfl rfl (by simp) (Zc1 i hi hS λg hg=>(hr g hg).fed fd hfm) (cs':=fd.cs) (by rfl) λw6 h6=>?_;have hi6:(blk t 52 fd.cs::blk b 25 x.cs::L)[i+2]?=some S:=hi;refine Za<|Zb h6 0 rfl (v:=fd.rv) rfl<|Zt h6 (i+2) hi6 (λg hg=>((hr g hg).fed fd hfm).rules.s) ?_;by_cases d1:(60:Int)<fd.Rules.length
  .exact Qgtt<|Zd<|Zd<|Zd<|Zd<|Yv<|Zd<|Zd<|Zd<|Zd<|Yv<|Zd<|Zd<|Zd<|Zd<|Yv<|Zi<|hno _ h6.drop
  refine Zle d1<|Zj<|Za<|Zj<|Zb h6 0 rfl (v:=fd.pv) rfl<|Zj<|Zt h6 (i+2) hi6 (λg hg=>((hr g hg).fed fd hfm).pubs) ?_;by_cases d2:(50:Int)<fd.Pubs.length
  .exact Ze<|Qgtt<|Yd<|Zd<|Zd<|Zd<|Zd<|Yv<|Zd<|Zd<|Zd<|Zd<|Yv<|Zi<|hno _ h6.drop
  refine Zj<|Zle d2<|Yd<|Zj<|Za<|Zj<|Zb h6 0 rfl (v:=fd.sv) rfl<|Zj<|Zt h6 (i+2) hi6 (λg hg=>((hr g hg).fed fd hfm).subs) ?_;by_cases d3:(50:Int)<fd.Subs.length
  .exact Ze<|Qgtt<|Yd<|Zd<|Zd<|Zd<|Zd<|Yv<|Zi<|hno _ h6.drop
  refine Zj<|Zle d3<|Yd<|Zj<|Za<|Zj<|Zb h6 0 rfl (v:=fd.iv) rfl<|Zj<|Zt h6 (i+2) hi6 (λg hg=>((hr g hg).fed fd hfm).init) ?_;by_cases d4:(20:Int)<fd.Init.length
  .exact Ze<|Qgtt<|Yd<|Zi<|hno _ h6.drop
  refine Zj<|Zle d4<|Yd<|Zf<|Zdk (λq t' w=>∃n:Nat,n<=fd.Rules.length/\t'=Iw n/\q=fd.Rules.length - n/\(∀r∈fd.Rules.take n,r.Sends.length<=1000)/\Sat e w (blk t 52 fd.cs::blk b 25 x.cs::L)) fd.Rules.length ⟨0,Nat.zero_le _,rfl,rfl,by simp,h6⟩ ?_;rintro q _ w g2 ⟨n,hn,rfl,rfl,hall2,h7⟩ hg2;refine Za<|Zb h7 0 rfl (v:=fd.rv) rfl<|Zt h7 (i+2) hi6 (λg hg=>((hr g hg).fed fd hfm).rules.s)<|Za7 (λc3=>Zi ?_)<|λc3=>Zf ?_
  .obtain ⟨r,hrn⟩:=Zk (l:=fd.Rules) (j:=n) (by omega);have hrm:=List.mem_of_getElem? hrn;refine Za<|Zb h7 0 rfl (v:=fd.rv) rfl<|Zw h7 (i+2) hi6 (λg hg=>((hr g hg).fed fd hfm).rules.s) (λ_=>rfl) hrn λa ha=>Zbd ha λa1 ha1=>Yt h7 (i+2) hi6 ha1 (v:=r.sv) rfl<|Zt h7 (i+2) hi6 (λg hg=>((hr g hg).fed fd hfm).rules.e r hrm)<|Ztu (λc4=>Zi<|hno _ h7.drop)<|λc4=>Zf<|Qincs<|hg2 _ _ _ (by omega) ⟨n+1,by omega,rfl,rfl,λy hy=>?_,h7⟩;rw[Zx hrn] at hy;rcases List.mem_append.1 hy with h | h
   .exact hall2 y h
   .rw[List.mem_singleton.1 h];omega
  .have en:n=fd.Rules.length:=by omega
   rw[en,List.take_length] at hall2;refine Qincs<|hg _ _ _ (by omega) ⟨j+1,by omega,rfl,rfl,λy hy=>?_,h7.drop⟩;rw[Zx hf] at hy;rcases List.mem_append.1 hy with h | h
   .exact hall y h
   .rw[List.mem_singleton.1 h];exact ⟨by omega,by omega,by omega,by omega,hall2⟩
 .have ej:j=x.Feds.length:=by omega
  rw[ej,List.take_length] at hall;exact hk _ true h2.drop λ_=>⟨by omega,by omega,hall⟩
theorem ZLF {u v:Value} {l:List Zn} (i j:Nat) (hi:L[i]?=some S) (hj:L[j]?=some S2) (hS:Sat e w L) (hr:∀g,S g->rdS 8 Zn.cs u l g) (hr2:∀g,S2 g->rdS 8 Zn.cs v l g) (hl:l.length<=1000000000000)
  (hk:∀w',Sat e w' L->K Bt w'):Cl prog 19 #[u,v] w K:=by
 refine ZJy ?_;unfold ZJq;refine Zt hS i hi hr<|Zt hS j hj hr2<|ZoP rfl<|Zf<|Zdk (λq t w=>∃n:Nat,n<=l.length/\t=Iw n/\q=l.length - n/\Sat e w L) l.length ⟨0,Nat.zero_le _,rfl,rfl,hS⟩ ?_;rintro q _ w g ⟨n,hn,rfl,rfl,h1⟩ hg;refine Zt h1 i hi hr<|Za7 (λc=>Zi ?_)<|λc=>Zf<|hk _ h1;obtain ⟨y,hy⟩:=Zk (l:=l) (j:=n) (by omega);refine ZaY h1 λw2 h2=>Zw h2 i hi hr (λ_=>rfl) hy λp hp=>Ym h2 i hi hp rfl<|Zw h2 j hj hr2 (λ_=>rfl) hy λp hp=>Ym h2 j hj hp rfl<|ZDr (ns:=[y.Kind,y.m.key.T,y.m.key.From,y.m.key.Seq,y.m.To,y.m.Class,y.m.Body,y.Colour]) (ms:=[y.Kind,y.m.key.T,y.m.key.From,y.m.key.Seq,y.m.To,y.m.Class,y.m.Body,y.Colour]) Z13 Z16 Z2b (by decide) rfl ?_;rw[beq_self_eq_true];exact Zf<|Qincs<|hg _ _ _ (by omega) ⟨n+1,by omega,rfl,rfl,h2⟩
theorem Zud {u v:Value} {l:List Zak} (i j:Nat) (hi:L[i]?=some S) (hj:L[j]?=some S2) (hS:Sat e w L) (hr:∀g,S g->rdS 7 Zak.cs u l g) (hr2:∀g,S2 g->rdS 7 Zak.cs v l g) (hl:l.length<=1000000)
  (hk:∀w',Sat e w' L->K Bt w'):Cl prog 16 #[u,v] w K:=by
 refine Zd2 ?_;unfold Zdv;refine Zt hS i hi hr<|Zt hS j hj hr2<|ZoP rfl<|Zf<|Zdk (λq t w=>∃n:Nat,n<=l.length/\t=Iw n/\q=l.length - n/\Sat e w L) l.length ⟨0,Nat.zero_le _,rfl,rfl,hS⟩ ?_;rintro q _ w g ⟨n,hn,rfl,rfl,h1⟩ hg;refine Zt h1 i hi hr<|Za7 (λc=>Zi ?_)<|λc=>Zf<|hk _ h1;obtain ⟨y,hy⟩:=Zk (l:=l) (j:=n) (by omega);refine ZaY h1 λw2 h2=>Zw h2 i hi hr (λ_=>rfl) hy λp hp=>Ym h2 i hi hp rfl<|Zw h2 j hj hr2 (λ_=>rfl) hy λp hp=>Ym h2 j hj hp rfl<|ZDr (ns:=y.ns) (ms:=y.ns) Z1U Z1Y Z1Z (by decide) rfl ?_;rw[beq_self_eq_true];exact Zf<|Qincs<|hg _ _ _ (by omega) ⟨n+1,by omega,rfl,rfl,h2⟩
theorem Zmx:Zc4 Zv3:=⟨by simp[Zv3],λr hr=>by
 simp only[Zv3,List.mem_cons,List.not_mem_nil,or_false] at hr;rcases hr with rfl | rfl
 .refine ⟨by decide,by decide,by decide,by decide,by decide,by decide,by decide,λo ho=>?_⟩;have:o=⟨0,2,1⟩:=List.mem_singleton.1 ho;rw[this];exact ⟨by decide,by decide,by decide,by decide,by decide,by decide⟩
 .refine ⟨by decide,by decide,by decide,by decide,by decide,by decide,by decide,λo ho=>?_⟩;have:o=⟨0,3,1⟩:=List.mem_singleton.1 ho;rw[this];exact ⟨by decide,by decide,by decide,by decide,by decide,by decide⟩,by decide⟩
theorem Zsw {a b:Int} (ha:bit a) (hb:bit b):(Za4<|Zb2 a b).2=0:=by
 have ht:ZhY [-1]=0:=by
  unfold ZhY;refine if_pos ⟨by simp,by simp,λi p hp=>?_⟩
  match i with
  | 0=>simp at hp;omega
  | i+1=>simp at hp
 have h1:Zre ⟨a,2,0,Zv3,[0],[0],[⟨0,3,0⟩]⟩ 1=0:=by
  rw[ZjK];rcases ha with rfl | rfl <;> simp[Zmx,ZaF,ZlW] <;> simp[Zca,ZbW,Zv3]
 have h2:Zre ⟨b,2,0,Zv3,[0],[0],[]⟩ 1=0:=by
  rw[ZjK];rcases hb with rfl | rfl <;> simp[Zmx,ZaF,ZlW] <;> simp[Zca,ZbW,Zv3]
 unfold Za4 Zb2;rw[if_neg (by rw[ht];decide),if_neg (by simp)];show (Zm3 1 0 _).2=_;rw[ZdR,if_neg (by rw[h1];decide),ZdR,if_neg (by rw[h2];decide)];rfl
theorem Zvy {a:Int} (ha:bit a):i64 a:=by rcases ha with rfl | rfl <;> rfl
theorem ZGe {a b:Int} (ha:bit a) (hb:bit b) (hS:Sat e w Q) (hk:∀(x:WdX) (S:HP) w',x.w=Zb2 a b->x.wf->x.short->(∀g,S g->ZtG x g)->Sat e w' (S::Q)->K (.agg x.cs.toArray) w'):Cl prog 22 #[Iw a,Iw b] w K:=by
 refine Zed ?_;unfold ZdY;rw[ZqI];refine Yp (cs:=[Sn,Sn,Iw 0]) hS rfl λt0 w1 h1=>Zaf (⟨0,2,1⟩:Out).cs (by kernel_rfl) ?_;refine Zfk (⟨0,2,1⟩:Out).cs h1 (by kernel_rfl) λb3 w2 h2=>?_;obtain ⟨r0,hr0⟩:∃r0:Yg,r0=⟨0,0,1,.slice (some ⟨b3,0,none⟩) 1 1,[⟨0,2,1⟩]⟩:=⟨_,rfl⟩;refine Zaf [Iw 0,Iw 0,Iw 1,.slice (some ⟨b3,0,none⟩) 1 1] (by kernel_rfl)<|Zaf (⟨0,3,1⟩:Out).cs (by kernel_rfl) ?_;refine Zfk (⟨0,3,1⟩:Out).cs h2 (by kernel_rfl) λb7 w3 h3=>?_;obtain ⟨r1,hr1⟩:∃r1:Yg,r1=⟨1,0,0,.slice (some ⟨b7,0,none⟩) 1 1,[⟨0,3,1⟩]⟩:=⟨_,rfl⟩;refine Zaf [Iw 1,Iw 0,Iw 0,.slice (some ⟨b7,0,none⟩) 1 1] (by kernel_rfl) ?_;have hrc:[r0,r1].flatMap Yg.cs=[Iw 0,Iw 0,Iw 1,.slice (some ⟨b3,0,none⟩) 1 1,Iw 1,Iw 0,Iw 0,.slice (some ⟨b7,0,none⟩) 1 1]:=by rw[hr0,hr1];rfl
 refine Zfk [Iw 0,Iw 0,Iw 1,.slice (some ⟨b3,0,none⟩) 1 1,Iw 1,Iw 0,Iw 0,.slice (some ⟨b7,0,none⟩) 1 1] h3 (by kernel_rfl) λb9 w4 h4=>?_;rw[<-hrc] at h4;refine Zfk (Yi [-1]) h4 (by kernel_rfl) λb10 w5 h5=>Zfk (Yi [0]) h5 (by kernel_rfl) λb12 w6 h6=>?_;refine Zfk (Yi [0]) h6 (by kernel_rfl) λb13 w7 h7=>Zaf (⟨0,3,0⟩:Out).cs (by kernel_rfl) ?_;refine Zfk (⟨0,3,0⟩:Out).cs h7 (by kernel_rfl) λb14 w8 h8=>?_;obtain ⟨f0,hf0⟩:∃f0:Zao,f0=⟨a,2,0,.slice (some ⟨b9,0,none⟩) 2 2,[r0,r1],.slice (some ⟨b12,0,none⟩) 1 1,[0],.slice (some ⟨b13,0,none⟩) 1 1,[0],.slice (some ⟨b14,0,none⟩) 1 1,[⟨0,3,0⟩]⟩:=⟨_,rfl⟩;refine Zaf [Iw a,Iw 2,Iw 0,.slice (some ⟨b9,0,none⟩) 2 2,.slice (some ⟨b12,0,none⟩) 1 1,.slice (some ⟨b13,0,none⟩) 1 1,.slice (some ⟨b14,0,none⟩) 1 1] (by kernel_rfl)<|Zfk (Yi [0]) h8 (by kernel_rfl) λb15 w9 h9=>?_;refine Zfk (Yi [0]) h9 (by kernel_rfl) λb16 w10 h10=>?_;obtain ⟨f1,hf1⟩:∃f1:Zao,f1=⟨b,2,0,.slice (some ⟨b9,0,none⟩) 2 2,[r0,r1],.slice (some ⟨b15,0,none⟩) 1 1,[0],.slice (some ⟨b16,0,none⟩) 1 1,[0],Sn,[]⟩:=⟨_,rfl⟩;refine Zaf [Iw b,Iw 2,Iw 0,.slice (some ⟨b9,0,none⟩) 2 2,.slice (some ⟨b15,0,none⟩) 1 1,.slice (some ⟨b16,0,none⟩) 1 1,Sn] (by kernel_rfl) ?_;obtain ⟨fc,hfc⟩:∃fc:List Value,fc=[Iw a,Iw 2,Iw 0,.slice (some ⟨b9,0,none⟩) 2 2,.slice (some ⟨b12,0,none⟩) 1 1,.slice (some ⟨b13,0,none⟩) 1 1,.slice (some ⟨b14,0,none⟩) 1 1,Iw b,Iw 2,Iw 0,.slice (some ⟨b9,0,none⟩) 2 2,.slice (some ⟨b15,0,none⟩) 1 1,.slice (some ⟨b16,0,none⟩) 1 1,Sn]:=⟨_,rfl⟩;have hcs:[f0,f1].flatMap Zao.cs=fc:=by rw[hf0,hf1,hfc];rfl
 refine Zfk fc h10 (by rw[hfc];kernel_rfl) λb21 w11 h11=>?_;rw[<-hcs] at h11;obtain ⟨x,hx⟩:∃x:WdX,x=⟨.slice (some ⟨b10,0,none⟩) 1 1,[-1],.slice (some ⟨b21,0,none⟩) 2 2,[f0,f1],20⟩:=⟨_,rfl⟩;refine Zaf [.slice (some ⟨b10,0,none⟩) 1 1,.slice (some ⟨b21,0,none⟩) 2 2,Iw 20] (by kernel_rfl) ?_;have hxc:[.slice (some ⟨b10,0,none⟩) 1 1,.slice (some ⟨b21,0,none⟩) 2 2,Iw 20]=x.cs:=by rw[hx];rfl
 refine Zq h11 10 rfl (vs:=[.slice (some ⟨b10,0,none⟩) 1 1,.slice (some ⟨b21,0,none⟩) 2 2,Iw 20]) rfl rfl (by simp) (by simp[flat]) (cs':=[.slice (some ⟨b10,0,none⟩) 1 1,.slice (some ⟨b21,0,none⟩) 2 2,Iw 20]) (by rfl) λw13 h13=>Zo h13 10 (vs:=[.slice (some ⟨b10,0,none⟩) 1 1,.slice (some ⟨b21,0,none⟩) 2 2,Iw 20]) rfl (by rfl) rfl ?_;rw[hxc];have h14:Sat e w13 (Yh [blk b21 52<|[f0,f1].flatMap Zao.cs,blk b16 3<|Yi [0],blk b15 3<|Yi [0],blk b14 133 (⟨0,3,0⟩:Out).cs,blk b13 3<|Yi [0],blk b12 3<|Yi [0],blk b10 3<|Yi [-1],blk b9 54<|[r0,r1].flatMap Yg.cs,blk b7 133 (⟨0,3,1⟩:Out).cs,blk b3 133 (⟨0,2,1⟩:Out).cs]::Q):=
  Sat.join (l':=[_,_,_,_,_,_,_,_,_,_]) (h13.sn 11 [0,1,2,3,4,5,6,7,8,9])
 refine hk x _ _ ?_ ?_ ?_ ?_ h14
 .rw[hx,hf0,hf1,hr0,hr1];rfl
 .rw[hx,hf0,hf1,hr0,hr1];have h0:∀n∈[(0:Int)],i64 n:=λn hn=>by rw[List.mem_singleton.1 hn];rfl
  have hrw:∀r∈[(⟨0,0,1,.slice (some ⟨b3,0,none⟩) 1 1,[⟨0,2,1⟩]⟩:Yg),⟨1,0,0,.slice (some ⟨b7,0,none⟩) 1 1,[⟨0,3,1⟩]⟩],r.wf:=λr hr=>by
   simp only[List.mem_cons,List.not_mem_nil,or_false] at hr;rcases hr with rfl | rfl
   .exact ⟨rfl,rfl,rfl,λo ho=>by rw[show o=⟨0,2,1⟩ from List.mem_singleton.1 ho];exact ⟨rfl,rfl,rfl⟩⟩
   .exact ⟨rfl,rfl,rfl,λo ho=>by rw[show o=⟨0,3,1⟩ from List.mem_singleton.1 ho];exact ⟨rfl,rfl,rfl⟩⟩
  refine ⟨λn hn=>by rw[List.mem_singleton.1 hn];rfl,λf hf=>?_,rfl⟩;simp only[List.mem_cons,List.not_mem_nil,or_false] at hf;rcases hf with rfl | rfl
  .exact ⟨Zvy ha,rfl,rfl,hrw,h0,h0,λo ho=>by rw[show o=⟨0,3,0⟩ from List.mem_singleton.1 ho];exact ⟨rfl,rfl,rfl⟩⟩
  .exact ⟨Zvy hb,rfl,rfl,hrw,h0,h0,by simp⟩
 .rw[hx,hf0,hf1,hr0,hr1];refine ⟨by simp,by simp,λf hf=>?_⟩;have hrs:∀r∈[(⟨0,0,1,.slice (some ⟨b3,0,none⟩) 1 1,[⟨0,2,1⟩]⟩:Yg),⟨1,0,0,.slice (some ⟨b7,0,none⟩) 1 1,[⟨0,3,1⟩]⟩],r.Sends.length<=1000:=λr hr=>by
   simp only[List.mem_cons,List.not_mem_nil,or_false] at hr;rcases hr with rfl | rfl
   .show [(⟨0,2,1⟩:Out)].length<=_;simp
   .show [(⟨0,3,1⟩:Out)].length<=_;simp
  simp only[List.mem_cons,List.not_mem_nil,or_false] at hf;rcases hf with rfl | rfl
  .exact ⟨by simp,by simp,by simp,by simp,hrs⟩
  .exact ⟨by simp,by simp,by simp,by simp,hrs⟩
 .intro g hg;obtain ⟨g0,k0,s0⟩:=Yy (i:=0) hg rfl;obtain ⟨g1,k1,s1⟩:=Yy (i:=1) hg rfl;obtain ⟨g2,k2,s2⟩:=Yy (i:=2) hg rfl;obtain ⟨g3,k3,s3⟩:=Yy (i:=3) hg rfl;obtain ⟨g4,k4,s4⟩:=Yy (i:=4) hg rfl;obtain ⟨g5,k5,s5⟩:=Yy (i:=5) hg rfl;obtain ⟨g6,k6,s6⟩:=Yy (i:=6) hg rfl;obtain ⟨g7,k7,s7⟩:=Yy (i:=7) hg rfl;obtain ⟨g8,k8,s8⟩:=Yy (i:=8) hg rfl;obtain ⟨g9,k9,s9⟩:=Yy (i:=9) hg rfl;have nilR:∀{α:Type} (size:Nat) (f:α->List Value),rdS size f Sn [] g:=λ_ _=>⟨none,0,rfl,Nat.le_refl _,λh=>absurd h<|by simp⟩;subst hx;have hrr:Zew (.slice (some ⟨b9,0,none⟩) 2 2) [r0,r1] g:=⟨Zbl s7<|Zbx (f:=Yg.cs) [r0,r1] rfl (Nat.le_refl _) g7 k7,λr hr=>by
   simp only[List.mem_cons,List.not_mem_nil,or_false] at hr;rcases hr with rfl | rfl
   .subst hr0;exact Zbl s9<|Zbx (f:=Out.cs) [⟨0,2,1⟩] rfl (Nat.le_refl _) g9 k9
   .subst hr1;exact Zbl s8<|Zbx (f:=Out.cs) [⟨0,3,1⟩] rfl (Nat.le_refl _) g8 k8⟩
  refine ⟨Zbl s6<|Zbx (f:=Ye .i64) [-1] rfl (Nat.le_refl _) g6 k6,Zbl s0<|Zbx (f:=Zao.cs) [f0,f1] rfl (Nat.le_refl _) g0 k0,λf hf=>?_⟩;simp only[List.mem_cons,List.not_mem_nil,or_false] at hf;rcases hf with rfl | rfl
  .subst hf0;exact ⟨hrr,Zbl s5<|Zbx (f:=Ye .i64) [0] rfl (Nat.le_refl _) g5 k5,Zbl s4<|Zbx (f:=Ye .i64) [0] rfl (Nat.le_refl _) g4 k4,Zbl s3<|Zbx (f:=Out.cs) [⟨0,3,0⟩] rfl (Nat.le_refl _) g3 k3⟩
  .subst hf1;exact ⟨hrr,Zbl s2<|Zbx (f:=Ye .i64) [0] rfl (Nat.le_refl _) g2 k2,Zbl s1<|Zbx (f:=Ye .i64) [0] rfl (Nat.le_refl _) g1 k1,nilR _ _⟩
theorem Zgh {n' s':Nat} (hn:n<=n') (hs:s<=s') (hS:Sat e w<|Zby p wd k n s::Q):Sat e w (Zby p wd k n' s'::Q):=by
 obtain ⟨M,hI,h⟩:=ZpC hS;exact ZkQ (hI.mono hs)<|Zrf hn h
theorem Zzh {kind a b:Nat} (h6:kind<=6) (ha:kind≠4->a<wd.Feds.length) (hb:kind=2->b<wd.Feds.length):doK wd k ⟨(kind:Int),(a:Int),(b:Int)⟩=k.do' wd kind a b:=by
 unfold doK;rw[if_neg]
 .show k.do' wd (kind:Int).toNat (a:Int).toNat (b:Int).toNat=_;rw[Int.toNat_natCast,Int.toNat_natCast,Int.toNat_natCast]
 .rintro (h | h | h | h)
  .have h:(kind:Int)<0:=h;omega
  .have h:6<(kind:Int):=h;omega
  .obtain ⟨h1,h2⟩:=h;have h1:(kind:Int)≠4:=h1;have:=ha (by omega);exact h2 ⟨by show (0:Int)<=(a:Int);omega,by show (a:Int)<_;omega⟩
  .obtain ⟨h1,h2⟩:=h;have h1:(kind:Int)=2:=h1;have:=hb (by omega);exact h2 ⟨by show (0:Int)<=(b:Int);omega,by show (b:Int)<_;omega⟩
theorem ZzD {kind a b:Nat} (h6:kind<=6) (ha:kind≠4->a<wd.Feds.length) (hb:kind=2->b<wd.Feds.length) (hs:s<=1000000) (hn:n<=1000) (hS:Sat e w<|Zby p wd k n s::Q)
  (hk:∀w',Sat e w' (Zby p wd (k.do' wd kind a b).2 (if kind=0 then n+1 else n) (s+1)::Q)->K (Iw (k.do' wd kind a b).1) w') :
  Cl prog 8 #[pt p,.agg (⟨(kind:Int),(a:Int),(b:Int)⟩:Zbs).cs.toArray] w K:=by
 refine ZrZ hs hn hS λw2 h2=>?_;rw[Zzh h6 ha hb] at h2 ⊢;refine hk _ ?_;have e1:Zdq n ⟨(kind:Int),(a:Int),(b:Int)⟩=if kind=0 then n+1 else n:=by
  show (if (kind:Int)=0 then n+1 else n)=_;by_cases h:kind=0
  .rw[if_pos h,if_pos (by omega)]
  .rw[if_neg h,if_neg (by omega)]
 rw[e1] at h2;exact h2
theorem ZlE {α:Type} (f:α->α):∀(n:Nat) (x:α),rep f (n+1) x=f (rep f n x)
 | 0,_=>rfl
 | n+1,x=>ZlE f n<|f x
theorem ZdV {α:Type} (g:α->Nat->α) (x:α) (n:Nat):(List.range<|n+1).foldl g x=g ((List.range n).foldl g x) n:=by
 rw[List.range_succ,List.foldl_append];rfl
theorem Zs9 {a:Nat} (ha:a<wd.Feds.length) (hs:s+24<=900000) (hn:n<=1000) (hS:Sat e w<|Zby p wd k n s::Q) {Kn:World->Prop} (hk:∀w',Sat e w' (Zby p wd (rep (fl1 a) 24 k) n (s+24)::Q)->Kn w') :
  lp [Iw 0] w (b1 λt7 w g2=>bi .lss .i64 t7 (Iw 24) w λt21 w=>Zr t21
   (bld (Zl prog 38) #[(0,1),(1,1),(2,1)] [(0,(Iw 1)),(1,Iw (a:Int))] w λt26 w=>Cl prog 8 #[pt p,t26] w λ_ w=>bi .add .i64 t7 (Iw 1) w λt23 w=>g2 [t23] w) (Kn w)):=by
 refine Zdk (λz t w=>∃j:Nat,j<=24/\t=Iw j/\z=24 - j/\Sat e w (Zby p wd (rep (fl1 a) j k) n (s+j)::Q)) 24 ⟨0,Nat.zero_le _,rfl,rfl,hS⟩ ?_;rintro z _ w g2 ⟨j,hj,rfl,rfl,h1⟩ hg;refine Za7 (λc=>Zi ?_)<|λc=>Zf ?_
 .refine Zaf (⟨((1:Nat):Int),(a:Int),((0:Nat):Int)⟩:Zbs).cs (by kernel_rfl) ?_;refine ZzD (by omega) (λ_=>ha) (λh=>by omega) (by omega) hn h1 λw2 h2=>?_;refine Qincs<|hg _ _ _ (by omega) ⟨j+1,by omega,rfl,rfl,?_⟩;rw[ZlE];exact h2
 .have ej:j=24:=by omega
  rw[ej] at h1;exact hk _ h1
theorem ZpS {a b:Nat} {q:Bool × KS} (ha:a<wd.Feds.length) (hb:b<wd.Feds.length) (hs:s+8<=900000) (hn:n<=1000) (hS:Sat e w<|Zby p wd q.2 n s::Q) {Kn:Value->World->Prop} (hk:∀w',Sat e w' (Zby p wd (rep (dl1 wd a b) 8 q).2 n (s+8)::Q)->Kn (.bool (rep (dl1 wd a b) 8 q).1) w') :
  lp [.bool q.1,Iw 0] w (b2 λt5_2 t9 w g4=>bi .lss .i64 t9 (Iw 8) w λt34 w=>Zr t34
   (gd t5_2 true (λk=>k (pt p) w) w λt39 w=>gd t5_2 true (λk=>k (Iw (a:Int)) w) w λt40 w=>gd t5_2 true (λk=>k (Iw (b:Int)) w) w λt41 w=>
   gd t5_2 true (λk=>bld (Zl prog 38) #[(0,1),(1,1),(2,1)] [(0,(Iw 2)),(1,t40),(2,t41)] w k) w λt42 w=>gd t5_2 true (λk=>Cl prog 8 #[t39,t42] w k) w λt43 w=>
   gd t5_2 true (λk=>bi .neq .i64 t43 (Iw 2) w k) w λt44 w=>pk t5_2 t44 Bf w λt45 w=>bi .add .i64 t9 (Iw 1) w λt36 w=>g4 [t45,t36] w) (Kn t5_2 w)):=by
 refine ZjF (λz t5 t9 w=>∃j:Nat,j<=8/\t9=Iw j/\t5=.bool (rep (dl1 wd a b) j q).1/\z=8 - j/\Sat e w (Zby p wd (rep (dl1 wd a b) j q).2 n (s+j)::Q)) 8 ⟨0,Nat.zero_le _,rfl,rfl,rfl,hS⟩ ?_;rintro z _ _ w g2 ⟨j,hj,rfl,rfl,rfl,h1⟩ hg;have e1:=ZlE (dl1 wd a b) j q;generalize hr:rep (dl1 wd a b) j q=r at*;obtain ⟨q0,k0⟩:=r;refine Za7 (λc=>Zi ?_)<|λc=>Zf ?_
 .cases q0 with
  | true=>
   refine Ze<|Ze<|Ze<|Ze<|Zaf (⟨((2:Nat):Int),(a:Int),(b:Int)⟩:Zbs).cs (by kernel_rfl)<|Ze<|ZzD (by omega) (λ_=>ha) (λ_=>hb) (by omega) hn h1 λw2 h2=>Ze<|ZF7<|Yv<|Qincs ?_;have e2:rep (dl1 wd a b) (j+1) q=(!decide ((k0.deliver wd a b).1=2),(k0.deliver wd a b).2):=e1.trans<|if_pos rfl;refine hg _ _ _ _ (by omega) ⟨j+1,by omega,rfl,?_,rfl,?_⟩
   .rw[e2];show Value.bool (decide<|¬(k0.deliver wd a b).1=2)=.bool (!decide ((k0.deliver wd a b).1=2));by_cases h:(k0.deliver wd a b).1=2
    .rw[decide_eq_true h,decide_eq_false<|λh'=>h' h];rfl
    .rw[decide_eq_false h,decide_eq_true h];rfl
   .rw[e2];exact h2
  | false=>
   refine Zu<|Zu<|Zu<|Zu<|Zu<|Zu<|Yd<|Qincs ?_;have e2:rep (dl1 wd a b) (j+1) q=(false,k0):=e1.trans<|if_neg (λh=>by cases (show false=true from h));refine hg _ _ _ _ (by omega) ⟨j+1,by omega,rfl,by rw[e2],rfl,?_⟩;rw[e2];exact Zgh (Nat.le_refl _) (by omega) h1
 .have ej:j=8:=by omega
  subst ej;rw[hr] at hk;exact hk _ h1
theorem ZuP {N:Nat} (hN:N<=wd.Feds.length) (h8:wd.Feds.length<=8) (hs:s+2000<=900000) (hn:n+8<=1000) (hS:Sat e w<|Zby p wd k n s::Q) (hk:∀w',Sat e w' (Zby p wd (ZkX wd N k).2 (n+8) (s+2000)::Q)->K (.bool (ZkX wd N k).1) w') :
  Cl prog 23 #[pt p,Iw (N:Int)] w K:=by
 refine ZdG<|ZjF (λz t5 t6 w=>∃j:Nat,j<=N/\t6=Iw j/\z=N - j/\t5=.bool ((List.range j).foldl (λp a=>ZvX wd N a p) (true,k)).1/\Sat e w (Zby p wd ((List.range j).foldl (λp a=>ZvX wd N a p) (true,k)).2 n (s+88*j)::Q)) N ⟨0,Nat.zero_le _,rfl,rfl,rfl,hS⟩ ?_;rintro z _ _ w1 g1 ⟨a,hj,rfl,rfl,rfl,h1⟩ hg1;refine Za7 (λc=>Zi ?_)<|λc=>Zf ?_
 .have hal:a<wd.Feds.length:=by omega
  have e1:=ZdV (λ(p:Bool × KS) a=>ZvX wd N a p) (true,k) a;generalize (List.range a).foldl (λ(p:Bool × KS) a=>ZvX wd N a p) (true,k)=q at*;refine Zs9 hal (by omega) (by omega) h1 λw2 h2=>?_;have e1:(List.range<|a+1).foldl (λ(p:Bool × KS) a=>ZvX wd N a p) (true,k)=(List.range N).foldl (λp b=>rep (dl1 wd a b) 8 p) (q.1,rep (fl1 a) 24 q.2):=e1;generalize rep (fl1 a) 24 q.2=kf at*;refine ZjF (λz t5 t8 w=>∃j:Nat,j<=N/\t8=Iw j/\z=N - j/\t5=.bool ((List.range j).foldl (λp b=>rep (dl1 wd a b) 8 p) (q.1,kf)).1/\Sat e w (Zby p wd ((List.range j).foldl (λp b=>rep (dl1 wd a b) 8 p) (q.1,kf)).2 n (s+88*a+24+8*j)::Q)) N ⟨0,Nat.zero_le _,rfl,rfl,rfl,h2⟩ ?_;rintro z _ _ w3 g3 ⟨b,hb,rfl,rfl,rfl,h3⟩ hg3;refine Za7 (λc2=>Zi ?_)<|λc2=>Zf ?_
  .have e2:=ZdV (λ(p:Bool × KS) b=>rep (dl1 wd a b) 8 p) (q.1,kf) b;generalize (List.range b).foldl (λ(p:Bool × KS) b=>rep (dl1 wd a b) 8 p) (q.1,kf)=q2 at*;refine ZpS hal (by omega) (by omega) (by omega) h3 λw4 h4=>?_;refine Qincs<|hg3 _ _ _ _ (by omega) ⟨b+1,by omega,rfl,rfl,by rw[e2],?_⟩;rw[e2];exact Zgh (Nat.le_refl _) (by omega) h4
  .have eb:b=N:=by omega
   rw[eb] at h3 ⊢;refine Qincs<|hg1 _ _ _ _ (by omega) ⟨a+1,by omega,rfl,rfl,by rw[e1],?_⟩;rw[e1];exact Zgh (Nat.le_refl _) (by omega) h3
 .have ea:a=N:=by omega
  rw[ea] at h1 ⊢;unfold ZkX at hk;dsimp only at hk;generalize (List.range N).foldl (λ(p:Bool × KS) a=>ZvX wd N a p) (true,k)=q at*;refine ZjF (λz t5 t10 w=>∃j:Nat,j<=N/\t10=Iw j/\z=N - j/\t5=.bool ((List.range j).foldl (ZBa wd) q).1/\Sat e w (Zby p wd ((List.range j).foldl (ZBa wd) q).2 (n+j) (s+88*N+2*j)::Q)) N ⟨0,Nat.zero_le _,rfl,rfl,rfl,h1⟩ ?_;rintro z _ _ w5 g5 ⟨j,hj,rfl,rfl,rfl,h5⟩ hg5;refine Za7 (λc2=>Zi ?_)<|λc2=>Zf ?_
  .have hjl:j<wd.Feds.length:=by omega
   have e2:=ZdV (ZBa wd) q j;generalize (List.range j).foldl (ZBa wd) q=r at*;obtain ⟨q0,k0⟩:=r;refine Zp2 (by omega) h5 λv w6 h6=>?_;have eo:ZDK wd k0 j=k0.box j:=if_pos (by unfold inN;omega);rw[eo] at h6;refine Qln h6 0 rfl<|ZBD<|Zaf (⟨((0:Nat):Int),(j:Int),((0:Nat):Int)⟩:Zbs).cs (by kernel_rfl) ?_;refine ZzD (by omega) (λ_=>hjl) (λh=>by omega) (by omega) (by omega) h6.drop λw7 h7=>?_;have fin:∀{w:World},Sat e w (Zby p wd (k0.step wd j).2 (n+j+1) (s+88*N+2*j+1)::Q)->
     bld (Zl prog 38) #[(0,1),(1,1),(2,1)] [(0,(Iw 3)),(1,Iw (j:Int))] w λt71 w=>Cl prog 8 #[pt p,t71] w λ_ w=>bi .add .i64 (Iw (j:Int)) (Iw 1) w λt50 w=>
      g5 [.bool<|q0&&(!decide ((k0.step wd j).1=2) || !(k0.box j).isEmpty),t50] w:=by
    intro w h;refine Zaf (⟨((3:Nat):Int),(j:Int),((0:Nat):Int)⟩:Zbs).cs (by kernel_rfl) ?_;refine ZzD (by omega) (λ_=>hjl) (λh=>by omega) (by omega) (by omega) h λw8 h8=>?_;refine Qincs<|hg5 _ _ _ _ (by omega) ⟨j+1,by omega,rfl,rfl,by rw[e2];rfl,?_⟩;rw[e2];exact h8
   have he:(decide<|((k0.box j).length:Int)=0)=(k0.box j).isEmpty:=by
    cases k0.box j with
    | nil=>rfl
    | cons x l=>rw[decide_eq_false (by rw[List.length_cons];omega)];rfl
   rw[he];cases q0 with
   | false=>exact Zu (Zu<|Zu<|Zrb<|Zrb<|Zu<|Yd<|fin h7)
   | true=>
    refine Ze<|Ze<|ZF7<|Ze ?_;have hst:(k0.do' wd 0 j 0)=k0.step wd j:=rfl;rw[hst];by_cases h2:(k0.step wd j).1=2
    .rw[decide_eq_false<|λh'=>h' h2];refine Zj<|Zj<|Zk5<|Ze<|Yd<|Yv ?_;have:=fin h7;rw[decide_eq_true h2] at this;exact this
    .rw[decide_eq_true h2];refine Zd<|Zd<|Ze<|Yv<|Yv ?_;have:=fin h7;rw[decide_eq_false h2] at this;exact this
  .have ej:j=N:=by omega
   rw[ej] at h5 ⊢;generalize (List.range N).foldl (ZBa wd) q=r at*;refine Zaf (⟨((4:Nat):Int),((0:Nat):Int),((0:Nat):Int)⟩:Zbs).cs (by kernel_rfl) ?_;refine ZzD (by omega) (λh=>absurd rfl h) (λh=>by omega) (by omega) (by omega) h5 λw6 h6=>?_;have h6:Sat e w6 (Zby p wd r.2.begin'.2 (n+N) (s+88*N+2*N+1)::Q):=h6;refine Zdk (λz t w=>∃j:Nat,j<=N/\t=Iw j/\z=N - j/\Sat e w (Zby p wd ((List.range j).foldl tr1 r.2.begin'.2) (n+N) (s+88*N+2*N+1+j)::Q)) N ⟨0,Nat.zero_le _,rfl,rfl,h6⟩ ?_;rintro z _ w7 g6 ⟨j,hj,rfl,rfl,h7⟩ hg6;refine Za7 (λc3=>Zi ?_)<|λc3=>Zf ?_
   .refine Zaf (⟨((5:Nat):Int),(j:Int),((0:Nat):Int)⟩:Zbs).cs (by kernel_rfl) ?_;refine ZzD (by omega) (λ_=>by omega) (λh=>by omega) (by omega) (by omega) h7 λw8 h8=>?_;refine Qincs<|hg6 _ _ _ (by omega) ⟨j+1,by omega,rfl,rfl,?_⟩;rw[ZdV];exact h8
   .have ej:j=N:=by omega
    rw[ej] at h7;generalize (List.range N).foldl tr1 r.2.begin'.2=k4 at*;refine Zdk (λz t w=>∃j:Nat,j<=N/\t=Iw j/\z=N - j/\Sat e w (Zby p wd ((List.range j).foldl (rp1 wd) k4) (n+N) (s+88*N+3*N+1+j)::Q)) N ⟨0,Nat.zero_le _,rfl,rfl,Zgh (Nat.le_refl _) (by omega) h7⟩ ?_;rintro z _ w8 g7 ⟨j,hj,rfl,rfl,h8⟩ hg7;refine Za7 (λc4=>Zi ?_)<|λc4=>Zf ?_
    .refine Zaf (⟨((6:Nat):Int),(j:Int),((0:Nat):Int)⟩:Zbs).cs (by kernel_rfl) ?_;refine ZzD (by omega) (λ_=>by omega) (λh=>by omega) (by omega) (by omega) h8 λw9 h9=>?_;refine Qincs<|hg7 _ _ _ (by omega) ⟨j+1,by omega,rfl,rfl,?_⟩;rw[ZdV];exact h9
    .have ej:j=N:=by omega
     rw[ej] at h8;exact hk _<|Zgh (by omega) (by omega) h8
theorem ZzB {wd:Wd} (h:(Za4 wd).2=0) {room:Int} (hr:1<=room/\room<=16):ZtU wd room=0:=by
 unfold ZtU;rw[if_neg<|λh'=>h' h,if_pos hr]
theorem Zsk {a b:Int} {room:Nat} (ha:bit a) (hb:bit b) (hr:1<=room/\room<=16) (hS:Sat e w Q) (hk:∀p w',Sat e w' (Zby p (Zb2 a b) (KS.init (Zb2 a b) room) 0 0::Q)->K (.tuple #[pt p,Iw 0]) w') :
  Cl prog 22 #[Iw a,Iw b] w λt w=>Cl prog 6 #[t,Iw (room:Int)] w K:=by
 refine ZGe ha hb hS λx S w1 hx hwf hs hrd h1=>?_;have hE:ZtU x.w (room:Int)=0:=by rw[hx];exact ZzB (Zsw ha hb) (by omega)
 refine Zu2 (room:=(room:Int)) 0 rfl h1 hrd hwf hs (λh=>absurd hE h) λ_ p w2 h2=>?_;rw[hx,Int.toNat_natCast] at h2;exact hk p _<|h2.sn 2 [0]
theorem Zh9 {a b:Int}:(Zb2 a b).Feds.length=2:=rfl
theorem ZvP {a b:Int} (k:KS):ZBN (Zb2 a b) k 0=(k.node 0).log (Zb2 a b) 0:=if_pos ⟨Int.le_refl 0,by rw[Zh9];decide⟩
theorem ZvF {a b:Int} (k:KS):ZBN (Zb2 a b) k 1=(k.node 1).log (Zb2 a b) 1:=if_pos ⟨by decide,by rw[Zh9];decide⟩
theorem Zu0 (hS:Sat e w Q) (hk:∀w',Sat e w' Q->K Bt w'):Cl prog 5 #[] w K:=by
 refine ZdB ?_;unfold ZcY;have h0:bit 0:=.inl rfl;have h1:bit 1:=.inr rfl;refine Zsk (room:=8) h0 h1 (by decide) hS λp w1 hw1=>Zam<|Zal<|ZoP rfl<|Zj<|Zj<|ZmP _<|Yd<|Zj<|Zj ?_;obtain ⟨hb1,hb2⟩:=Zvw;refine Zp2 (a:=0) (by omega) hw1 λv w2 hw2=>?_;have eo:ZDK (Zb2 0 1) (KS.init (Zb2 0 1) 8) 0=(KS.init (Zb2 0 1) 8).box 0:=if_pos ⟨Int.le_refl 0,by rw[Zh9];decide⟩;rw[eo] at hw2;refine Zj<|Qln hw2 0 rfl<|Zj<|ZoP (by rw[hb1];rfl)<|Yd<|Zj<|Zj<|Zc0 (by omega) hw2.drop λw3 hw3=>?_;rw[hb2];refine Yd<|Zf ?_;generalize hk0:KS.init (Zb2 0 1) 8=k0 at*;refine Zdk (λz t w=>∃j:Nat,j<=30/\t=Iw j/\z=30 - j/\Sat e w (Zby p (Zb2 0 1) (ZmK (Zb2 0 1) 2 j k0) (8*j) (2000*j)::Q)) 30 ⟨0,Nat.zero_le _,rfl,rfl,hw3⟩ ?_;rintro z _ w4 g1 ⟨j,hj,rfl,rfl,hw4⟩ hg;refine Za7 (λc=>Zi ?_)<|λc=>Zf ?_
 .refine ZuP (N:=2) (by rw[Zh9];decide) (by rw[Zh9];decide) (by omega) (by omega) hw4 λw5 hw5=>Qincs<|hg _ _ _ (by omega) ⟨j+1,by omega,rfl,rfl,?_⟩;rw[Zqk];exact hw5
 .have ej:j=30:=by omega
  subst ej;obtain ⟨hR,hL⟩:=Zqg (Zsw h0 h1) h0 h1 (room:=8) (by decide) (m:=30) (by decide);rw[hk0] at hR hL;have hq:=Zj4 hR;obtain ⟨l0,l1⟩:=Zsv hL;generalize ZmK (Zb2 0 1) 2 30 k0=k1 at*;refine Zc0 (by omega) hw4 λw5 hw5=>?_;rw[hq];refine Ze<|Ze<|ZdZ (a:=0) (by omega) hw5 λv0 w6 hw6=>Ze<|Qln hw6 0 rfl ?_;rw[ZvP,l0];refine Ze<|ZtF (by decide)<|Yv<|Ze<|Ze<|ZdZ (a:=1) (by omega) hw6.drop λv1 w7 hw7=>Ze<|Qln hw7 0 rfl ?_;rw[ZvF,l1];exact Ze<|ZtF (by decide)<|Yv<|hk _ hw7.drop.drop
theorem Zxu (n:Nat) (o:Zbs):Zdq n o<=n+1:=by
 unfold Zdq;split <;> omega
def ZMn (wd:Wd) (k:KS) (l:List Zbs):KS:=l.foldl (λk o=>(doK wd k o).2) k
theorem ZLb (k:KS) (l:List Zbs) (o:Zbs):ZMn wd k (l++[o])=(doK wd (ZMn wd k l) o).2:=by
 unfold ZMn;rw[List.foldl_append];rfl
theorem ZL6 {s:Nat} (h:Ze1 wd k s):∀l:List Zbs,Ze1 wd (ZMn wd k l) (s+l.length):=by
 intro l;induction l using ZBf with
 | h0=>exact h
 | hs l o ih=>
  rw[ZLb,List.length_append];exact ih.doK o
theorem ZLJ {j:Nat} (hj:j<wd.Feds.length) (hS:Sat e w<|Zby p wd k n s::Q) (hn:n<=1000):(ZBN wd k j).length<=1000:=by
 obtain ⟨M,_,h1⟩:=ZpC hS;have e1:ZBN wd k j=(k.node j).log wd j:=if_pos (by unfold inN;omega);rw[e1];have h2:=Sat.focus h1 j<|Yk (F:=λf=>ndH wd n f (k.node f)<|M.ms f) hj;cases hN:k.node j with
 | slow N=>
  rw[hN] at h2;have h3:=(ZzP (n:=(M.ms j).1) (wd:=wd) (f:=j) (N:=N) (k:=n) 0 h2 rfl).1;exact Nat.le_trans h3.log hn
 | bold N r t=>
  rw[hN] at h2;have h3:Sat e w (ZfN (M.ms j) r t::Ya (M.ms j).1 wd j (Zs wd j) N n::_):=Sat.split (l':=[_,_]) h2;exact Nat.le_trans (ZAT<|ZqK 1 h3 rfl) hn
theorem Z0B {a:Int} (hS:Sat e w<|Zby p wd k n s::Q) (hn:n<=1000):(ZBN wd k a).length<=1000:=by
 by_cases ha:inN wd a
 .obtain ⟨j,rfl,hj⟩:=Zxy ha;exact ZLJ hj hS hn
 .rw[show ZBN wd k a=[] from if_neg ha];exact Nat.zero_le _
theorem Z0G {a:Int} (hI:Ze1 wd k s) (hs:s<=1000000):(ZDK wd k a).length<=1000000000000:=by
 have h:=Znn hI hs a.toNat;unfold ZDK;split
 .omega
 .exact Nat.zero_le _
theorem ZZ4 {x:WdX} {r1:Int} {v:Value} {l:List Zbs} (hS:Sat e w (S::Q)) (hr:∀g,S g->ZtG x g) (hwf:x.wf) (_:(Lit.int .i64 r1).wf=true) (hr2:∀g,S g->rdS 3 Zbs.cs v l g) (hk:∀w',Sat e w' (S::Q)->K Bt w') :
  Cl prog 3 #[.agg x.cs.toArray,Iw r1,v] w K:=by
 refine ZXt ?_;unfold ZWf;refine Yp (cs:=x.cs) hS rfl λb4 w2 h2=>Zo h2 0 (vs:=x.cs) rfl (by rfl) rfl ?_;refine ZLK (x:=x) 1 rfl h2 hr λw3 q h3 hshort=>?_;have hsh:∀{w:World},Sat e w (blk b4 25 x.cs::S::Q)->Cl prog 5 #[] w λt w=>K t w:=λh=>Zu0 h λw' h'=>hk _ h'.drop;cases q with
 | false=>exact Zch (Zd (Zd (Zd (Yv (Zi (hsh h3))))))
 | true=>
  have hs:=hshort rfl;refine ZaJ (Zj (Zj (Zt h3 1 rfl hr2 (Zj (Ztu (λc0=>Yd (Zi (hsh h3))) (λc0=>Yd (Zf ?_)))))));refine Zo h3 0 (vs:=x.cs) rfl (by rfl) rfl ?_;refine Zu2 1 rfl h3 hr hwf hs (λhb w4 h4=>?_) λhok p w4 h4=>?_
  .refine Zam (Zal (Zo h4 0 (vs:=x.cs) rfl (by rfl) rfl (ZYX 1 rfl h4 hr hs (λ_ w5 h5=>?_) λh=>absurd h hb)));exact Zam (Zal (ZoP rfl (Zj (Zj (Ztj (Zj (Zj (Ztj (Zj (ZMz (Yd (Zj (Zu0 h5 λw7 h7=>Zj (ZaJ (Yd (Zf (Ztj (Zi (hk _ h7.drop)))))))))))))))))))
  .refine Zam (Zal (Zo h4 1 (vs:=x.cs) rfl (by rfl) rfl (ZYX 2 rfl h4 hr hs (λh=>absurd hok h) λ_ p2 w5 h5=>?_)));refine Zam (Zal (ZoP rfl (Zj (Zj (ZmP _ (Zj (Zj (ZmP _ (Zj (ZMz (Yd (Zj (Zu0 h5 λw7 h7=>Zj (ZaJ (Yd (Zf (ZmP _ (Zf ?_))))))))))))))))));have hc:(Za4 x.w).2=0:=Classical.byContradiction λh=>by
    unfold ZtU at hok;rw[if_pos h] at hok;exact h hok
   have hn8:=(ZfI hc).n;have hI0:=Ze1.init hc r1.toNat;generalize KS.init x.w r1.toNat=k0 at*;refine Zdk (λz t w=>∃i:Nat,i<=l.length/\t=Iw i/\z=l.length - i/\Sat e w (ZVX p2 x (ZMn x.w k0 (l.take i)) i i::S::Zby p x.w (ZMn x.w k0 (l.take i)) i i::blk b4 25 x.cs::Q)) l.length ⟨0,Nat.zero_le _,rfl,rfl,h7.selR [_,_,_,_] [_,_,_,_] [0,3,1,2] (by decide) rfl⟩ ?_;rintro z _ w8 g1 ⟨i,hi,rfl,rfl,h9⟩ hg1;refine Zt h9 1 rfl hr2 (Za7 (λc1=>Zi ?_) (λc1=>Zf ?_))
   .obtain ⟨y,hy⟩:=Zk (l:=l) (j:=i) (by omega);refine ZaY h9 λw9 h10=>Zw h10 1 rfl hr2 (λ_=>rfl) hy λa ha=>Ym h10 1 rfl ha rfl ?_;refine Zw h10 1 rfl hr2 (λ_=>rfl) hy λa1 ha1=>Zbd ha1 λb1 hb1=>Yt h10 1 rfl hb1 (v:=Iw y.Kind) rfl ?_;refine Zw h10 1 rfl hr2 (λ_=>rfl) hy λa2 ha2=>Zbd ha2 λb2 hb2=>Yt h10 1 rfl hb2 (v:=Iw y.A) rfl ?_;refine Zw h10 1 rfl hr2 (λ_=>rfl) hy λa3 ha3=>Zbd ha3 λb3 hb3=>Yt h10 1 rfl hb3 (v:=Iw y.B) rfl ?_;refine ZrZ (o:=y) (by omega) (by omega) (h10.pick 2 rfl) λw10 h11=>?_;have h11:Sat e w10 (ZVX p2 x (ZMn x.w k0 (l.take i)) i i::S::Zby p x.w (doK x.w (ZMn x.w k0 (l.take i)) y).2 (Zdq i y) (i+1)::blk b4 25 x.cs::Q):=Sat.putB (L:=ZVX p2 x (ZMn x.w k0 (l.take i)) i i::S::Zby p x.w (ZMn x.w k0 (l.take i)) i i::blk b4 25 x.cs::Q) 2 rfl h11;refine ⟨Yt h11 1 rfl hb3 (v:=Iw y.B) rfl ⟨rfl,rfl⟩,Yt h11 1 rfl hb2 (v:=Iw y.A) rfl ⟨rfl,rfl⟩,Yt h11 1 rfl hb1 (v:=Iw y.Kind) rfl ⟨rfl,rfl⟩,?_⟩;refine Z0H (o:=y) (by omega) (by omega) hs hr h11 λw11 h12=>?_;refine ZoP rfl (Zj (Zj (Zj (ZKN (h12.pick 2 rfl) (Zj (ZZy h12 (Zj (ZoP rfl (Yd (Zj (Zj (Zj (Zc0 (by omega) (h12.pick 2 rfl) λw12 h13=>?_)))))))))))));have h13:Sat e w12 (ZVX p2 x (doK x.w (ZMn x.w k0 (l.take i)) y).2 (Zdq i y) (i+1)::S::Zby p x.w (doK x.w (ZMn x.w k0 (l.take i)) y).2 (Zdq i y) (i+1)::blk b4 25 x.cs::Q):=Sat.putB (L:=ZVX p2 x (doK x.w (ZMn x.w k0 (l.take i)) y).2 (Zdq i y) (i+1)::S::Zby p x.w (doK x.w (ZMn x.w k0 (l.take i)) y).2 (Zdq i y) (i+1)::blk b4 25 x.cs::Q) 2 rfl h13;refine Zj (ZZt (by omega) hr h13 λw13 h14=>Zj (ZMz (Yd ?_)));rw[bne_self_eq_false];refine Zf (Qincs (hg1 _ _ _ (by omega) ⟨i+1,by omega,rfl,rfl,?_⟩));rw[Zx hy,ZLb];have hle:=Zxu i y;obtain ⟨M2,hI2,h15⟩:=ZYq h14;have h16:=ZX8 hI2 (Z0f hle h15);exact Sat.putB (L:=ZVX p2 x (doK x.w (ZMn x.w k0 (l.take i)) y).2 (i+1) (i+1)::S::Zby p x.w (doK x.w (ZMn x.w k0 (l.take i)) y).2 (Zdq i y) (i+1)::blk b4 25 x.cs::Q) 2 rfl (Zgh hle (Nat.le_refl _) (h16.pick 2 rfl))
   have ei:i=l.length:=by omega
   rw[ei,List.take_length] at h9;have hI:=ZL6 hI0 l;rw[Nat.zero_add] at hI;generalize ZMn x.w k0 l=k1 at*;refine Zdk (λz t w=>∃j:Nat,j<=x.w.Feds.length+2/\t=Iw ((j:Int) - 1)/\z=x.w.Feds.length+2 - j/\Sat e w (ZVX p2 x k1 l.length l.length::S::Zby p x.w k1 l.length l.length::blk b4 25 x.cs::Q)) (x.w.Feds.length+2) ⟨0,Nat.zero_le _,rfl,rfl,h9⟩ ?_;rintro z _ w14 g2 ⟨j,hj,rfl,rfl,h15⟩ hg2;refine Za (Zb h15 3 rfl (v:=x.fv) rfl (Zt h15 1 rfl (λ_ h=>(hr _ h).feds) ?_));rw[Z1d];refine ZFH (λc2=>Zi ?_) (λc2=>Zf (hk _ (h15.pick 1 rfl |>.selR [_,_,_,_] [_] [0] (by decide) rfl)));generalize hga:(j:Int) - 1=a;have hlog:=Z0B (a:=a) (h15.pick 2 rfl) (by omega);have hol:=Z0G (a:=a) hI (by omega);refine ZKO (h15.pick 2 rfl) (ZZx hr h15 (ZoP rfl (Zj (Zj (Zj (ZdZ (a:=a) (by omega) (h15.pick 2 rfl) λu w16 h16=>?_))))));refine Zj (Zj (Zj (Z0j (a:=a) (by omega) hr (h16.selR [_,_,_,_] [_,_,_,_] [2,3,1,0] (by decide) rfl) λu2 w17 h17=>?_)));refine Zj (Zud (l:=ZBN x.w k1 a) 4 0 rfl rfl h17 (λ_=>Zp) (λ_=>Zp) (by omega) λw18 h18=>Zj (ZaJ (Yd ?_)));refine Zj (Zj (Zj (Zp2 (a:=a) (by omega) (h18.pick 3 rfl) λu3 w19 h19=>?_)));refine Zj (Zj (Zj (Z0h (a:=a) (by omega) hr (h19.selR [_,_,_,_,_] [_,_,_,_] [3,4,1,0] (by decide) rfl) λu4 w20 h20=>?_)));refine Zj (ZLF (l:=ZDK x.w k1 a) 4 0 rfl rfl h20 (λ_=>Zp) (λ_=>Zp) hol λw21 h21=>Zj (ZaJ (Yd (Zf (Qadds ?_)))));exact hg2 _ _ _ (by omega) ⟨j+1,by omega,by congr 1;omega,rfl,h21.selR [_,_,_,_,_,_,_] [_,_,_,_] [1,2,3,6] (by decide) rfl⟩
end Go.Proofs.YtceipnkeijhebaaGreat
end
