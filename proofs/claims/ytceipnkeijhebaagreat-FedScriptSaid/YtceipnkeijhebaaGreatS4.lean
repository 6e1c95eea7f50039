/- Texts of the proof, joined. Conditions: none. -/
import Derived.Test.YtceipnkeijhebaaGreatS3
import Derived.Stop.Asserts
import Derived.Lib.IfaceEq
section
namespace Go.Proofs.YtceipnkeijhebaaGreat
open Go Go.E
set_option maxRecDepth 100000
variable {e w:World} {R:List HP} {K:KV}
def ZNs (q:Nat) (room:Int) (l:List Msg):HP:=hex λv:Value=>Yh [blk q 233 [Iw room,v],Zz 85 6 Msg.cs v l]
theorem ZYW {q:Nat} {room:Int} {l:List Msg} (h:Sat e w<|ZNs q room l::R):∃v,Sat e w (blk q 233 [Iw room,v]::Zz 85 6 Msg.cs v l::R):=by
 obtain ⟨v,h0⟩:=h.ex;exact ⟨v,h0.split⟩
theorem ZNr {q:Nat} {room:Int} {l:List Msg} {v:Value} (h:Sat e w<|blk q 233 [Iw room,v]::Zz 85 6 Msg.cs v l::R):Sat e w (ZNs q room l::R):=
 .mk_ex v (.join (l':=[_,_]) h)
theorem ZM5 {n:Int} (hS:Sat e w R) (hk:∀q w',Sat e w' (ZNs q (max 0<|min n 64) []::R)->K (pt q) w'):Cl prog 82 #[Iw n] w K:=by
 refine ZM1 ?_;unfold ZMQ;refine Zty<|ZwQ ?_;rw[Z1w];refine Zaf [Iw<|max 0<|min n 64,Sn] (by kernel_rfl) ?_;exact Yp (cs:=[Iw<|max 0<|min n 64,Sn]) hS rfl λq w2 h2=>hk _ _<|ZNr (v:=Sn) (h2.own_nil 85 6 Msg.cs).swap
theorem ZYi {q:Nat} {room:Int} {l:List Msg} {k:Key} (hl:l.length<=1000000) (hS:Sat e w<|ZNs q room l::R)
  (hno:(∀x∈l,x.key≠k)->∀w',Sat e w' (ZNs q room l::R)->K (Iw (-1)) w')
  (hyes:∀(i:Nat) (x:Msg),l[i]?=some x->x.key=k->(∀j y,j<i->l[j]?=some y->y.key≠k)->∀w',Sat e w' (ZNs q room l::R)->K (Iw (i:Int)) w') :
  Cl prog 205 #[pt q,.agg k.cs.toArray] w K:=by
 refine ZXa ?_;unfold ZV8;obtain ⟨v,h1⟩:=ZYW hS;refine Yp (cs:=k.cs) h1 rfl λb w2 h2=>?_;refine Zdk (λz t5 w=>∃j:Nat,j<=l.length/\t5=Iw j/\z=l.length - j/\(∀i y,i<j->l[i]?=some y->y.key≠k)/\Sat e w (blk b 83 k.cs::blk q 233 [Iw room,v]::Zz 85 6 Msg.cs v l::R)) l.length
  ⟨0,Nat.zero_le _,rfl,rfl,(λ_ _ h=>by omega),h2⟩ ?_
 rintro z _ w g ⟨j,hj,rfl,rfl,hne,h3⟩ hg;refine Zh<|Za<|Zb h3 1 rfl (v:=v) rfl<|Qln h3 2 rfl<|Za7 (λc=>Zi ?_)<|λc=>Zf ?_
 .obtain ⟨x,hx⟩:=Zk (l:=l) (j:=j) (by omega);refine ZaY h3 λw4 h4=>Zh<|Za<|Zb h4 1 rfl (v:=v) rfl<|Qix h4 2 rfl hx λp hp=>Zbd hp λp1 hp1=>Zn0 (us:=x.key.cs) h4 2 rfl hp1 (by rfl) rfl ?_;refine Zo h4 0 (vs:=k.cs) rfl (by rfl) rfl ?_;refine ZFS (ns:=x.key.ns) (ms:=k.ns) ZYS ZYT ZZi (by decide) rfl ?_;rw[Key.eq_ns];by_cases hxk:x.key=k
  .rw[decide_eq_true hxk];exact Zi<|hyes j x hx hxk hne _<|ZNr h4.drop
  .rw[decide_eq_false hxk];refine Zf<|Qincs<|hg _ _ _ (by omega) ⟨j+1,by omega,rfl,rfl,λi y hi hy=>?_,h4⟩;by_cases hij:i=j
   .subst hij;rw[hx] at hy;injection hy with hy;subst hy;exact hxk
   .exact hne i y (by omega) hy
 .refine hno (λx hx=>?_) _<|ZNr h3.drop;obtain ⟨i,hi⟩:=List.mem_iff_getElem?.1 hx;exact hne i x (by have:=(List.getElem?_eq_some_iff.1 hi).1;omega) hi
structure Place (l:List Msg) (m:Msg) (p:Nat):Prop where
 le:p<=l.length
 low:∀z∈l.take p,¬Zv m.key z.key
 high:p=l.length\/∃y,l[p]?=some y/\Zv m.key y.key
def ZCz (l:List Msg) (m:Msg) (p:Nat):List Msg:=l.take p++m::l.drop p
theorem ZZj (l:List Msg) (m:Msg) (p:Nat):(ZCz l m p).Perm (l++[m]):=by
 unfold ZCz;refine List.perm_middle.trans ?_;rw[List.take_append_drop];exact (List.perm_append_comm (l₁:=[m]) (l₂:=l))
def Up (l:List Msg):Prop:=l.Pairwise λa b=>Zv a.key b.key
theorem Place.up {l:List Msg} {m:Msg} {p:Nat} (h:Place l m p) (hu:Up l) (hne:∀y∈l,y.key≠m.key):Up (ZCz l m p):=by
 unfold Up ZCz at*;have hs:(l.take p++l.drop p).Pairwise λa b=>Zv a.key b.key:=by rw[List.take_append_drop];exact hu
 obtain ⟨h1,h2,h3⟩:=List.pairwise_append.1 hs;have hm:∀y∈l.drop p,Zv m.key y.key:=by
  intro y hy;rcases h.high with hp | ⟨z,hz,hmz⟩
  .rw[List.drop_of_length_le (by omega)] at hy;cases hy
  .rw[Zaq hz] at hy h2;rcases List.mem_cons.1 hy with rfl | hy
   .exact hmz
   .exact hmz.trans<|(List.pairwise_cons.1 h2).1 y hy
 refine List.pairwise_append.2 ⟨h1,List.pairwise_cons.2 ⟨hm,h2⟩,λz hz y hy=>?_⟩;rcases List.mem_cons.1 hy with rfl | hy
 .rcases Zv.tri z.key y.key with h4 | h4 | h4
  .exact h4
  .exact absurd h4<|hne z<|List.mem_of_mem_take hz
  .exact absurd h4<|h.low z hz
 .exact h3 z hz y hy
structure ZHc (l:List Msg) (m:Msg) (i:Nat) (d:Bool) (c:List Msg):Prop where
 no:d=false->c=l.take i/\∀z∈l.take i,¬Zv m.key z.key
 yes:d=true->∃p y,p<i/\l[p]?=some y/\Zv m.key y.key/\(∀z∈l.take p,¬Zv m.key z.key)/\c=l.take p++m::(l.take i).drop p
theorem ZHc.len {l:List Msg} {m:Msg} {i:Nat} {d:Bool} {c:List Msg} (h:ZHc l m i d c) (_hi:i<=l.length):c.length<=i+1:=by
 cases d with
 | false=>rw[(h.no rfl).1,List.length_take];omega
 | true=>
  obtain ⟨p,y,hp,_,_,_,rfl⟩:=h.yes rfl;simp only[List.length_append,List.length_cons,List.length_take,List.length_drop];omega
theorem ZX4 {v:Value} {l:List Msg} {m:Msg} {S:HP} (hl:l.length<=1000000) (hS:Sat e w<|S::R) (hr:∀g,S g->rdS 6 Msg.cs v l g)
  (hk:∀v' p w',Place l m p->Sat e w' (Zz 85 6 Msg.cs v' (ZCz l m p)::S::R)->K v' w'):Cl prog 172 #[v,.agg m.cs.toArray] w K:=by
 refine ZXV ?_;unfold ZXB;rw[ZOc];refine Yp (cs:=m.cs) hS rfl λb w2 h2=>Zw3 h2 Msg.cs λv1 w3 h3=>?_;refine ZIw (λz t5 t6 t7 w=>∃(i:Nat) (d:Bool) (c:List Msg),i<=l.length/\t6=.bool d/\t7=Iw i/\z=l.length - i/\ZHc l m i d c/\Sat e w (Zz 85 6 Msg.cs t5 c::blk b 85 m.cs::S::R)) l.length
  ⟨0,false,[],Nat.zero_le _,rfl,rfl,rfl,⟨λ_=>⟨rfl,λ_ h=>by cases h⟩,λh=>by cases h⟩,h3⟩ ?_
 rintro z t5 _ _ w g1 ⟨i,d,c,hi,rfl,rfl,rfl,hins,h4⟩ hg;have hcl:=hins.len hi;refine Zt h4 2 rfl hr<|Za7 (λc3=>Zi ?_)<|λc3=>Zf ?_
 .obtain ⟨y,hy⟩:=Zk (l:=l) (j:=i) (by omega);have hlast:∀t5 c' d' w,c'.length<=i+1->ZHc l m (i+1) d' (c'++[y])->Sat e w (Zz 85 6 Msg.cs t5 c'::blk b 85 m.cs::S::R)->
    ixS 6 v (Iw (i:Int)) w λt35 w=>ldN 6 t35 w λt36 w=>bsl 85 6 1 (Yi [0,0,0,0,0,0]).toArray [(0,t36)] w λt37 w=>apS prog #[80,80] 80 t5 t37 w λt38 w=>
     bi .add .i64 (Iw (i:Int)) (Iw 1) w λt14 w=>g1 [t38,.bool d',t14] w:=by
   intro t5 c' d' w hc' hins' h5;refine Zw h5 2 rfl hr (λ_=>rfl) hy λp hp=>Ym h5 2 rfl hp rfl<|Zj7 ZYs (f:=Msg.cs) (λ_=>rfl) (λ_=>Zg _) h5 (x:=y) rfl (by omega) λv' w6 h6=>?_;exact Qincs<|hg _ _ _ _ _ (by omega) ⟨i+1,d',c'++[y],by omega,rfl,rfl,rfl,hins',h6⟩
  refine ZaY h4 λw5 h5=>?_;cases d with
  | true=>
   refine ZaJ<|Zu<|Zu<|Zu<|Zu<|Zu<|Zu<|Zu<|Zu<|Zu<|Yd<|Zf<|hlast _ c true _ hcl ⟨(λh=>by cases h),λ_=>?_⟩ h5;obtain ⟨p,y',hp,hy',hxy,hlo,rfl⟩:=hins.yes rfl;refine ⟨p,y',by omega,hy',hxy,hlo,?_⟩;rw[Zx hy,List.drop_append_of_le_length (by rw[List.length_take];omega)];simp
  | false=>
   obtain ⟨rfl,hlo⟩:=hins.no rfl;refine Zch<|Ze<|Za<|Ze<|Zo h5 1 (vs:=m.key.cs) rfl (by rfl) rfl<|Ze<|Ze<|Ze<|Zw h5 2 rfl hr (λ_=>rfl) hy λp hp=>Ze<|Zbd hp λp1 hp1=>Ze<|Zn0 (us:=y.key.cs) h5 2 rfl hp1 (by rfl) rfl ?_;refine Ze<|ZLj h5 λw8 h11=>Ze<|Za7 (λc4=>Yv<|Zi ?_)<|λc4=>Yv<|Zf ?_
   .refine Zo h11 1 (vs:=m.cs) rfl (by rfl) rfl ?_;refine Zj7 ZYs (f:=Msg.cs) (λ_=>rfl) (λ_=>Zg _) h11 (x:=m) rfl (by omega) λv' w9 h12=>?_;refine hlast _ (l.take i++[m]) true _ (by rw[List.length_append,List.length_take];simp;omega) ⟨(λh=>by cases h),λ_=>⟨i,y,by omega,hy,Zav.1 c4,hlo,?_⟩⟩ h12;rw[Zx hy,List.drop_append_of_le_length (by rw[List.length_take];omega),List.drop_of_length_le (by rw[List.length_take];omega)];simp
   .refine hlast _ (l.take i) false _ hcl ⟨λ_=>⟨(Zx hy).symm,λz hz=>?_⟩,λh=>by cases h⟩ h11;rw[Zx hy] at hz;rcases List.mem_append.1 hz with h | h
    .exact hlo z h
    .rw[List.mem_singleton.1 h];exact λh=>c4<|Zav.2 h
 .obtain rfl:i=l.length:=by omega
  cases d with
  | true=>
   obtain ⟨p,y,hp,hy,hxy,hlo,rfl⟩:=hins.yes rfl;rw[List.take_length] at h4;refine ZaJ<|Zf<|hk _ p _ ⟨by omega,hlo,.inr ⟨y,hy,hxy⟩⟩ ?_;exact h4.sn 3 [0,2]
  | false=>
   obtain ⟨rfl,hlo⟩:=hins.no rfl;refine Zch<|Zi<|Zo h4 1 (vs:=m.cs) rfl (by rfl) rfl ?_;refine Zj7 ZYs (f:=Msg.cs) (λ_=>rfl) (λ_=>Zg _) h4 (x:=m) rfl (by omega) λv' w9 h12=>?_;refine hk _ l.length _ ⟨Nat.le_refl _,hlo,.inl rfl⟩ ?_;have e1:ZCz l m l.length=l.take l.length++[m]:=by unfold ZCz;rw[List.drop_length]
   rw[e1];exact h12.sn 3 [0,2]
theorem ZZZ {q:Nat} {room:Int} {l:List Msg} {x:Msg} (hl:l.length<=1000) (hS:Sat e w<|ZNs q room l::R)
  (h3:(∃y∈l,y.key=x.key)->∀w',Sat e w' (ZNs q room l::R)->K (Iw 3) w')
  (h2:(∀y∈l,y.key≠x.key)->room<=l.length->∀w',Sat e w' (ZNs q room l::R)->K (Iw 2) w')
  (h0:(∀y∈l,y.key≠x.key)->l.length<room->∀p w',Place l x p->Sat e w' (ZNs q room (ZCz l x p)::R)->K (Iw 0) w') :
  Cl prog 167 #[pt q,.agg x.cs.toArray] w K:=by
 refine ZXb ?_;unfold ZV9;refine Yp (cs:=x.cs) hS rfl λb w2 k2=>Za<|Zo k2 0 (vs:=x.key.cs) rfl (by rfl) rfl ?_;refine ZYi (by omega) k2.swap (λhne w3 k3=>?_)<|λi y hy hyk _ w3 k3=>?_
 .refine ZnR (by decide)<|Zf<|ZaY k3 λw4 k4=>?_;obtain ⟨v,k5⟩:=ZYW k4;refine Zh<|Za<|Zb k5 0 rfl (v:=v) rfl<|Qln k5 1 rfl<|Zh<|Za<|Zb k5 0 rfl (v:=Iw room) rfl<|Zu5 (λc=>Zi<|h2 hne c _<|k4.swap.drop)<|λc=>Zf<|ZaY k5 λw6 k6=>Zh<|Za<|Zb k6 0 rfl (v:=v) rfl<|Zo k6 2 (vs:=x.cs) rfl (by rfl) rfl ?_;exact ZX4 (by omega) (k6.pick 1 rfl) (λ_=>Zp) λv' p w7 hp k7=>Zh<|Za<|Zpm k7 2 rfl (k7.own_cells 0 rfl) (Nat.le_of_ble_eq_true rfl) rfl λw8 k8=>h0 hne (by omega) p _ hp<|ZNr<|k8.sn 4 [2,0]
 .refine Qget<|Zi<|h3 ⟨y,List.mem_of_getElem? hy,hyk⟩ _<|k3.swap.drop
end Go.Proofs.YtceipnkeijhebaaGreat
namespace Go.Proofs.YtceipnkeijhebaaGreat
open Go Go.E
set_option maxRecDepth 100000
variable {e w:World} {R:List HP} {K:KV}
def without (l:List Msg) (k:Key):List Msg:=l.filter λx=>!decide (x.key=k)
theorem ZZV {p:Msg->Bool} {l:List Msg} {j:Nat} {x:Msg} (hx:l[j]?=some x):(l.take<|j+1).filter p=(l.take j).filter p++if p x then [x] else []:=by
 rw[Zx hx,List.filter_append];cases hpx:p x <;> simp[hpx]
theorem ZYh {v:Value} {l:List Msg} {k:Key} {S:HP} (hl:l.length<=1000000) (hS:Sat e w<|S::R) (hr:∀g,S g->rdS 6 Msg.cs v l g)
  (hk:∀v' w',Sat e w' (Zz 85 6 Msg.cs v' (without l k)::S::R)->K v' w'):Cl prog 203 #[v,.agg k.cs.toArray] w K:=by
 refine ZXO ?_;unfold ZW5;rw[ZOc];refine Yp (cs:=k.cs) hS rfl λb w2 h2=>Zw3 h2 Msg.cs λv1 w3 h3=>?_;refine ZjF (λz t5 t6 w=>∃j:Nat,j<=l.length/\t6=Iw j/\z=l.length - j/\Sat e w (Zz 85 6 Msg.cs t5 ((l.take j).filter λx=>!decide (x.key=k))::blk b 83 k.cs::S::R)) l.length
  ⟨0,Nat.zero_le _,rfl,rfl,h3⟩ ?_
 rintro z t5 _ w g ⟨j,hj,rfl,rfl,h4⟩ hg;refine Zt h4 2 rfl hr<|Za7 (λc=>Zi ?_)<|λc=>Zf ?_
 .obtain ⟨x,hx⟩:=Zk (l:=l) (j:=j) (by omega);have hn2:=List.length_filter_le (λx:Msg=>!decide (x.key=k))<|l.take j;have hn3:(l.take j).length<=1000000:=by simp;omega
  refine J1.cut (λt5 w=>Sat e w<|Zz 85 6 Msg.cs t5 ((l.take<|j+1).filter λx=>!decide (x.key=k))::blk b 83 k.cs::S::R) (λk2 hcut=>?_)<|λt5 w h5=>?_
  .rw[ZZV hx] at hcut;refine ZaY h4 λw5 h5=>Zw h5 2 rfl hr (λ_=>rfl) hx λp hp=>Zbd hp λp1 hp1=>Zn0 (us:=x.key.cs) h5 2 rfl hp1 (by rfl) rfl ?_;refine Zo h5 1 (vs:=k.cs) rfl (by rfl) rfl ?_;refine ZDr (ns:=x.key.ns) (ms:=k.ns) ZYS ZYT ZZi (by decide) rfl ?_;rw[Key.eq_ns];by_cases hxk:x.key=k
   .rw[decide_eq_true hxk] at hcut ⊢;refine Zf<|hcut _ _ ?_
    simpa using h5
   .rw[decide_eq_false hxk] at hcut ⊢;refine Zi<|Zw h5 2 rfl hr (λ_=>rfl) hx λp hp=>Ym h5 2 rfl hp rfl<|Zj7 ZYs (f:=Msg.cs) (λ_=>rfl) (λ_=>Zg _) h5 (x:=x) rfl (by omega) λv' w6 h6=>?_;exact hcut _ _ h6
  .exact Qincs<|hg _ _ _ _ (by omega) ⟨j+1,by omega,rfl,rfl,h5⟩
 .obtain rfl:j=l.length:=by omega
  rw[List.take_length] at h4;exact hk _ _<|h4.sn 3 [0,2]
theorem ZYZ {q:Nat} {room:Int} {l:List Msg} (hS:Sat e w<|ZNs q room l::R) (hk:K (Iw (l.length:Int)) w):Cl prog 170 #[pt q] w K:=by
 obtain ⟨v,h1⟩:=ZYW hS;exact ZXg<|Zh<|Za<|Zb h1 0 rfl (v:=v) rfl<|Qln h1 1 rfl hk
theorem ZXq {q:Nat} {room:Int} (hS:Sat e w<|ZNs q room []::R) (hk:∀w',Sat e w' (ZNs q room []::R)->K (.tuple #[.agg Msg.zero.cs.toArray,Bf]) w'):Cl prog 160 #[pt q] w K:=by
 refine ZVA ?_;unfold ZVy;rw[ZOc];obtain ⟨v,h1⟩:=ZYW hS;refine Yp (cs:=Yi [0,0,0,0,0,0]) h1 rfl λd w3 h3=>Zh<|Za<|Zb h3 1 rfl (v:=v) rfl<|Qln h3 2 rfl<|Znq rfl<|Zi<|Zaf Msg.zero.cs (by kernel_rfl) ?_;refine Zq h3 0 rfl (vs:=Msg.zero.cs) rfl rfl (Nat.le_of_ble_eq_true rfl) (Zg _) (cs':=Msg.zero.cs) (by kernel_rfl) λw4 h4=>?_;refine Zo h4 0 (vs:=Msg.zero.cs) rfl (by rfl) rfl ?_;exact hk _<|ZNr h4.drop
theorem ZYb {q:Nat} {room:Int} {l:List Msg} {x:Msg} (hx:l[0]?=some x) (hS:Sat e w<|ZNs q room l::R)
  (hk:∀w',Sat e w' (ZNs q room l::R)->K (.tuple #[.agg x.cs.toArray,Bt]) w'):Cl prog 160 #[pt q] w K:=by
 refine ZVA ?_;unfold ZVy;rw[ZOc];obtain ⟨v,h1⟩:=ZYW hS;have h0:=(List.getElem?_eq_some_iff.1 hx).1;refine Yp (cs:=Yi [0,0,0,0,0,0]) h1 rfl λd w3 h3=>Zh<|Za<|Zb h3 1 rfl (v:=v) rfl<|Qln h3 2 rfl<|Qeqf<|Zf<|Zh<|Za<|Zb h3 1 rfl (v:=v) rfl<|Qix (j:=0) h3 2 rfl hx λp hp=>Ym h3 2 rfl hp rfl<|Zq h3 0 rfl (vs:=x.cs) rfl rfl (Nat.le_of_ble_eq_true rfl) (Zg _) (cs':=x.cs) (by kernel_rfl) λw4 h4=>?_;refine Zo h4 0 (vs:=x.cs) rfl (by rfl) rfl ?_;exact hk _<|ZNr h4.drop
theorem ZYo {q:Nat} {room:Int} (hS:Sat e w<|ZNs q room []::R) (hk:∀w',Sat e w' (ZNs q room []::R)->K (.tuple #[.agg Msg.zero.cs.toArray,Bf]) w'):Cl prog 158 #[pt q] w K:=by
 refine ZVC ?_;unfold ZVB;rw[ZOc];refine Yp (cs:=Yi [0,0,0,0,0,0]) hS rfl λd w3 h3=>ZXq h3.swap λw4 h4=>Zam<|Zal<|Yp (cs:=Yi [0,0,0,0,0,0]) h4 rfl λd2 w5 h5=>Zq h5 0 rfl (vs:=Msg.zero.cs) rfl rfl (Nat.le_of_ble_eq_true rfl) (Zg _) (cs':=Msg.zero.cs) (by kernel_rfl) λw6 h6=>?_;refine Zf<|Zo h6 0 (vs:=Msg.zero.cs) rfl (by rfl) rfl ?_;refine Zq h6 2 rfl (vs:=Msg.zero.cs) rfl rfl (Nat.le_of_ble_eq_true rfl) (Zg _) (cs':=Msg.zero.cs) (by kernel_rfl) λw7 h7=>?_;refine Zo h7 2 (vs:=Msg.zero.cs) rfl (by rfl) rfl ?_;exact hk _<|h7.sn 3 [1]
theorem ZYY {q:Nat} {room:Int} {l:List Msg} {x:Msg} (hl:l.length<=1000) (hx:l[0]?=some x) (hS:Sat e w<|ZNs q room l::R)
  (hk:∀w',Sat e w' (ZNs q room (without l x.key)::R)->K (.tuple #[.agg x.cs.toArray,Bt]) w'):Cl prog 158 #[pt q] w K:=by
 refine ZVC ?_;unfold ZVB;rw[ZOc];refine Yp (cs:=Yi [0,0,0,0,0,0]) hS rfl λd w3 h3=>ZYb hx h3.swap λw4 h4=>Zam<|Zal<|Yp (cs:=Yi [0,0,0,0,0,0]) h4 rfl λd2 w5 h5=>Zq h5 0 rfl (vs:=x.cs) rfl rfl (Nat.le_of_ble_eq_true rfl) (Zg _) (cs':=x.cs) (by kernel_rfl) λw6 h6=>?_;refine Zi<|ZaY h6 λw7 h7=>?_;obtain ⟨v,h8⟩:=ZYW<|h7.sn 3 [1,0,2];refine Zh<|Za<|Zb h8 0 rfl (v:=v) rfl<|Za<|Zo h8 2 (vs:=x.key.cs) rfl (by rfl) rfl ?_;refine ZYh (by omega) (h8.pick 1 rfl) (λ_=>Zp) λv' w8 h9=>Zh<|Za<|Zpm h9 2 rfl (h9.own_cells 0 rfl) (Nat.le_of_ble_eq_true rfl) rfl λw9 h10=>Zo h10 3 (vs:=x.cs) rfl (by rfl) rfl ?_;refine Zq h10 4 rfl (vs:=x.cs) rfl rfl (Nat.le_of_ble_eq_true rfl) (Zg _) (cs':=x.cs) (by kernel_rfl) λw10 h11=>?_;refine Zo h11 4 (vs:=x.cs) rfl (by rfl) rfl ?_;exact hk _<|ZNr<|h11.sn 5 [2,0]
theorem ZYC {q:Nat} {room:Int} {l:List Msg} {k:Key} (hl:l.length<=1000) (hno:∀y∈l,y.key≠k) (hS:Sat e w<|ZNs q room l::R) (hk:∀w',Sat e w' (ZNs q room l::R)->K (.tuple #[.agg Msg.zero.cs.toArray,Bf]) w'):Cl prog 173 #[pt q,.agg k.cs.toArray] w K:=by
 refine ZVz ?_;unfold ZVx;rw[ZOc];refine Yp (cs:=k.cs) hS rfl λc w2 h2=>Yp (cs:=Yi [0,0,0,0,0,0]) h2 rfl λd w3 h3=>Zo h3 1 (vs:=k.cs) rfl (by rfl) rfl ?_;refine ZYi (by omega) (h3.sn 3 [2,0,1]) (λ_ w4 h4=>?_)<|λi x hx hxk=>absurd hxk<|hno x<|List.mem_of_getElem? hx;refine Ztt (by decide)<|Zi<|Zaf Msg.zero.cs (by kernel_rfl) ?_;refine Zq h4 1 rfl (vs:=Msg.zero.cs) rfl rfl (Nat.le_of_ble_eq_true rfl) (Zg _) (cs':=Msg.zero.cs) (by kernel_rfl) λw5 h5=>?_;refine Zo h5 1 (vs:=Msg.zero.cs) rfl (by rfl) rfl ?_;exact hk _<|h5.sn 3 [0]
theorem ZY7 {q:Nat} {room:Int} {l:List Msg} {x:Msg} (hl:l.length<=1000) (hx:x∈l) (hu:(l.map Msg.key).Nodup) (hS:Sat e w<|ZNs q room l::R)
  (hk:∀w',Sat e w' (ZNs q room (without l x.key)::R)->K (.tuple #[.agg x.cs.toArray,Bt]) w'):Cl prog 173 #[pt q,.agg x.key.cs.toArray] w K:=by
 refine ZVz ?_;unfold ZVx;rw[ZOc];refine Yp (cs:=x.key.cs) hS rfl λc w2 h2=>Yp (cs:=Yi [0,0,0,0,0,0]) h2 rfl λd w3 h3=>Zo h3 1 (vs:=x.key.cs) rfl (by rfl) rfl ?_;refine ZYi (by omega) (h3.sn 3 [2,0,1]) (λhno=>absurd rfl<|hno x hx)<|λi y hy hyk _ w4 h4=>?_;have hyx:y=x:=by
  obtain ⟨j,hj⟩:=List.mem_iff_getElem?.1 hx;have e1:(l.map Msg.key)[i]?=some x.key:=by simp[hy,hyk]
  have e2:(l.map Msg.key)[j]?=some x.key:=by simp[hj]
  have hil:=(List.getElem?_eq_some_iff.1 hy).1;have:=(List.getElem?_inj (by simpa using hil) hu).1<|e1.trans e2.symm;subst this;rw[hj] at hy;injection hy with hy;exact hy.symm
 subst hyx;obtain ⟨v,h5⟩:=ZYW h4;refine Qltf<|Zf<|Zh<|Za<|Zb h5 0 rfl (v:=v) rfl<|Qix h5 1 rfl hy λp hp=>Ym h5 1 rfl hp rfl<|Yp (cs:=Yi [0,0,0,0,0,0]) h5 rfl λd2 w6 h6=>Zq h6 0 rfl (vs:=y.cs) rfl rfl (Nat.le_of_ble_eq_true rfl) (Zg _) (cs':=y.cs) (by kernel_rfl) λw7 h7=>?_;refine ZaY h7 λw8 h8=>Zh<|Za<|Zb h8 1 rfl (v:=v) rfl<|Zo h8 4 (vs:=y.key.cs) rfl (by rfl) rfl ?_;refine ZYh (by omega) (h8.pick 2 rfl) (λ_=>Zp) λv' w9 h9=>Zh<|Za<|Zpm h9 3 rfl (h9.own_cells 0 rfl) (Nat.le_of_ble_eq_true rfl) rfl λw10 h10=>Zo h10 2 (vs:=y.cs) rfl (by rfl) rfl ?_;refine Zq h10 4 rfl (vs:=y.cs) rfl rfl (Nat.le_of_ble_eq_true rfl) (Zg _) (cs':=y.cs) (by kernel_rfl) λw11 h11=>?_;refine Zo h11 4 (vs:=y.cs) rfl (by rfl) rfl ?_;exact hk _<|ZNr<|h11.sn 6 [3,0]
theorem ZYG {q:Nat} {room:Int} {l:List Msg} (hl:l.length<=1000) (hS:Sat e w<|ZNs q room l::R)
  (hk:∀v w',Sat e w' (Zz 85 6 Msg.cs v l::ZNs q room l::R)->K v w'):Cl prog 127 #[pt q] w K:=by
 refine ZXd ?_;unfold ZV3;refine Zw3 hS Msg.cs λv1 w2 h2=>?_;obtain ⟨v,h3⟩:=ZYW h2.swap;refine Zh<|Za<|Zb h3 0 rfl (v:=v) rfl<|Zeo ZYs ZYP (f:=Msg.cs) (λ_=>rfl) (λ_=>Zg _) (h3.sn 3 [2,1,0]) (λ_=>Zp) (by simp;omega) λv2 w3 h4=>?_;rw[List.nil_append] at h4;exact hk _ _<|Sat.swap<|ZNr<|h4.sn 3 [2,1,0]
end Go.Proofs.YtceipnkeijhebaaGreat
end
section
namespace Go.Proofs.YtceipnkeijhebaaGreat
open Go Go.E
set_option maxRecDepth 100000
instance (a b:Key):Decidable (Zv a b):=by unfold Zv;infer_instance
structure En where
 m:Msg
 ahead:Int
 sent:Int
 st:Int
 outs:List Msg
structure EnX where
 m:Msg
 ahead:Int
 sent:Int
 st:Int
 ov:Value
 outs:List Msg
def EnX.e (x:EnX):En:=⟨x.m,x.ahead,x.sent,x.st,x.outs⟩
variable {e w:World} {L Q R:List HP} {K:KV} {S S2:HP}
def EnX.cs (x:EnX):List Value:=[Iw x.m.key.T,Iw x.m.key.From,Iw x.m.key.Seq,Iw x.m.To,Iw x.m.Class,Iw x.m.Body,Iw x.ahead,Iw x.sent,Iw x.st,x.ov]
def EnX.zero:EnX:=⟨Msg.zero,0,0,0,Sn,[]⟩
def ZcP (x:EnX):HP:=Zz 85 6 Msg.cs x.ov x.outs
theorem EnX.flat {x:EnX} (h:flat x.ov=true):∀c∈x.cs,Go.E.flat c=true:=by
 intro c hc;simp only[EnX.cs,List.mem_cons,List.not_mem_nil,or_false] at hc;rcases hc with rfl | rfl | rfl | rfl | rfl | rfl | rfl | rfl | rfl | rfl <;> first | rfl | exact h
theorem Zne {a b:List HP} (h:Sat e w<|Yh (a++b)::R):Sat e w (Yh a::Yh b::R):=by
 have h1:=h.split;rw[List.append_assoc] at h1;have h2:Sat e w (Yh a::(b++R)):=Sat.join h1;have h3:Sat e w (b++(Yh a::R)):=h2.perm List.perm_middle.symm;exact (Sat.join h3).swap
theorem ZtR {a b:List HP} (h:Sat e w<|Yh a::Yh b::R):Sat e w (Yh (a++b)::R):=by
 have h1:Sat e w (b++(Yh a::R)):=Sat.split h.swap;have h2:Sat e w (Yh a::(b++R)):=h1.perm List.perm_middle;have h3:=h2.split;rw[<-List.append_assoc] at h3;exact Sat.join h3
theorem Zt0 {a b:List HP} (hp:a.Perm b) (h:Sat e w<|Yh a::R):Sat e w (Yh b::R):=Sat.join<|h.split.perm<|hp.append_right R
theorem ZlV {xs:List EnX} (i:Nat) (hS:Sat e w L) (hi:L[i]?=some (Yh<|xs.map ZcP)) {x:EnX} (hx:x∈xs):flat x.ov=true:=by
 obtain ⟨j,hj⟩:=List.getElem?_of_mem hx;have h1:=(hS.pick i hi).split;have h2:(xs.map ZcP++L.eraseIdx i)[j]?=some (ZcP x):=by
  rw[List.getElem?_append_left (by rw[List.length_map];exact (List.getElem?_eq_some_iff.1 hj).1),List.getElem?_map,hj];rfl
 exact (h1.own_cells j h2).2
structure ZkM (l:List En):Prop where
 up:l.Pairwise λa b=>Zv a.m.key b.m.key
 len:l.length<=64
 outs:∀x∈l,x.outs.length<=1000
structure PV where
 lv:Value
 xs:List EnX
def Yf (p:Nat) (fl:Int) (l:List En):HP:=hex λv:PV=>Yh [pur<|v.xs.map EnX.e=l/\ZkM l,blk p 224 [Iw fl,v.lv],Zz 246 10 EnX.cs v.lv v.xs,Yh<|v.xs.map ZcP]
theorem Zfr {p:Nat} {fl:Int} {l:List En} (h:Sat e w<|Yf p fl l::R):∃lv xs,(xs.map EnX.e=l/\ZkM l)/\Sat e w (blk p 224 [Iw fl,lv]::Zz 246 10 EnX.cs lv xs::Yh (xs.map ZcP)::R):=by
 obtain ⟨v,h0⟩:=h.ex;exact ⟨v.lv,v.xs,Sat.pure h0.split⟩
theorem Zh1 {p:Nat} {fl:Int} {l:List En} {lv:Value} {xs:List EnX} (hp:xs.map EnX.e=l/\ZkM l) (h:Sat e w<|blk p 224 [Iw fl,lv]::Zz 246 10 EnX.cs lv xs::Yh (xs.map ZcP)::R):Sat e w (Yf p fl l::R):=
 .mk_ex ⟨lv,xs⟩ (.join (l':=[_,_,_,_]) (.mk_pure hp h))
def Zwo (v:Value) (l:List En):HP:=hex λxs:List EnX=>Yh [pur<|xs.map EnX.e=l,Zz 246 10 EnX.cs v xs,Yh<|xs.map ZcP]
theorem ZxO {v:Value} {l:List En} (h:Sat e w<|Zwo v l::R):∃xs,xs.map EnX.e=l/\Sat e w (Zz 246 10 EnX.cs v xs::Yh (xs.map ZcP)::R):=by
 obtain ⟨xs,h0⟩:=h.ex;exact ⟨xs,Sat.pure h0.split⟩
theorem ZxK {v:Value} {xs:List EnX} (h:Sat e w<|Zz 246 10 EnX.cs v xs::Yh (xs.map ZcP)::R):Sat e w (Zwo v (xs.map EnX.e)::R):=.mk_ex xs (.join (l':=[_,_,_]) (.mk_pure rfl h))
theorem Zgk (hS:Sat e w R) (hk:∀p w',Sat e w' (Yf p 0 []::R)->K (pt p) w'):Cl prog 76 #[] w K:=by
 refine ZmL ?_;unfold ZrX;refine Zaf [Iw 0,Sn] (by kernel_rfl) ?_;refine Yp (cs:=[Iw 0,Sn]) hS rfl λp w1 h1=>hk p _<|Zh1 (lv:=Sn) (xs:=[]) ⟨rfl,.nil,by simp,by simp⟩ ?_;have h2:Sat e w1 (Yh []::blk p 224 [Iw 0,Sn]::R):=Sat.join (l':=[]) h1;have h3:=h2.own_nil 246 10 EnX.cs;exact h3.sn 3 [2,0,1]
theorem Zfi {p:Nat} {fl:Int} {l:List En} (hS:Sat e w<|Yf p fl l::R) (hk:K (Iw fl) w):Cl prog 154 #[pt p] w K:=by
 refine ZfC ?_;unfold ZfT;obtain ⟨lv,xs,hp,h1⟩:=Zfr hS;exact Zh<|Za<|Zb h1 0 rfl (v:=Iw fl) rfl hk
theorem Znx {p:Nat} {fl:Int} {l:List En} (hS:Sat e w<|Yf p fl l::R) (hk:K (Iw (l.length:Int)) w):Cl prog 126 #[pt p] w K:=by
 refine Zib ?_;unfold ZiH;obtain ⟨lv,xs,hp,h1⟩:=Zfr hS;refine Zh<|Za<|Zb h1 0 rfl (v:=lv) rfl<|Qln h1 1 rfl ?_;rw[show (xs.length:Int)=l.length from by rw[<-hp.1,List.length_map]];exact hk
theorem Zrr {p:Nat} {fl:Int} {l:List En} (hS:Sat e w<|Yf p fl l::R) (hk:∀v w',Sat e w' (Zz 83 3 Key.cs v (l.map λx=>x.m.key)::Yf p fl l::R)->K v w'):Cl prog 314 #[pt p] w K:=by
 refine Zgt ?_;unfold Zhm;obtain ⟨lv,xs,hp,h1⟩:=Zfr hS;have hxl:xs.length<=64:=by have:=hp.2.len;rw[<-hp.1,List.length_map] at this;exact this
 refine Zh<|Za<|Zb h1 0 rfl (v:=lv) rfl<|Qln h1 1 rfl ?_;rw[Zxk];refine ZjF (λq t3 t11 w=>∃j:Nat,j<=xs.length/\t11=Iw j/\q=xs.length - j/\Sat e w (Zz 83 3 Key.cs t3 ((xs.take j).map λx=>x.m.key)::blk p 224 [Iw fl,lv]::Zz 246 10 EnX.cs lv xs::Yh (xs.map ZcP)::R)) xs.length
  ⟨0,Nat.zero_le _,rfl,rfl,h1.own_nil 83 3 Key.cs⟩ ?_
 rintro q t3 _ w g ⟨j,hj,rfl,rfl,h2⟩ hg;refine Za7 (λc=>Zi ?_)<|λc=>Zf ?_
 .obtain ⟨x,hx⟩:=Zk (l:=xs) (j:=j) (by omega);refine Qix h2 2 rfl hx λa ha=>Ym h2 2 rfl ha rfl<|Yp (cs:=EnX.zero.cs) h2 rfl λb w3 h3=>Zq h3 0 rfl (vs:=x.cs) rfl rfl (by simp[EnX.zero,EnX.cs]) (EnX.flat<|ZlV 4 h3 rfl<|List.mem_of_getElem? hx) (cs':=x.cs) (by rfl) λw4 h4=>?_;refine Za<|Za<|Zo h4 0 (vs:=x.m.key.cs) rfl (by rfl) rfl ?_;refine Zj7 Z12 (f:=Key.cs) (λ_=>rfl) (λ_=>Zg _) h4.swap (x:=x.m.key) rfl (by rw[List.length_map,List.length_take];omega) λv' w5 h5=>?_;refine Qincs<|hg _ _ _ _ (by omega) ⟨j+1,by omega,rfl,rfl,?_⟩;rw[Zx hx,List.map_append];exact h5.sn 2 [0]
 .have ej:j=xs.length:=by omega
  rw[ej,List.take_length] at h2;have hke:xs.map (λx=>x.m.key)=l.map λx=>x.m.key:=by rw[<-hp.1,List.map_map];rfl
  rw[hke] at h2;exact hk _ _<|Sat.swap<|Zh1 (lv:=lv) hp<|h2.sn 4 [1,2,3,0]
theorem Zw8 {v:Value} {l:List Msg} (i:Nat) (hi:L[i]?=some S) (hl:l.length<=1000000) (hS:Sat e w L) (hr:∀g,S g->rdS 6 Msg.cs v l g)
  (hk:∀v' w',Sat e w' (Zz 85 6 Msg.cs v' l::L)->K v' w'):Cl prog 246 #[v] w K:=by
 have hback:∀{X:HP} {w'},Sat e w' (X::S::L.eraseIdx i)->Sat e w' (X::L):=λh=>h.perm<|List.Perm.cons _ (ZfR L i S hi).symm;have h0:=hS.pick i hi;refine ZaE ?_;unfold Zaw;obtain ⟨A,c,rfl,_⟩:=h0.shape 0 rfl hr;cases A with
 | none=>
  refine Yn (w':=w) (v:=Bt) (by kernel_rfl) ?_;have hnil:l=[]:=by
   obtain ⟨g,hg,_⟩:=h0.get 0 rfl;obtain ⟨A',c',h1,h2,h3⟩:=hr g hg;injection h1 with e1 e2 e3;by_cases h0:0<l.length
   .obtain ⟨a,ha,_⟩:=h3 h0;rw[<-e1] at ha;cases ha
   .exact List.length_eq_zero_iff.1 (by omega)
  subst hnil;exact Zi (hk _ _<|hback<|h0.own_nil 85 6 Msg.cs)
 | some a=>
  refine Yn (w':=w) (v:=Bf) (by kernel_rfl) ?_;refine Zf<|Zw3 h0 Msg.cs λv1 w2 h2=>Zeo ZYs ZYP (f:=Msg.cs) (λ_=>rfl) (λ_=>Zg _) h2 hr (by simp;omega) λv2 w3 h3=>?_;rw[List.nil_append] at h3;exact hk _ _<|hback h3
theorem Znb {x:EnX} (i:Nat) (hi:L[i]?=some S) (hl:x.outs.length<=1000000) (hS:Sat e w L) (hr:∀g,S g->rdS 6 Msg.cs x.ov x.outs g)
  (hk:∀v' w',Sat e w' (ZcP ⟨x.m,x.ahead,x.sent,x.st,v',x.outs⟩::L)->K (.agg (EnX.cs ⟨x.m,x.ahead,x.sent,x.st,v',x.outs⟩).toArray) w'):Cl prog 313 #[.agg x.cs.toArray] w K:=by
 refine ZmW ?_;unfold ZrL;refine Yp (cs:=x.cs) hS rfl λb w1 h1=>?_;rw[Zxk];refine Yp (cs:=EnX.zero.cs) h1 rfl λb2 w2 h2=>Za<|Zb h2 1 rfl (v:=x.ov) rfl<|Zw8 (i+2) hi hl h2 hr λv' w3 h3=>?_;have q1:=h3.own_cells 0 rfl;refine Za<|Zq h3 2 rfl (vs:=[v']) q1.1 rfl (Nat.le_of_ble_eq_true rfl) (λc hc=>by rw[List.mem_singleton.1 hc];exact q1.2) (cs':=(EnX.cs ⟨x.m,x.ahead,x.sent,x.st,v',x.outs⟩)) (by rfl) λw4 h4=>?_;refine Zo h4 2 (vs:=(EnX.cs ⟨x.m,x.ahead,x.sent,x.st,v',x.outs⟩)) rfl (by rfl) rfl ?_;refine Zq h4 1 rfl (vs:=(EnX.cs ⟨x.m,x.ahead,x.sent,x.st,v',x.outs⟩)) rfl rfl (by simp[EnX.zero,EnX.cs]) (EnX.flat q1.2) (cs':=(EnX.cs ⟨x.m,x.ahead,x.sent,x.st,v',x.outs⟩)) (by rfl) λw5 h5=>?_;refine Zo h5 1 (vs:=(EnX.cs ⟨x.m,x.ahead,x.sent,x.st,v',x.outs⟩)) rfl (by rfl) rfl ?_;exact hk _ _<|h5.sn 3 [0]
theorem ZqS {p:Nat} {fl:Int} {l:List En} (hS:Sat e w<|Yf p fl l::R)
  (h0:l=[]->∀w',Sat e w' (Yf p fl l::R)->K (.tuple #[.agg EnX.zero.cs.toArray,Bf]) w')
  (h1:∀(x:EnX) (l':List En),l=l'++[x.e]->∀w',Sat e w' (ZcP x::Yf p fl l::R)->K (.tuple #[.agg x.cs.toArray,Bt]) w'):Cl prog 311 #[pt p] w K:=by
 refine Zgz ?_;unfold Zhi;obtain ⟨lv,xs,hp,h2⟩:=Zfr hS;have hxl:xs.length<=64:=by have:=hp.2.len;rw[<-hp.1,List.length_map] at this;exact this
 rw[Zxk];refine Yp (cs:=EnX.zero.cs) h2 rfl λt2 w3 h3=>Zh<|Za<|Zb h3 1 rfl (v:=lv) rfl<|Qln h3 2 rfl<|ZoR (λc=>Zi ?_)<|λc=>Zf ?_
 .have hx0:xs=[]:=List.length_eq_zero_iff.1 (by omega);refine Zaf EnX.zero.cs (by kernel_rfl) ?_;refine Zq h3 0 rfl (vs:=EnX.zero.cs) rfl rfl (by simp[EnX.zero,EnX.cs]) (EnX.flat rfl) (cs':=EnX.zero.cs) (by kernel_rfl) λw4 h4=>?_;refine Zo h4 0 (vs:=EnX.zero.cs) rfl (by rfl) rfl ?_;exact h0 (by rw[<-hp.1,hx0];rfl) _<|Zh1 hp h4.drop
 .refine ZaY h3 λw4 h4=>Zh<|Za<|Zb h4 1 rfl (v:=lv) rfl<|Zh<|Za<|Zb h4 1 rfl (v:=lv) rfl<|Qln h4 2 rfl<|Qsubs ?_;rw[show (xs.length:Int) - 1=((xs.length - 1:Nat):Int) from by omega];obtain ⟨x,hx⟩:=Zk (l:=xs) (j:=xs.length - 1) (by omega);have hxm:=List.mem_of_getElem? hx;have hout:x.outs.length<=1000:=hp.2.outs x.e (by rw[<-hp.1];exact List.mem_map_of_mem hxm);refine Qix h4 2 rfl hx λa ha=>Ym h4 2 rfl ha rfl<|Znb (x:=x) 3 rfl (by omega) h4 (λg hg=>?_) λv' w5 h5=>?_
  .obtain ⟨j,hj⟩:=List.getElem?_of_mem hxm;obtain ⟨hs,k1,k2⟩:=ZcB.get (S:=ZcP x) (l:=xs.map ZcP) hg (i:=j) (by rw[List.getElem?_map,hj];rfl);obtain ⟨A,c,q1,q2,q3⟩:=Zp k1;exact ⟨A,c,q1,q2,λh0=>by obtain ⟨a,h4,h5⟩:=q3 h0;exact ⟨a,h4,h5.up k2⟩⟩
  have q1:=h5.own_cells 0 rfl;refine Zq h5 1 rfl (vs:=(EnX.cs ⟨x.m,x.ahead,x.sent,x.st,v',x.outs⟩)) rfl rfl (by simp[EnX.zero,EnX.cs]) (EnX.flat q1.2) (cs':=(EnX.cs ⟨x.m,x.ahead,x.sent,x.st,v',x.outs⟩)) (by rfl) λw6 h6=>?_;refine Zo h6 1 (vs:=(EnX.cs ⟨x.m,x.ahead,x.sent,x.st,v',x.outs⟩)) rfl (by rfl) rfl ?_;have hsp:xs=xs.take (xs.length - 1)++[x]:=by
   conv=>lhs;rw[<-List.take_append_drop (xs.length - 1) xs,Zaq hx,List.drop_of_length_le (by omega)]
  refine h1 ⟨x.m,x.ahead,x.sent,x.st,v',x.outs⟩ ((xs.take<|xs.length - 1).map EnX.e) ?_ _ ?_
  .rw[<-hp.1]
   conv=>lhs;rw[hsp,List.map_append]
   rfl
  .have h7:=Zh1 hp<|h6.sn 5 [2,3,4,0];exact h7.swap
theorem Zws {n:Nat} {fv:Value} {f:Nat->Bool} (hn:n<=1000000) (hmono:∀i j,i<=j->j<n->f i=true->f j=true) (hS:Sat e w L)
  (hp:∀j,j<n->∀(w:World) (K:KV),Sat e w L->(∀w',Sat e w' L->K (.bool<|f j) w')->clV prog fv #[Iw (j:Int)] w K)
  (hk:∀(m:Nat) w',m<=n->(∀j,j<m->f j=false)->(∀j,m<=j->j<n->f j=true)->Sat e w' L->K (Iw (m:Int)) w'):Cl prog 212 #[Iw (n:Int),fv] w K:=by
 refine Zj9 ?_;refine ZjF (λq t5 t6 w=>∃lo hi:Nat,t5=Iw lo/\t6=Iw hi/\q=hi - lo/\lo<=hi/\hi<=n/\(∀j,j<lo->f j=false)/\(∀j,hi<=j->j<n->f j=true)/\Sat e w L) n
  ⟨0,n,rfl,rfl,by omega,Nat.zero_le _,Nat.le_refl _,λ_ h=>absurd h (by omega),λ_ h1 h2=>absurd h2 (by omega),hS⟩ ?_
 rintro q _ _ w g ⟨lo,hi,rfl,rfl,rfl,h1,h2,h3,h4,h5⟩ hg;refine Za7 (λc=>Zi ?_)<|λc=>Zf ?_
 .refine Qaddns<|Zqe (xo:=λ_=>_) (yo:=λ_=>_) (n:=lo+hi) (by omega) ?_;have hm1:lo<=(lo+hi) / 2:=by omega
  have hm2:(lo+hi) / 2<hi:=by omega
  generalize (lo+hi) / 2=m at hm1 hm2;refine hp m (by omega) _ _ h5 λw6 h6=>?_;cases hf:f m with
  | false=>
   refine Zch<|Zi<|Qincs<|hg _ _ _ _ (by omega) ⟨m+1,hi,rfl,rfl,rfl,by omega,h2,λj hj=>?_,h4,h6⟩;cases hfj:f j with
   | false=>rfl
   | true=>
    have:=hmono j m (by omega) (by omega) hfj;rw[hf] at this;cases this
  | true=>
   exact ZaJ<|Zf<|hg _ _ _ _ (by omega) ⟨lo,m,rfl,rfl,rfl,by omega,by omega,h3,λj hj1 hj2=>hmono m j hj1 hj2 hf,h6⟩
 .have e1:lo=hi:=by omega
  subst e1;exact hk lo _ h2 h3 h4 h5
theorem Zyc {p:Nat} {fl:Int} {lv:Value} {xs:List EnX} {k:Key} {by':Value} {P:EnX->Bool} (hx:xs.length<=64) (hby:flat by'=true/\by'.cells.toList=[by'])
  (hmono:∀(i j:Nat) x y,i<=j->xs[i]?=some x->xs[j]?=some y->P y=true->P x=true)
  (hP:∀(x:EnX) (w:World) (L:List HP) (K:KV),Sat e w L->(∀w',Sat e w' L->K (.bool<|P x) w')->clV prog by' #[.agg x.cs.toArray,.agg k.cs.toArray] w K)
  (hS:Sat e w<|blk p 224 [Iw fl,lv]::Zz 246 10 EnX.cs lv xs::Q)
  (hk:∀(m:Nat) w',m<=xs.length->(∀x∈xs.take m,P x=true)->(∀x∈xs.drop m,P x=false)->Sat e w' (blk p 224 [Iw fl,lv]::Zz 246 10 EnX.cs lv xs::Q)->K (Iw (m:Int)) w') :
  Cl prog 193 #[pt p,by',.agg k.cs.toArray] w K:=by
 refine Zgw ?_;unfold ZgW;refine Yp (cs:=[pt p]) hS rfl λb3 w1 h1=>Yp (cs:=[by']) h1 hby.2 λb4 w2 h2=>Yp (cs:=k.cs) h2 rfl λb5 w3 h3=>Zb h3 2 rfl rfl<|Zh<|Za<|Zb h3 3 rfl (v:=lv) rfl<|Qln h3 4 rfl<|Zws (n:=xs.length) (f:=λj=>!(xs[j]?.map P).getD false) (by omega) (λi j hij hj hi=>?_) h3 (λj hj w K h4 hK=>?_)<|λm w4 hm hlo hhi h4=>?_
 .obtain ⟨y,hy⟩:=Zk (l:=xs) (j:=j) hj;obtain ⟨x,hx⟩:=Zk (l:=xs) (j:=i) (by omega);simp only[hy,hx,Option.map_some,Option.getD_some,Bool.not_eq_true'] at hi ⊢;cases hpy:P y with
  | false=>rfl
  | true=>rw[hmono i j x y hij hx hy hpy] at hi;cases hi
 .obtain ⟨y,hy⟩:=Zk (l:=xs) (j:=j) hj;refine ⟨_,_,_,rfl,Ze2 (t0:=Iw (j:Int)) (t1:=pt b4) (t2:=pt b3) (t3:=pt b5) ?_⟩;unfold ZeN;refine ZaY h4 λw5 h5=>Zb h5 1 rfl rfl<|Zb h5 2 rfl rfl<|Zh<|Za<|Zb h5 3 rfl (v:=lv) rfl<|Qix h5 4 rfl hy λa ha=>Ym h5 4 rfl ha rfl<|Zo h5 0 (vs:=k.cs) rfl (by rfl) rfl ?_;refine hP y _ _ _ h5 λw6 h6=>?_;have hK':=hK _ h6;simp only[hy,Option.map_some,Option.getD_some] at hK';cases hpy:P y with
  | false=>rw[hpy] at hK';exact Zch hK'
  | true=>rw[hpy] at hK';exact ZaJ hK'
 .refine hk m _ hm (λx hx=>?_) (λx hx=>?_)<|h4.sn 5 [3,4]
  .obtain ⟨j,hj⟩:=List.getElem?_of_mem hx;have hjl:=(List.getElem?_eq_some_iff.1 hj).1;rw[List.length_take] at hjl;rw[List.getElem?_take,if_pos (by omega)] at hj;have:=hlo j (by omega);simp only[hj,Option.map_some,Option.getD_some,Bool.not_eq_false'] at this;exact this
  .obtain ⟨j,hj⟩:=List.getElem?_of_mem hx;have hjl:=(List.getElem?_eq_some_iff.1 hj).1;rw[List.length_drop] at hjl;rw[List.getElem?_drop] at hj;have:=hhi (m+j) (by omega) (by omega);simp only[hj,Option.map_some,Option.getD_some,Bool.not_eq_true'] at this;exact this
theorem Zsa (x:EnX) (k:Key) (hS:Sat e w L) (hk:∀w',Sat e w' L->K (.bool<|decide<|Zv x.m.key k) w'):clV prog (.func (.func 312) #[] #[]) #[.agg x.cs.toArray,.agg k.cs.toArray] w K:=by
 refine ⟨_,_,_,rfl,ZeX (t0:=.agg x.cs.toArray) (t1:=.agg k.cs.toArray) ?_⟩;unfold ZeH;refine Yp (cs:=x.cs) hS rfl λb w1 h1=>Yp (cs:=k.cs) h1 rfl λb2 w2 h2=>Za<|Za<|Zo h2 1 (vs:=x.m.key.cs) rfl (by rfl) rfl ?_;refine Zo h2 0 (vs:=k.cs) rfl (by rfl) rfl ?_;refine Zcr h2 λw3 h3=>ZwL ?_;have:=hk _ h3.drop.drop;rwa [show decide (Zv x.m.key k)=decide (ZeU x.m.key k<0) from by rw[Bool.eq_iff_iff,decide_eq_true_iff,decide_eq_true_iff,Zav]] at this
theorem Zwb (x:EnX) (k:Key) (hS:Sat e w L) (hk:∀w',Sat e w' L->K (.bool<|decide<|Zv x.m.key k) w'):Cl prog 312 #[.agg x.cs.toArray,.agg k.cs.toArray] w K:=by
 obtain ⟨_,_,_,h1,h2⟩:=Zsa x k hS hk;cases h1;exact h2
theorem ZwO (x:EnX) (k:Key) (hS:Sat e w L) (hk:∀w',Sat e w' L->K (.bool<|decide<|x.m.key.T<k.T) w'):clV prog (.func (.func 194) #[] #[]) #[.agg x.cs.toArray,.agg k.cs.toArray] w K:=by
 refine ⟨_,_,_,rfl,ZeW (t0:=.agg x.cs.toArray) (t1:=.agg k.cs.toArray) ?_⟩;unfold ZeL;exact Yp (cs:=x.cs) hS rfl λb w1 h1=>Yp (cs:=k.cs) h1 rfl λb2 w2 h2=>Za<|Za<|Za<|Zb h2 1 rfl (v:=Iw x.m.key.T) rfl<|Za<|Zb h2 0 rfl (v:=Iw k.T) rfl<|ZwL<|hk _ h2.drop.drop
def Zx4 (l:List En) (k:Key):Prop:=∀x,l.getLast?=some x->Zv x.m.key k
theorem Zri {p:Nat} {fl:Int} {l:List En} {x:EnX} (i:Nat) (hi:Q[i]?=some S) (hl:x.outs.length<=1000) (hr:∀g,S g->rdS 6 Msg.cs x.ov x.outs g) (h1:¬x.m.key.T<fl) (h2:Zx4 l x.m.key) (h3:l.length<64)
  (hS:Sat e w<|Yf p fl l::Q) (hk:∀w',Sat e w' (Yf p fl (l++[x.e])::Q)->K (Iw 0) w'):Cl prog 302 #[pt p,.agg x.cs.toArray] w K:=by
 refine Zgy ?_;unfold Zhj;rw[Zxk];refine Yp (cs:=x.cs) hS rfl λb w1 h4=>?_;have key:∀(q:Bool) (y:EnX) (w':World),flat y.ov=true->(q=true->Zv y.m.key x.m.key)->Sat e w' (Yf p fl l::blk b 246 x.cs::Q)->
   al EnX.zero.cs.toArray 246 w' λt5 w=>stN 10 t5 (.agg y.cs.toArray) w λ_ w=>dr w λw=>fld 0 (pt b) w λt13 _=>fld 0 t13 w λt14 _=>fld 0 t14 w λt15 _=>ld1 t15 w λt16 _=>
    ncP (pt p)<|fld 0 (pt p) w λt19 _=>ld1 t19 w λt20 _=>bi .lss .i64 t16 t20 w λt21 _=>Zr t21 (K (Iw 110) w)
     (gd (.bool q) true (λk=>ldN 10 t5 w k) w λt25 w=>gd (.bool q) true (λk=>fld 0 (pt b) w k) w λt26 w=>gd (.bool q) true (λk=>fld 0 t26 w k) w λt27 w=>gd (.bool q) true (λk=>ldN 3 t27 w k) w λt28 w=>
     gd (.bool q) true (λk=>Cl prog 312 #[t25,t28] w k) w λt29 w=>gd (.bool q) true (λk=>Zb3 t29 w k) w λt30 w=>pk (.bool q) t30 Bf w λt31 w=>Zr t31 (K (Iw 130) w)
     (ncP (pt p)<|fld 1 (pt p) w λt35 w=>ld1 t35 w λt36 w=>lnS t36 w λt37 w=>bi .geq .i64 t37 (Iw 64) w λt38 w=>Zr t38 (K (Iw 2) w)
     (dr w λw=>ncP (pt p)<|fld 1 (pt p) w λt42 _=>ld1 t42 w λt43 _=>ldN 10 (pt b) w λt44 _=>Cl prog 313 #[t44] w λt45 w=>
     (ld1 t42 w<|λv' w''=>v'=t43/\w''=w)/\(bsl 246 10 1 (Zl prog 246) [(0,t45)] w λt46 w=>(ld1 t42 w<|λv' w''=>v'=t43/\w''=w)/\(apS prog #[222,222] 222 t43 t46 w λt47 w=>
     ncP (pt p)<|fld 1 (pt p) w λt49 _=>stN 1 t49 t47 w λ_ w=>K (Iw 0) w))))):=by
  intro q y w' hyf hq h5;refine Yp (cs:=EnX.zero.cs) h5 rfl λt5 w2 h6=>Zq h6 0 rfl (vs:=y.cs) rfl rfl (by simp[EnX.zero,EnX.cs]) (EnX.flat hyf) (cs':=y.cs) (by rfl) λw3 h7=>?_;obtain ⟨lv,xs,hp,h8⟩:=Zfr (h7.pick 1 rfl)
  replace h8:Sat e w3 (blk p 224 [Iw fl,lv]::Zz 246 10 EnX.cs lv xs::Yh (xs.map ZcP)::blk t5 246 y.cs::blk b 246 x.cs::Q):=h8
  have hxl:xs.length=l.length:=by rw[<-hp.1,List.length_map]
  refine ZaY h8 λw4 h9=>Za<|Za<|Za<|Zb h9 4 rfl (v:=Iw x.m.key.T) rfl<|Zh<|Za<|Zb h9 0 rfl (v:=Iw fl) rfl<|Ze7 h1<|Zf ?_;have hrest:∀w',Sat e w' (blk p 224 [Iw fl,lv]::Zz 246 10 EnX.cs lv xs::Yh (xs.map ZcP)::blk t5 246 y.cs::blk b 246 x.cs::Q)->
    (ncP (pt p)<|fld 1 (pt p) w' λt35 w=>ld1 t35 w λt36 w=>lnS t36 w λt37 w=>bi .geq .i64 t37 (Iw 64) w λt38 w=>Zr t38 (K (Iw 2) w)
     (dr w λw=>ncP (pt p)<|fld 1 (pt p) w λt42 _=>ld1 t42 w λt43 _=>ldN 10 (pt b) w λt44 _=>Cl prog 313 #[t44] w λt45 w=>
     (ld1 t42 w<|λv' w''=>v'=t43/\w''=w)/\(bsl 246 10 1 (Zl prog 246) [(0,t45)] w λt46 w=>(ld1 t42 w<|λv' w''=>v'=t43/\w''=w)/\(apS prog #[222,222] 222 t43 t46 w λt47 w=>
     ncP (pt p)<|fld 1 (pt p) w λt49 _=>stN 1 t49 t47 w λ_ w=>K (Iw 0) w)))):=by
   intro w' ha;refine Zh<|Za<|Zb ha 0 rfl (v:=lv) rfl<|Qln ha 1 rfl<|Qgef<|Zf<|ZaY ha λw5 hb=>Zh<|Za<|Zb hb 0 rfl (v:=lv) rfl<|Zo hb 4 (vs:=x.cs) rfl (by rfl) rfl ?_;refine Znb (x:=x) (i+5) hi (by omega) hb hr λv' w6 hc=>?_;refine ⟨Zb hc 1 rfl (v:=lv) rfl ⟨rfl,rfl⟩,?_⟩;have q0:=hc.own_cells 0 rfl;obtain ⟨x2,hx2⟩:∃x2:EnX,x2=⟨x.m,x.ahead,x.sent,x.st,v',x.outs⟩:=⟨_,rfl⟩;rw[<-hx2] at hc ⊢;have hx2f:flat x2.ov=true:=by rw[hx2];exact q0.2
   refine ZwC (vs:=x2.cs) rfl rfl hc λbb w7 hd=>⟨Zb hd 2 rfl (v:=lv) rfl ⟨rfl,rfl⟩,Zcs Z00 Z00.und (f:=EnX.cs) (m:=[x2]) (λ_=>rfl) (λy hy c hc=>by rw[List.mem_singleton.1 hy] at hc;exact EnX.flat hx2f c hc) (hd.sn 4 [3,0,1,2]) (Zfu (f:=EnX.cs) (x:=x2)<|Nat.le_refl _) (by simp;omega) λlv' w8 he=>?_⟩;have q1:=he.own_cells 0 rfl;refine Zh (Za<|Zq he 3 rfl (vs:=[lv']) q1.1 rfl (Nat.le_of_ble_eq_true rfl) (λc hc=>by rw[List.mem_singleton.1 hc];exact q1.2) (cs':=[Iw fl,lv']) (by rfl) λw9 hf'=>?_)
   replace hf':Sat e w9 (Zz 246 10 EnX.cs lv' (xs++[x2])::blk bb 246 x2.cs::ZcP x2::blk p 224 [Iw fl,lv']::Yh (xs.map ZcP)::blk t5 246 y.cs::blk b 246 x.cs::Q):=hf'
   have hg2:Sat e w9 (Yh (xs.map ZcP)::Yh [ZcP x2]::Zz 246 10 EnX.cs lv' (xs++[x2])::blk p 224 [Iw fl,lv']::Q):=by
    have h1:=hf'.sn 7 [2,4,0,3];exact (Sat.join (l':=[_]) h1).swap
   have hh:=ZtR hg2;rw[show xs.map ZcP++[ZcP x2]=(xs++[x2]).map ZcP from by rw[List.map_append];rfl] at hh;refine hk _<|Zh1 (lv:=lv') (xs:=xs++[x2]) ⟨?_,?_⟩<|hh.sn 3 [2,1,0]
   .rw[List.map_append,hp.1,hx2];rfl
   .refine ⟨?_,by rw[List.length_append,List.length_singleton];omega,λz hz=>?_⟩
    .rw[List.pairwise_append];refine ⟨hp.2.up,List.pairwise_singleton _ _,λa ha b hb=>?_⟩;rw[List.mem_singleton.1 hb];cases hla:l.getLast? with
     | none=>rw[List.getLast?_eq_none_iff] at hla;subst hla;cases ha
     | some z=>
      have hz:=h2 z hla;obtain ⟨l0,rfl⟩:=List.getLast?_eq_some_iff.1 hla;rcases List.mem_append.1 ha with ha | ha
      .exact ((List.pairwise_append.1 hp.2.up).2.2 a ha z<|by simp).trans hz
      .rw[List.mem_singleton.1 ha];exact hz
    .rcases List.mem_append.1 hz with hz | hz
     .exact hp.2.outs z hz
     .rw[List.mem_singleton.1 hz];exact hl
  cases q with
  | false=>
   exact Zu (Zu<|Zu<|Zu<|Zu<|Zu<|Yd<|Zf<|hrest _ h9)
  | true=>
   refine Ze<|Zo h9 3 (vs:=y.cs) rfl (by rfl) rfl<|Ze<|Za<|Ze<|Za<|Ze<|Zo h9 4 (vs:=x.m.key.cs) rfl (by rfl) rfl<|Ze<|Zwb y x.m.key h9 λw5 h10=>?_;rw[decide_eq_true<|hq rfl];exact Ze<|ZaJ<|Yv<|Zf<|hrest _ h10
 refine ZqS h4.swap (λh0 w2 h5=>?_)<|λy l' hl' w2 h5=>?_
 .exact Zam<|Zal<|key false EnX.zero w2 rfl (λh=>by cases h) h5
 .refine Zam<|Zal ?_;have q1:=h5.own_cells 0 rfl;refine key true y w2 q1.2 (λ_=>?_) h5.drop;exact h2 y.e (by rw[hl'];simp)
def Yo (g:Nat) (fl:Int) (l:List Yz):HP:=hex λv:Value=>Yh [blk g 227 [Iw fl,v],Zz 280 9 Yz.cs v l]
theorem Zd9 (hS:Sat e w R) (hk:∀g w',Sat e w' (Yo g 0 []::R)->K (pt g) w'):Cl prog 77 #[] w K:=by
 refine ZmT ?_;unfold Zsc;rw[ZN8];exact ⟨_,rfl,Yp (cs:=[Iw 0,Sn]) hS rfl λb w1 h1=>hk _ _ (.mk_ex Sn (.join (l':=[_,_]) (h1.own_nil 280 9 Yz.cs).swap))⟩
def Zw9 (fl:Int) (l:List Yz) (c:Key):Int:=if c.T<fl then 110 else if 256<=l.length then 2 else 0
def ZsN (fl:Int) (l:List Yz) (c:Key) (m:Msg):List Yz:=if c.T<fl then l else if 256<=l.length then l else l++[⟨c,m⟩]
theorem Zrq {g:Nat} {fl:Int} {l:List Yz} (c:Key) (m:Msg) (hS:Sat e w<|Yo g fl l::R) (hl:l.length<=256)
  (hk:∀w',Sat e w' (Yo g fl (ZsN fl l c m)::R)->K (Iw<|Zw9 fl l c) w'):Cl prog 304 #[pt g,.agg c.cs.toArray,.agg m.cs.toArray] w K:=by
 obtain ⟨v,h0⟩:=hS.ex;have h1:=h0.split;refine ZgC ?_;unfold ZgT;refine Yp (cs:=c.cs) h1 rfl λb4 w1 h2=>Yp (cs:=m.cs) h2 rfl λb5 w2 h3=>ZaY h3 λw3 h4=>Za<|Zb h4 1 rfl rfl<|Zh<|Za<|Zb h4 2 rfl rfl<|Za7 (λc1=>?_)<|λc1=>?_
 .refine Zi ?_;have:=hk w3;simp only[Zw9,ZsN,if_pos c1] at this;exact this (.mk_ex v (.join (l':=[_,_]) h4.drop.drop))
 .refine Zf<|Zh<|Za<|Zb h4 2 rfl rfl<|Qln h4 3 rfl<|Zu5 (λc2=>?_)<|λc2=>?_
  .refine Zi ?_;have:=hk w3;have c3:256<=l.length:=by omega
   simp only[Zw9,ZsN,if_neg c1,if_pos c3] at this;exact this (.mk_ex v (.join (l':=[_,_]) h4.drop.drop))
  .refine Zf<|ZaY h4 λw4 h5=>Zh<|Za<|Zb h5 2 rfl rfl<|Zo h5 1 (vs:=c.cs) rfl (by rfl) rfl ?_;refine Zo h5 0 (vs:=m.cs) rfl (by rfl) rfl ?_;rw[ZZw];refine Zaf (Yz.cs ⟨c,m⟩) (by kernel_rfl) ?_;refine ⟨Zb h5 2 rfl rfl ⟨rfl,rfl⟩,ZwC (vs:=Yz.cs ⟨c,m⟩) rfl rfl h5 λb30 w5 h6=>⟨Zb h6 3 rfl rfl ⟨rfl,rfl⟩,?_⟩⟩;have hb:(l.length+[(⟨c,m⟩:Yz)].length)*72<=140737488355328:=by
    simp only[List.length_cons,List.length_nil];omega
   have h6':=h6.pick 4 rfl;refine Zeo Z0S Z01 (f:=Yz.cs) (λ_=>rfl) (λ_=>Zg _) h6' (m:=[⟨c,m⟩]) (Zfu (f:=Yz.cs) (x:=⟨c,m⟩)<|Nat.le_refl _) hb λv' w6 h7=>Zh<|Za<|Zpm h7 4 rfl (h7.own_cells 0 rfl) (by simp) rfl λw7 h8=>?_;have:=hk w7;have c3:¬256<=l.length:=by omega
   simp only[Zw9,ZsN,if_neg c1,if_neg c3] at this;exact this (.mk_ex v' (.join (l':=[_,_])<|h8.sn 5 [4,0]))
theorem ZjM {v:Value} {l:List Yz} {S:HP} (hS:Sat e w<|S::R) (hr:∀g,S g->rdS 9 Yz.cs v l g) (hl:l.length<=1000000)
  (hk:∀v' w',Sat e w' (Zz 85 6 Msg.cs v' (l.map Yz.m)::S::R)->K v' w'):Cl prog 201 #[v] w K:=by
 refine Zhx ?_;unfold Zjn;rw[ZZw];refine Zt hS 0 rfl hr ?_;refine lp2 (λt3 t8 w=>∃j:Nat,j<=l.length/\t8=Iw j/\Sat e w (Zz 85 6 Msg.cs t3 ((l.take j).map Yz.m)::S::R)) (λ_ t8 _=>l.length - nOf t8)
  ⟨0,Nat.zero_le _,rfl,by simpa using hS.own_nil 85 6 Msg.cs⟩ ?_
 rintro t3 _ w g ⟨j,hj,rfl,h1⟩ hg;refine Za7 (λc=>?_)<|λc=>?_
 .refine Zi ?_;obtain ⟨x,hx⟩:=Zk (l:=l) (j:=j) (by omega);refine Zw h1 1 rfl hr (λ_=>rfl) hx λa ha=>Ym h1 1 rfl ha rfl<|Yp (cs:=Yi [0,0,0,0,0,0,0,0,0]) h1 rfl λb5 w2 h2=>Zq h2 0 rfl (vs:=x.cs) rfl rfl (by simp[Yi]) (Zg _) (cs':=x.cs) (by kernel_rfl) λw3 h3=>?_;refine Za<|Zo h3 0 (vs:=x.m.cs) rfl (by rfl) rfl ?_;refine Zj7 ZYs (f:=Msg.cs) (λ_=>rfl) (λ_=>Zg _) (h3.pick 1 rfl) (x:=x.m) rfl (by simp;omega) λv' w4 h4=>?_;refine Qincs<|hg _ _ _ ⟨j+1,by omega,rfl,?_⟩ (by simp[nOf];omega);have h5:=h4.sn 3 [0,2];rw[Zx hx,List.map_append];exact h5
 .refine Zf ?_;obtain rfl:j=l.length:=by omega
  refine hk _ _ ?_
  simpa using h1
theorem Zrw {g:Nat} {fl:Int} {l:List Yz} (hS:Sat e w<|Yo g fl l::R) (hl:l.length<=1000000)
  (hk:∀v' w',Sat e w' (Zz 85 6 Msg.cs v' (l.map Yz.m)::Yo g fl l::R)->K v' w'):Cl prog 301 #[pt g] w K:=by
 obtain ⟨v,h0⟩:=hS.ex;have h1:=h0.split;refine ZgK<|Zh<|Za<|Zb h1 0 rfl rfl<|ZjM h1.swap (λ_=>Zp) hl λv' w' h2=>hk _ _<|Sat.swap (.mk_ex v (.join (l':=[_,_])<|h2.sn 3 [2,1,0]))
theorem Zmp {g:Nat} {fl:Int} {l:List Yz} {C:HP} {fv:Value} (p:Yz->Bool) (hS:Sat e w<|Yo g fl l::C::R) (hl:l.length<=1000000)
  (hp:∀(w:World) (R:List HP) (K:KV) (x:Yz),Sat e w (C::R)->(∀w',Sat e w' (C::R)->K (.bool<|p x) w')->clV prog fv #[.agg x.cs.toArray] w K)
  (hk:∀v' w',Sat e w' (Zz 280 9 Yz.cs v' (l.filter p)::Yo g fl (l.filter<|λx=>!p x)::C::R)->K v' w') :
  Cl prog 196 #[pt g,fv] w K:=by
 obtain ⟨v,h0⟩:=hS.ex;have h1:=h0.split;refine Zgx ?_;unfold ZgV;rw[ZZw];refine Zh<|Za<|Zb h1 0 rfl rfl<|Qln h1 1 rfl ?_;refine lp3 (λt5 t6 t14 w=>∃j:Nat,j<=l.length/\t14=Iw j/\Sat e w (Zz 280 9 Yz.cs t5 ((l.take j).filter p)::Zz 280 9 Yz.cs t6 ((l.take j).filter λx=>!p x)::
   blk g 227 [Iw fl,v]::Zz 280 9 Yz.cs v l::C::R)) (λ_ _ t14 _=>l.length - nOf t14)
  ⟨0,Nat.zero_le _,rfl,by simpa using (h1.own_nil 280 9 Yz.cs).own_nil 280 9 Yz.cs⟩ ?_
 rintro t5 t6 _ w gg ⟨j,hj,rfl,h1⟩ hg;refine Za7 (λc=>?_)<|λc=>?_
 .refine Zi ?_;obtain ⟨x,hx⟩:=Zk (l:=l) (j:=j) (by omega);have hf1:((l.take<|j+1).filter p)=(l.take j).filter p++if p x then [x] else []:=by
   rw[Zx hx,List.filter_append];cases hpx:p x <;> simp[hpx]
  have hf2:((l.take<|j+1).filter λx=>!p x)=(l.take j).filter (λx=>!p x)++if p x then [] else [x]:=by
   rw[Zx hx,List.filter_append];cases hpx:p x <;> simp[hpx]
  have hn1:=List.length_filter_le p<|l.take j;have hn2:=List.length_filter_le (λx=>!p x)<|l.take j;have hn3:(l.take j).length<=1000000:=by simp;omega
  refine J2.cut (λt5 t6 w=>Sat e w<|Zz 280 9 Yz.cs t5 ((l.take<|j+1).filter p)::Zz 280 9 Yz.cs t6 ((l.take<|j+1).filter λx=>!p x)::
   blk g 227 [Iw fl,v]::Zz 280 9 Yz.cs v l::C::R) (λk hkk=>?_)<|λt5 t6 w h2=>?_
  .refine Qix h1 3 rfl hx λa ha=>Ym h1 3 rfl ha rfl<|Yp (cs:=Yi [0,0,0,0,0,0,0,0,0]) h1 rfl λb8 w2 h2=>Zq h2 0 rfl (vs:=x.cs) rfl rfl (by simp[Yi]) (Zg _) (cs':=x.cs) (by kernel_rfl) λw3 h3=>?_;refine Zo h3 0 (vs:=x.cs) rfl (by rfl) rfl ?_;refine hp _ _ _ x (h3.pick 5 rfl) λw4 h4=>?_;have h5:=h4.sn 6 [1,2,3,4,5,0];cases hpx:p x with
   | true=>
    refine Zi<|Zo h5 0 (vs:=x.cs) rfl (by rfl) rfl ?_;refine Zj7 Z0S (f:=Yz.cs) (λ_=>rfl) (λ_=>Zg _) (h5.pick 1 rfl) (x:=x) rfl (by omega) λv' w5 h6=>?_;refine hkk _ _ _ ?_;rw[hf1,hf2];simp only[hpx,if_true,List.append_nil];exact h6.sn 6 [0,2,3,4,5]
   | false=>
    refine Zf<|Zo h5 0 (vs:=x.cs) rfl (by rfl) rfl ?_;refine Zj7 Z0S (f:=Yz.cs) (λ_=>rfl) (λ_=>Zg _) (h5.pick 2 rfl) (x:=x) rfl (by omega) λv' w5 h6=>?_;refine hkk _ _ _ ?_;rw[hf1,hf2];simp only[hpx,Bool.false_eq_true,if_false,List.append_nil];exact h6.sn 6 [2,0,3,4,5]
  .exact Qincs<|hg _ _ _ _ ⟨j+1,by omega,rfl,h2⟩ (by simp[nOf];omega)
 .refine Zf ?_;obtain rfl:j=l.length:=by omega
  rw[List.take_length] at h1;refine Zh<|Za<|Zpm h1 2 rfl (h1.own_cells 1 rfl) (by simp) rfl λw2 h2=>?_;refine hk _ _<|Sat.swap (.mk_ex t6 (.join (l':=[_,_])<|h2.sn 5 [2,1,0,4]))
end Go.Proofs.YtceipnkeijhebaaGreat
end
section
namespace Go.E
section
variable {α:Type} (lt:α->α->Bool)
def mg:List α->List α->List α
 | [],r=>r
 | x::l,[]=>x::l
 | x::l,y::r=>if lt y x=true then y::mg (x::l) r else x::mg l (y::r)
termination_by l r=>l.length+r.length
def ZeY:List α->List α
 | []=>[]
 | x::l=>mg lt [x]<|ZeY l
structure Zbr:Prop where
 asymm:∀a b,lt a b=true->lt b a=false
 trans:∀a b c,lt b a=false->lt c b=false->lt c a=false
variable {lt}
def Asc (lt:α->α->Bool) (l:List α):Prop:=l.Pairwise λa b=>lt b a=false
theorem ZcI (r:List α):mg lt [] r=r:=by rw[mg]
theorem ZbO (l:List α):mg lt l []=l:=by cases l <;> rw[mg]
theorem Zhp {x y:α} {l r:List α} (h:lt y x=true):mg lt (x::l) (y::r)=y::mg lt (x::l) r:=by rw[mg,if_pos h]
theorem ZiN {x y:α} {l r:List α} (h:lt y x=false):mg lt (x::l) (y::r)=x::mg lt l (y::r):=by rw[mg,if_neg (by rw[h];decide)]
theorem ZiA (L2 R2:List α):∀(n:Nat) (L1 R1:List α),L1.length+R1.length=n->(∀x∈L2,∀y∈R1,lt y x=true)->(∀x∈L1,∀y∈R2,lt y x=false)->
  mg lt (L1++L2) (R1++R2)=mg lt L1 R1++mg lt L2 R2
 | _,[],[],_,_,_=>by rw[ZcI];rfl
 | n,[],y::R1,hn,h1,h2=>by
  cases L2 with
  | nil=>simp only[List.append_nil,ZcI]
  | cons x L2=>
   have ih:=ZiA (x::L2) R2 R1.length [] R1 (by simp) (λa ha b hb=>h1 a ha b<|List.mem_cons_of_mem _ hb) (λ_ h=>by cases h);rw[List.nil_append] at ih ⊢;rw[List.cons_append,Zhp<|h1 x (List.mem_cons_self) y<|List.mem_cons_self,ih,ZcI,ZcI];rfl
 | n,x::L1,[],hn,h1,h2=>by
  cases R2 with
  | nil=>simp only[List.append_nil,ZbO]
  | cons y R2=>
   have ih:=ZiA L2 (y::R2) L1.length L1 [] (by simp) (λ_ _ _ h=>by cases h)<|λa ha=>h2 a<|List.mem_cons_of_mem _ ha;rw[List.nil_append] at ih ⊢;rw[List.cons_append,ZiN<|h2 x (List.mem_cons_self) y<|List.mem_cons_self,ih,ZbO,ZbO];rfl
 | n,x::L1,y::R1,hn,h1,h2=>by
  simp only[List.length_cons] at hn;cases h:lt y x with
  | true=>
   have ih:=ZiA L2 R2 (n - 1) (x::L1) R1 (by simp;omega) (λa ha b hb=>h1 a ha b<|List.mem_cons_of_mem _ hb) h2;rw[List.cons_append] at ih ⊢;rw[List.cons_append,Zhp h,ih,Zhp h];rfl
  | false=>
   have ih:=ZiA L2 R2 (n - 1) L1 (y::R1) (by simp;omega) h1<|λa ha=>h2 a<|List.mem_cons_of_mem _ ha;rw[List.cons_append] at ih ⊢;rw[List.cons_append,ZiN h,ih,ZiN h];rfl
theorem ZiE {L1 L2 R1 R2:List α} (h1:∀x∈L2,∀y∈R1,lt y x=true) (h2:∀x∈L1,∀y∈R2,lt y x=false):mg lt (L1++L2) (R1++R2)=mg lt L1 R1++mg lt L2 R2:=ZiA L2 R2 _ L1 R1 rfl h1 h2
theorem Zbr.lt_le (o:Zbr lt) {x y z:α} (h:lt x y=true) (k:lt z y=false):lt x z=true:=by
 cases hz:lt x z with
 | true=>rfl
 | false=>
  have:=o.trans y z x k hz;rw[h] at this;cases this
theorem Zbr.le_lt (o:Zbr lt) {x y z:α} (h:lt y x=false) (k:lt y z=true):lt x z=true:=by
 cases hz:lt x z with
 | true=>rfl
 | false=>
  have:=o.trans z x y hz h;rw[k] at this;cases this
theorem Zi4 (o:Zbr lt):∀(n:Nat) (A B C:List α),A.length+B.length+C.length=n->mg lt (mg lt A B) C=mg lt A (mg lt B C)
 | _,[],B,C,_=>by rw[ZcI,ZcI]
 | _,a::A,[],C,_=>by rw[ZcI,ZbO]
 | _,a::A,b::B,[],_=>by rw[ZbO,ZbO]
 | n,a::A,b::B,c::C,hn=>by
  simp only[List.length_cons] at hn;cases hba:lt b a with
  | true=>
   cases hcb:lt c b with
   | true=>
    have hca:lt c a=true:=o.lt_le hcb<|o.asymm _ _ hba;have ih:=Zi4 o (n - 1) (a::A) (b::B) C (by simp;omega);rw[Zhp hba] at ih ⊢;rw[Zhp hcb,Zhp hcb,Zhp hca,ih]
   | false=>
    have ih:=Zi4 o (n - 1) (a::A) B (c::C) (by simp;omega);rw[Zhp hba,ZiN hcb,ZiN hcb,Zhp hba,ih]
  | false=>
   cases hca:lt c a with
   | true=>
    have hcb:lt c b=true:=o.lt_le hca hba;have ih:=Zi4 o (n - 1) (a::A) (b::B) C (by simp;omega);rw[ZiN hba] at ih ⊢;rw[Zhp hcb,Zhp hca,Zhp hca,ih]
   | false=>
    have ih:=Zi4 o (n - 1) A (b::B) (c::C) (by simp;omega);rw[ZiN hba,ZiN hca,ih];cases hcb:lt c b with
    | true=>rw[Zhp hcb,ZiN hca]
    | false=>rw[ZiN hcb,ZiN hba]
theorem Zep (o:Zbr lt):∀A B:List α,ZeY lt (A++B)=mg lt (ZeY lt A) (ZeY lt B)
 | [],B=>by rw[List.nil_append,ZeY,ZcI]
 | x::A,B=>by
  rw[List.cons_append,ZeY,Zep o A B,ZeY,Zi4 o _ _ _ _ rfl]
theorem Zsy (x:α):ZeY lt [x]=[x]:=by rw[ZeY,ZeY,ZbO]
theorem ZmD:∀(n:Nat) (l r:List α),l.length+r.length=n->(mg lt l r).Perm (l++r)
 | _,[],r,_=>by rw[ZcI];exact .refl _
 | _,x::l,[],_=>by rw[ZbO,List.append_nil]
 | n,x::l,y::r,hn=>by
  simp only[List.length_cons] at hn;cases h:lt y x with
  | true=>
   rw[Zhp h];exact ((ZmD (n - 1) (x::l) r<|by simp;omega).cons y).trans List.perm_middle.symm
  | false=>
   rw[ZiN h];exact (ZmD (n - 1) l (y::r)<|by simp;omega).cons x
theorem ZxD {l r:List α} {x:α}:x∈mg lt l r↔x∈l\/x∈r:=by rw[(ZmD _ l r rfl).mem_iff,List.mem_append]
theorem Zjz (l r:List α):(mg lt l r).length=l.length+r.length:=by rw[(ZmD _ l r rfl).length_eq,List.length_append]
theorem ZoW:∀l:List α,(ZeY lt l).Perm l
 | []=>.refl _
 | x::l=>(ZmD _ [x] (ZeY lt l) rfl).trans<|(ZoW l).cons x
theorem Yw (l:List α):(ZeY lt l).length=l.length:=(ZoW l).length_eq
theorem ZtK (o:Zbr lt):∀(n:Nat) (l r:List α),l.length+r.length=n->Asc lt l->Asc lt r->Asc lt (mg lt l r)
 | _,[],r,_,_,hr=>by rw[ZcI];exact hr
 | _,x::l,[],_,hl,_=>by rw[ZbO];exact hl
 | n,x::l,y::r,hn,hl,hr=>by
  simp only[List.length_cons] at hn;obtain ⟨hl1,hl2⟩:=List.pairwise_cons.1 hl;obtain ⟨hr1,hr2⟩:=List.pairwise_cons.1 hr;cases h:lt y x with
  | true=>
   rw[Zhp h];refine List.pairwise_cons.2 ⟨λz hz=>?_,ZtK o (n - 1) (x::l) r (by simp;omega) hl hr2⟩;rcases ZxD.1 hz with hz | hz
   .rcases List.mem_cons.1 hz with rfl | hz
    .exact o.asymm _ _ h
    .exact o.trans _ _ _ (o.asymm _ _ h)<|hl1 z hz
   .exact hr1 z hz
  | false=>
   rw[ZiN h];refine List.pairwise_cons.2 ⟨λz hz=>?_,ZtK o (n - 1) l (y::r) (by simp;omega) hl2 hr⟩;rcases ZxD.1 hz with hz | hz
   .exact hl1 z hz
   .rcases List.mem_cons.1 hz with rfl | hz
    .exact h
    .exact o.trans _ _ _ h<|hr1 z hz
theorem Zf5 (o:Zbr lt):∀l:List α,Asc lt (ZeY lt l)
 | []=>List.Pairwise.nil
 | _::l=>ZtK o _ _ _ rfl (List.pairwise_singleton _ _)<|Zf5 o l
theorem Zo3 (o:Zbr lt) {l:List α} (h:Asc lt l) {i:Nat} {x y:α} (hy:l[i]?=some y) (hx:lt y x=true):∀z∈l.take (i+1),lt z x=true:=by
 intro z hz;obtain ⟨j,hj⟩:=List.mem_iff_getElem?.1 hz;rw[List.getElem?_take] at hj;split at hj
 .rename_i hji;by_cases hij:j=i
  .subst hij;rw[hy] at hj;cases hj;exact hx
  .have hlt:j<i:=by omega
   obtain ⟨hjl,hje⟩:=List.getElem?_eq_some_iff.1 hj;obtain ⟨hil,hie⟩:=List.getElem?_eq_some_iff.1 hy;have:=List.pairwise_iff_getElem.1 h j i hjl hil hlt;rw[hje,hie] at this;exact o.le_lt this hx
 .cases hj
theorem Zqm (o:Zbr lt) {l:List α} (h:Asc lt l) {i:Nat} {x y:α} (hy:l[i]?=some y) (hx:lt y x=false):∀z∈l.drop i,lt z x=false:=by
 intro z hz;obtain ⟨j,hj⟩:=List.mem_iff_getElem?.1 hz;rw[List.getElem?_drop] at hj;by_cases hij:j=0
 .subst hij;rw[Nat.add_zero,hy] at hj;cases hj;exact hx
 .obtain ⟨hjl,hje⟩:=List.getElem?_eq_some_iff.1 hj;obtain ⟨hil,hie⟩:=List.getElem?_eq_some_iff.1 hy;have:=List.pairwise_iff_getElem.1 h i (i+j) hil hjl (by omega);rw[hje,hie] at this;exact o.trans _ _ _ hx this
theorem Zov (o:Zbr lt) {l:List α} (h:Asc lt l) {i:Nat} {x y:α} (hy:l[i]?=some y) (hx:lt x y=false):∀z∈l.take (i+1),lt x z=false:=by
 intro z hz;obtain ⟨j,hj⟩:=List.mem_iff_getElem?.1 hz;rw[List.getElem?_take] at hj;split at hj
 .rename_i hji;by_cases hij:j=i
  .subst hij;rw[hy] at hj;cases hj;exact hx
  .have hlt:j<i:=by omega
   obtain ⟨hjl,hje⟩:=List.getElem?_eq_some_iff.1 hj;obtain ⟨hil,hie⟩:=List.getElem?_eq_some_iff.1 hy;have:=List.pairwise_iff_getElem.1 h j i hjl hil hlt;rw[hje,hie] at this;exact o.trans _ _ _ this hx
 .cases hj
theorem Zl6 (o:Zbr lt) {l:List α} (h:Asc lt l) {i:Nat} {x y:α} (hy:l[i]?=some y) (hx:lt x y=true):∀z∈l.drop i,lt x z=true:=by
 intro z hz;obtain ⟨j,hj⟩:=List.mem_iff_getElem?.1 hz;rw[List.getElem?_drop] at hj;by_cases hij:j=0
 .subst hij;rw[Nat.add_zero,hy] at hj;cases hj;exact hx
 .obtain ⟨hjl,hje⟩:=List.getElem?_eq_some_iff.1 hj;obtain ⟨hil,hie⟩:=List.getElem?_eq_some_iff.1 hy;have:=List.pairwise_iff_getElem.1 h i (i+j) hil hjl (by omega);rw[hje,hie] at this;exact o.lt_le hx this
theorem Asc.left {l r:List α} (h:Asc lt<|l++r):Asc lt l:=(List.pairwise_append.1 h).1
theorem Asc.right {l r:List α} (h:Asc lt<|l++r):Asc lt r:=(List.pairwise_append.1 h).2.1
theorem ZDt {x:α} {R1 R2:List α} (h1:∀y∈R1,lt y x=true) (h2:∀y∈R2,lt y x=false):mg lt [x] (R1++R2)=R1++x::R2:=by
 have:=ZiE (lt:=lt) (L1:=[]) (L2:=[x]) (R1:=R1) (R2:=R2) (λa ha y hy=>by rw[List.mem_singleton.1 ha];exact h1 y hy) (λ_ h=>by cases h);rw[List.nil_append,ZcI] at this;rw[this];congr 1;have:=ZiE (lt:=lt) (L1:=[x]) (L2:=[]) (R1:=[]) (R2:=R2) (λ_ h=>by cases h) (λa ha y hy=>by rw[List.mem_singleton.1 ha];exact h2 y hy);rw[List.append_nil,List.nil_append,ZcI,ZbO] at this;exact this
theorem ZnU {y:α} {L1 L2:List α} (h1:∀x∈L1,lt y x=false) (h2:∀x∈L2,lt y x=true):mg lt (L1++L2) [y]=L1++y::L2:=by
 have:=ZiE (lt:=lt) (L1:=L1) (L2:=L2) (R1:=[]) (R2:=[y]) (λ_ _ _ h=>by cases h) (λx hx z hz=>by rw[List.mem_singleton.1 hz];exact h1 x hx);rw[List.nil_append,ZbO] at this;rw[this];congr 1;have:=ZiE (lt:=lt) (L1:=[]) (L2:=L2) (R1:=[y]) (R2:=[]) (λx hx z hz=>by rw[List.mem_singleton.1 hz];exact h2 x hx) (λ_ h=>by cases h);rw[List.append_nil,List.nil_append,ZcI,ZbO] at this;exact this
end
end Go.E
end
section
namespace Go.Proofs.YtceipnkeijhebaaGreat
open Go Go.E
set_option maxRecDepth 100000
variable {e w:World} {R:List HP} {K:KV} {v fv:Value} {cf:Yz->Yz->Int}
abbrev DK (v:Value) (l:List Yz):HP:=Zz 280 9 Yz.cs v l
def Zvo (e:World) (fv:Value) (cf:Yz->Yz->Int):Prop:=
 ∀(w:World) (R:List HP) (K:KV) (x y:Yz),Sat e w R->(∀w',Sat e w' R->K (Iw<|cf x y) w')->clV prog fv #[.agg x.cs.toArray,.agg y.cs.toArray] w K
def ltC (cf:Yz->Yz->Int) (x y:Yz):Bool:=decide<|cf x y<0
theorem Zbb (x:Yz):(Yz.cs x).length=9:=rfl
theorem ZhM {P A M B S:List Yz} {a b n:Nat} (ha:a=P.length) (hb:b=P.length+A.length+M.length) (hn:n=A.length) (hAB:A.length=B.length) (hlen:(P++A++M++B++S).length<=1000000)
  (hS:Sat e w<|DK v (P++A++M++B++S)::R) (hk:∀w',Sat e w' (DK v (P++B++M++A++S)::R)->K (.tuple #[]) w') :
  Cl prog 222 #[v,Iw (a:Int),Iw (b:Int),Iw (n:Int),fv] w K:=by
 refine Zbw ?_;unfold ZaM;simp only[List.length_append] at hlen;refine Zdk (λm t10 w=>∃i:Nat,i<=n/\t10=Iw i/\m=n - i/\Sat e w (DK v (P++(B.take i++A.drop i)++M++(A.take i++B.drop i)++S)::R)) n
  ⟨0,Nat.zero_le _,rfl,rfl,by simpa using hS⟩ ?_
 rintro m _ w g ⟨i,hi,rfl,rfl,h1⟩ hg;refine Zpd (λc=>Zi ?_)<|λc=>Zf ?_
 .obtain ⟨x,hx⟩:=Zk (l:=A) (j:=i) (by omega);obtain ⟨y,hy⟩:=Zk (l:=B) (j:=i) (by omega);have hsh:P++(B.take i++A.drop i)++M++(A.take i++B.drop i)++S=(P++B.take i)++x::((A.drop (i+1)++M++A.take i)++y::(B.drop (i+1)++S)):=by
   rw[Zaq hx,Zaq hy];simp
  rw[hsh] at h1;have l1:a+i=(P++B.take i).length:=by rw[List.length_append,List.length_take];omega
  have l2:b+i=(P++B.take i).length+1+(A.drop (i+1)++M++A.take i).length:=by simp only[List.length_append,List.length_take,List.length_drop];omega
  refine ZaY h1 λw2 h2=>Qaddns (Qaddns<|Qaddns<|Zw h2 0 rfl (λ_=>Zp) Zbb (ZiK l2) λp hp=>Ym h2 0 rfl hp rfl<|Qaddns<|Zw h2 0 rfl (λ_=>Zp) Zbb (Zj2 l1) λp hp=>Ym h2 0 rfl hp rfl<|ZdJ h2 0 rfl Zbb (by rw[List.length_append,List.length_cons];omega) (x:=y) rfl (Zg _) λw3 h3=>ZdJ h3 0 rfl Zbb (by rw[List.length_set,l2];simp only[List.length_append,List.length_cons];omega) (x:=x) rfl (Zg _) λw4 h4=>?_)
  replace h4:Sat e w4 (DK v ((((P++B.take i)++x::((A.drop (i+1)++M++A.take i)++y::(B.drop (i+1)++S))).set (a+i) y).set (b+i) x)::R):=h4
  rw[Zsz l1 l2] at h4;refine Qincs<|hg _ _ _ (by omega) ⟨i+1,by omega,rfl,rfl,?_⟩;rw[Zx hx,Zx hy]
  simpa using h4
 .obtain rfl:i=n:=by omega
  subst hn;rw[List.take_of_length_le (by omega),List.drop_of_length_le (by omega),List.take_of_length_le (l:=A) (by omega),List.drop_of_length_le (l:=B) (by omega)] at h1;exact hk _ (by simpa using h1)
theorem Zv2 {P A B S:List Yz} {a m b:Nat} (ha:a=P.length) (hm:m=P.length+A.length) (hb:b=P.length+A.length+B.length) (hA:0<A.length) (hB:0<B.length) (hlen:(P++A++B++S).length<=1000000)
  (hS:Sat e w<|DK v (P++A++B++S)::R) (hk:∀w',Sat e w' (DK v (P++B++A++S)::R)->K (.tuple #[]) w') :
  Cl prog 221 #[v,Iw (a:Int),Iw (m:Int),Iw (b:Int),fv] w K:=by
 refine ZbJ ?_;unfold Za2;simp only[List.length_append] at hlen;refine Zdh (by omega) (by omega)<|Zdh (by omega) (by omega) ?_;refine ZjF (λq t10 t11 w=>∃(P' X Y S':List Yz),t10=Iw X.length/\t11=Iw Y.length/\q=X.length+Y.length/\P'.length+X.length=m/\0<X.length/\0<Y.length/\
   P'++Y++X++S'=P++B++A++S/\(P'++X++Y++S').length=(P++A++B++S).length/\Sat e w (DK v (P'++X++Y++S')::R)) (A.length+B.length)
  ⟨P,A,B,S,by rw[show m - a=A.length by omega],by rw[show b - m=B.length by omega],rfl,by omega,hA,hB,rfl,rfl,hS⟩ ?_
 rintro q _ _ w g ⟨P',X,Y,S',rfl,rfl,rfl,hpm,hX,hY,heq,hle,h1⟩ hg;simp only[List.length_append] at hle;refine ZrP (λc=>Zi ?_)<|λc=>Zf ?_
 .refine Ztu (λc2=>Zi ?_) (λc2=>Zf ?_)
  .-- X is longer
   refine Zdh (by omega) (by omega) ?_;have hX':X=X.take Y.length++X.drop Y.length:=(List.take_append_drop _ _).symm;have hl1:(X.take Y.length).length=Y.length:=by rw[List.length_take];omega
   have hl2:(X.drop Y.length).length=X.length - Y.length:=List.length_drop;refine ZhM (P:=P') (A:=X.take Y.length) (M:=X.drop Y.length) (B:=Y) (S:=S') (by omega) (by omega) (by omega) hl1 (by simp only[List.length_append];omega) (by rw[hX'] at h1;simpa using h1) λw2 h2=>?_;refine Zdh (by omega) (by omega) ?_;refine hg _ _ _ _ (by simp only[hl1,hl2];omega) ⟨P'++Y,X.drop Y.length,X.take Y.length,S',by rw[hl2],by rw[hl1],rfl,by rw[List.length_append,hl2];omega,by omega,by omega,?_,by simp only[List.length_append];omega,by simpa using h2⟩;rw[<-heq]
   conv=>rhs;rw[hX']
   simp
  .refine Zdh (by omega) (by omega)<|Zb9 (by omega)<|Zdh (by omega) (by omega) ?_;have hXY:X.length<Y.length:=by omega
   have hY':Y=Y.take (Y.length - X.length)++Y.drop (Y.length - X.length):=(List.take_append_drop _ _).symm;have hl1:(Y.take<|Y.length - X.length).length=Y.length - X.length:=by rw[List.length_take];omega
   have hl2:(Y.drop<|Y.length - X.length).length=X.length:=by rw[List.length_drop];omega
   refine ZhM (P:=P') (A:=X) (M:=Y.take<|Y.length - X.length) (B:=Y.drop<|Y.length - X.length) (S:=S') (by omega) (by omega) rfl hl2.symm (by simp only[List.length_append];omega) (by rw[hY'] at h1;simpa using h1) λw2 h2=>?_;refine Zdh (by omega) (by omega) ?_;refine hg _ _ _ _ (by simp only[hl1,hl2];omega) ⟨P',Y.drop<|Y.length - X.length,Y.take<|Y.length - X.length,X++S',by rw[hl2],by rw[hl1],rfl,by omega,by omega,by omega,?_,by simp only[List.length_append];omega,by simpa using h2⟩;rw[<-heq]
   conv=>rhs;rw[hY']
   simp
 .have hXY:X.length=Y.length:=by omega
  refine Zdh (by omega) (by omega) ?_;refine ZhM (P:=P') (A:=X) (M:=[]) (B:=Y) (S:=S') (by omega) (by simp;omega) rfl hXY (by simp only[List.length_append,List.length_nil];omega) (by simpa using h1) λw2 h2=>?_;refine hk _ ?_;rw[<-heq]
  simpa using h2
theorem Zmq (hc:Zvo e fv cf) (o:Zbr<|ltC cf) {P X S:List Yz} {a b:Nat} (ha:a=P.length) (hb:b=P.length+X.length) (hlen:(P++X++S).length<=1000000)
  (hS:Sat e w<|DK v (P++X++S)::R) (hk:∀w',Sat e w' (DK v (P++ZeY (ltC cf) X++S)::R)->K (.tuple #[]) w') :
  Cl prog 218 #[v,Iw (a:Int),Iw (b:Int),fv] w K:=by
 refine Za5 ?_;unfold Zap;simp only[List.length_append] at hlen;refine Qincs ?_;by_cases hX0:X.length=0
 .have hX:X=[]:=List.length_eq_zero_iff.1 hX0;subst hX;refine Zdk (λq t8 w=>t8=Iw ((a+1:Nat):Int)/\Sat e w (DK v (P++[]++S)::R)) 0 ⟨rfl,hS⟩ ?_;rintro q _ w g ⟨rfl,h1⟩ hg;refine Zpd (λc=>?_)<|λc=>Zf<|hk _ h1;simp at hb;omega
 refine Zdk (λq t8 w=>∃r:Nat,1<=r/\r<=X.length/\t8=Iw ((a+r:Nat):Int)/\q=X.length - r/\Sat e w (DK v (P++ZeY (ltC cf) (X.take r)++X.drop r++S)::R)) (X.length - 1)
  ⟨1,Nat.le_refl _,by omega,rfl,rfl,?_⟩ ?_
 .obtain ⟨x,hx⟩:=Zk (l:=X) (j:=0) (by omega);rw[Zx hx,List.take_zero,List.nil_append,Zsy];have:X=x::X.drop 1:=by rw[<-List.drop_zero (l:=X),Zaq hx];simp
  rw[this] at hS
  simpa using hS
 rintro q _ w g ⟨r,hr1,hr2,rfl,rfl,h1⟩ hg;refine Zpd (λc=>Zi ?_)<|λc=>Zf ?_
 .obtain ⟨x,hx⟩:=Zk (l:=X) (j:=r) (by omega);have hsl:(ZeY (ltC cf)<|X.take r).length=r:=by rw[Yw,List.length_take];omega
  refine Zdk (λq t9 w=>∃(U V:List Yz),U++V=ZeY (ltC cf) (X.take r)/\t9=Iw ((a+U.length:Nat):Int)/\q=U.length/\(∀z∈V,ltC cf x z=true)/\
    Sat e w (DK v (P++(U++x::V)++X.drop (r+1)++S)::R)) r
   ⟨ZeY (ltC cf)<|X.take r,[],by simp,by rw[hsl],hsl.symm,(λ_ h=>by cases h),by rw[Zaq hx] at h1;simpa using h1⟩ ?_
  rintro q _ w g2 ⟨U,V,hUV,rfl,rfl,hV,h2⟩ hg2;have hUVl:U.length+V.length=r:=by rw[<-hsl,<-hUV,List.length_append]
  have hasc:Asc (ltC cf) (U++V):=by rw[hUV];exact Zf5 o _
  have hdone:∀w',Sat e w' (DK v (P++(U++x::V)++X.drop (r+1)++S)::R)->(∀z∈U,ltC cf x z=false)->bi .add .i64 (Iw ((a+r:Nat):Int)) (Iw 1) w' λt16 w=>g [t16] w:=by
   intro w' h3 hU;refine Qincs<|hg _ _ _ (by omega) ⟨r+1,by omega,by omega,rfl,rfl,?_⟩;rw[Zx hx,Zep o,Zsy,<-hUV,ZnU hU hV]
   simpa using h3
  refine ZaY h2 λw3 h3=>Ztu (λc2=>?_)<|λc2=>?_
  .have hU0:0<U.length:=by omega
   obtain ⟨u,hu⟩:=Zk (l:=U) (j:=U.length - 1) (by omega);have hU':U=U.take (U.length - 1)++[u]:=by
    have h5:=Zx hu;rw[show U.length - 1+1=U.length by omega,List.take_length] at h5;exact h5
   generalize hU1:U.take (U.length - 1)=U1 at hU';have hU1l:U1.length+1=U.length:=by rw[hU'];simp
   have hsh:P++(U++x::V)++X.drop (r+1)++S=(P++U1)++u::([]++x::(V++X.drop (r+1)++S)):=by rw[hU'];simp
   rw[hsh] at h3;have l1:a+U.length - 1=(P++U1).length:=by rw[List.length_append];omega
   have l2:a+U.length=(P++U1).length+1+([]:List Yz).length:=by rw[List.length_append,List.length_nil];omega
   refine Ze<|Ze<|Ze<|Ze<|Zw h3 0 rfl (λ_=>Zp) Zbb (ZiK l2) λp hp=>Ze<|Ym h3 0 rfl hp rfl<|Ze<|Ze<|Ze<|ZjR (by omega) (by omega) ?_;refine Ze<|Zw h3 0 rfl (λ_=>Zp) Zbb (Zj2 l1) λp hp=>Ze<|Ym h3 0 rfl hp rfl<|Ze<|hc _ _ _ _ _ h3 λw4 h4=>Ze<|Za7 (λc3=>Yv<|Zi ?_)<|λc3=>Yv<|Zf ?_
   .refine ZaY h4 λw5 h5=>ZjR (by omega) (by omega)<|ZjR (by omega) (by omega) ?_;refine ZuH (l:=(P++U1)++u::([]++x::(V++X.drop (r+1)++S))) Zbb (λ_=>Zg _) (ZiK l2) (Zj2 l1) h5 λw6 h6=>?_;rw[Zp0 l1 l2] at h6;refine ZjR (by omega) (by omega) ?_;refine hg2 _ _ _ (by omega) ⟨U1,u::V,by rw[<-hUV,hU'];simp,by rw[show a+U.length - 1=a+U1.length by omega],rfl,λz hz=>?_,by simpa using h6⟩;rcases List.mem_cons.1 hz with rfl | hz
    .exact decide_eq_true c3
    .exact hV z hz
   .refine hdone _ (by rw[hsh];exact h4) ?_;have:=Zov o hasc.left hu<|decide_eq_false c3;rw[show U.length - 1+1=U.length by omega,List.take_length] at this;exact this
  .have hU0:U=[]:=List.length_eq_zero_iff.1 (by omega);refine Zu<|Zu<|Zu<|Zu<|Zu<|Zu<|Zu<|Zu<|Zu<|Zu<|Zu<|Zu<|Yd<|Zf<|hdone _ h3 ?_;rw[hU0];exact λ_ h=>by cases h
 .obtain rfl:r=X.length:=by omega
  rw[List.take_length,List.drop_length,List.append_nil] at h1;exact hk _ h1
theorem Zpj {P L S:List Yz} {i n:Nat} {x:Yz} (h:L[i]?=some x) (hn:n=P.length+i):(P++L++S)[n]?=some x:=by
 have hi:=(List.getElem?_eq_some_iff.1 h).1;subst hn;rw[List.append_assoc,List.getElem?_append_right (by omega),Nat.add_sub_cancel_left,List.getElem?_append_left hi,h]
theorem Zvt {a b x y:Int} (hk:K (.bool<|decide<|a<b/\x<y) w):bi .lss .i64 (Iw a) (Iw b) w λt1 w=>gd t1 true (λk=>k (Iw x) w) w λt2 w=>gd t1 true (λk=>k (Iw y) w) w λt3 w=>
  gd t1 true (λk=>bi .lss .i64 t2 t3 w k) w λt4 w=>pk t1 t4 Bf w K:=by
 refine Za7 (λc=>Ze<|Ze<|Ze<|ZwL<|Yv ?_)<|λc=>Zu<|Zu<|Zu<|Yd ?_
 .rw[show decide (a<b/\x<y)=decide (x<y) from by simp[c]] at hk;exact hk
 .rw[show decide (a<b/\x<y)=false from by simp[c]] at hk;exact hk
theorem Zm9 (hc:Zvo e fv cf) (o:Zbr<|ltC cf):∀(N:Nat) {w:World} {R:List HP} {K:KV} {P L Q S:List Yz} {a m b:Nat},L.length+Q.length<=N->a=P.length->m=P.length+L.length->b=P.length+L.length+Q.length->
  0<L.length->0<Q.length->(P++L++Q++S).length<=1000000->Asc (ltC cf) L->Asc (ltC cf) Q->
  Sat e w (DK v (P++L++Q++S)::R)->(∀w',Sat e w' (DK v (P++mg (ltC cf) L Q++S)::R)->K (.tuple #[]) w')->
  Cl prog 219 #[v,Iw (a:Int),Iw (m:Int),Iw (b:Int),fv] w K:=by
 intro N;induction N with
 | zero=>intro w R K P L Q S a m b h1 _ _ _ h2;omega
 | succ N ih=>
  intro w R K P L Q S a m b hN ha hm hb hL hQ hlen aL aQ hS hk;refine ZbD ?_;unfold ZaS;simp only[List.length_append] at hlen;refine Zdh (by omega) (by omega) (ZoR (λc1=>Zi ?_)<|λc1=>Zf ?_)
  .-- one from the left
   obtain ⟨x,rfl⟩:∃x,L=[x]:=List.length_eq_one_iff.1 (by omega);simp only[List.length_cons,List.length_nil] at*;refine ZjF (λz t10 t11 w=>∃p q:Nat,t10=Iw ((m+p:Nat):Int)/\t11=Iw ((m+q:Nat):Int)/\p<=q/\q<=Q.length/\z=q - p/\
     (p=0\/∃y,Q[p - 1]?=some y/\ltC cf y x=true)/\(q=Q.length\/∃y,Q[q]?=some y/\ltC cf y x=false)/\Sat e w (DK v (P++[x]++Q++S)::R)) Q.length
    ⟨0,Q.length,by simp,by rw[show b=m+Q.length by omega],Nat.zero_le _,Nat.le_refl _,rfl,.inl rfl,.inl rfl,hS⟩ ?_
   rintro z _ _ w g ⟨p,q,rfl,rfl,hpq,hqQ,rfl,hp,hq,h1⟩ hg;refine Zpd (λc2=>Zi ?_)<|λc2=>Zf ?_
   .refine Qaddns<|Zqe (xo:=λ_=>_) (yo:=λ_=>_) (by omega) ?_;rw[show (m+p+(m+q)) / 2=m+(p+q) / 2 by omega];have hh:(p+q) / 2<Q.length:=by omega
    obtain ⟨y,hy⟩:=Zk hh;refine ZaY h1 λw2 h2=>Zw h2 0 rfl (λ_=>Zp) Zbb (Zpj (P:=P++[x]) hy<|by simp;omega) λr hr=>?_;refine Ym h2 0 rfl hr rfl<|Zw (j:=a) h2 0 rfl (λ_=>Zp) Zbb (x:=x) (by rw[ha];simp) λr hr=>?_;refine Ym h2 0 rfl hr rfl<|hc _ _ _ _ _ h2 λw3 h3=>Za7 (λc3=>Zi ?_)<|λc3=>Zf ?_
    .refine Qincs<|hg _ _ _ _ (by omega) ⟨(p+q) / 2+1,q,rfl,rfl,by omega,hqQ,rfl,.inr ⟨y,by rw[Nat.add_sub_cancel];exact hy,decide_eq_true c3⟩,hq,h3⟩
    .refine hg _ _ _ _ (by omega) ⟨p,(p+q) / 2,rfl,rfl,by omega,by omega,rfl,hp,.inr ⟨y,hy,decide_eq_false c3⟩,h3⟩
   .obtain rfl:p=q:=by omega
    have hlow:∀y∈Q.take p,ltC cf y x=true:=by
     rcases hp with rfl | ⟨y,hy,hyx⟩
     .simp
     .have hp0:p - 1+1=p:=by
       by_cases h0:p=0
       .exfalso;subst h0;rcases hq with h | ⟨y',hy',hyx'⟩
        .omega
        .rw[show 0 - 1=0 from rfl,hy'] at hy;cases hy;rw[hyx] at hyx';cases hyx'
       .omega
      have:=Zo3 o aQ hy hyx;rw[hp0] at this;exact this
    have hhigh:∀y∈Q.drop p,ltC cf y x=false:=by
     rcases hq with rfl | ⟨y,hy,hyx⟩
     .simp
     .exact Zqm o aQ hy hyx
    have hmg:mg (ltC cf) [x] Q=Q.take p++x::Q.drop p:=by
     conv=>lhs;rw[<-List.take_append_drop p Q]
     exact ZDt hlow hhigh
    rw[hmg] at hk;have hQp:(Q.take p).length=p:=by rw[List.length_take];omega
    obtain ⟨Q1,hQ1⟩:∃Q1,Q1=Q.take p:=⟨_,rfl⟩;obtain ⟨Q2,hQ2⟩:∃Q2,Q2=Q.drop p:=⟨_,rfl⟩;have hQs:Q=Q1++Q2:=by rw[hQ1,hQ2,List.take_append_drop]
    rw[<-hQ1,<-hQ2] at hk;rw[<-hQ1] at hQp;rw[hQs] at h1;refine Zdk (λz t13 w=>∃i:Nat,i<=p/\t13=Iw ((a+i:Nat):Int)/\z=p - i/\Sat e w (DK v (P++Q1.take i++x::Q1.drop i++Q2++S)::R)) p
     ⟨0,Nat.zero_le _,rfl,rfl,by simpa using h1⟩ ?_
    rintro z _ w g2 ⟨i,hi,rfl,rfl,h2⟩ hg2;refine ZjR (by omega) (by omega)<|Zpd (λc3=>Zi ?_)<|λc3=>Zf ?_
    .obtain ⟨y,hy⟩:=Zk (l:=Q1) (j:=i) (by omega);have hsh:P++Q1.take i++x::Q1.drop i++Q2++S=(P++Q1.take i)++x::([]++y::(Q1.drop (i+1)++Q2++S)):=by rw[Zaq hy];simp
     rw[hsh] at h2;have l1:a+i=(P++Q1.take i).length:=by rw[List.length_append,List.length_take];omega
     have l2:a+i+1=(P++Q1.take i).length+1+([]:List Yz).length:=by rw[<-l1];rfl
     refine ZaY h2 λw3 h3=>Qincs<|Qincs<|ZuH (l:=(P++Q1.take i)++x::([]++y::(Q1.drop (i+1)++Q2++S))) Zbb (λ_=>Zg _) (Zj2 l1) (ZiK l2) h3 λw4 h4=>?_;rw[Zsz l1 l2] at h4;refine Qincs<|hg2 _ _ _ (by omega) ⟨i+1,by omega,rfl,rfl,?_⟩;rw[Zx hy]
     simpa using h4
    .obtain rfl:i=p:=by omega
     rw[List.take_of_length_le (by omega),List.drop_of_length_le (by omega)] at h2;exact hk _ (by simpa using h2)
  refine Zdh (by omega) (by omega) (ZoR (λc2=>Zi ?_)<|λc2=>Zf ?_)
  .-- one from the right
   obtain ⟨y,rfl⟩:∃y,Q=[y]:=List.length_eq_one_iff.1 (by omega);simp only[List.length_cons,List.length_nil] at*;refine ZjF (λz t14 t15 w=>∃p q:Nat,t14=Iw ((a+p:Nat):Int)/\t15=Iw ((a+q:Nat):Int)/\p<=q/\q<=L.length/\z=q - p/\
     (p=0\/∃x,L[p - 1]?=some x/\ltC cf y x=false)/\(q=L.length\/∃x,L[q]?=some x/\ltC cf y x=true)/\Sat e w (DK v (P++L++[y]++S)::R)) L.length
    ⟨0,L.length,by simp,by rw[show m=a+L.length by omega],Nat.zero_le _,Nat.le_refl _,rfl,.inl rfl,.inl rfl,hS⟩ ?_
   rintro z _ _ w g ⟨p,q,rfl,rfl,hpq,hqL,rfl,hp,hq,h1⟩ hg;refine Zpd (λc2=>Zi ?_)<|λc2=>Zf ?_
   .refine Qaddns<|Zqe (xo:=λ_=>_) (yo:=λ_=>_) (by omega) ?_;rw[show (a+p+(a+q)) / 2=a+(p+q) / 2 by omega];have hh:(p+q) / 2<L.length:=by omega
    obtain ⟨x,hx⟩:=Zk hh;refine ZaY h1 λw2 h2=>Zw (j:=m) h2 0 rfl (λ_=>Zp) Zbb (x:=y) (Zpj (P:=P++L) (L:=[y]) (i:=0) rfl<|by simp;omega) λr hr=>?_;refine Ym h2 0 rfl hr rfl<|Zw h2 0 rfl (λ_=>Zp) Zbb (x:=x) (by rw[List.append_assoc];exact Zpj hx<|by omega) λr hr=>?_;refine Ym h2 0 rfl hr rfl<|hc _ _ _ _ _ h2 λw3 h3=>Za7 (λc3=>ZaJ<|Zf ?_)<|λc3=>Zch<|Zi ?_
    .refine hg _ _ _ _ (by omega) ⟨p,(p+q) / 2,rfl,rfl,by omega,by omega,rfl,hp,.inr ⟨x,hx,decide_eq_true c3⟩,h3⟩
    .refine Qincs<|hg _ _ _ _ (by omega) ⟨(p+q) / 2+1,q,rfl,rfl,by omega,hqL,rfl,.inr ⟨x,by rw[Nat.add_sub_cancel];exact hx,decide_eq_false c3⟩,hq,h3⟩
   .obtain rfl:p=q:=by omega
    have hlow:∀x∈L.take p,ltC cf y x=false:=by
     rcases hp with rfl | ⟨x,hx,hyx⟩
     .simp
     .have hp0:p - 1+1=p:=by
       by_cases h0:p=0
       .exfalso;subst h0;rcases hq with h | ⟨x',hx',hyx'⟩
        .omega
        .rw[show 0 - 1=0 from rfl,hx'] at hx;cases hx;rw[hyx] at hyx';cases hyx'
       .omega
      have:=Zov o aL hx hyx;rw[hp0] at this;exact this
    have hhigh:∀x∈L.drop p,ltC cf y x=true:=by
     rcases hq with rfl | ⟨x,hx,hyx⟩
     .simp
     .exact Zl6 o aL hx hyx
    have hmg:mg (ltC cf) L [y]=L.take p++y::L.drop p:=by
     conv=>lhs;rw[<-List.take_append_drop p L]
     exact ZnU hlow hhigh
    rw[hmg] at hk;have hL2l:(L.drop p).length=L.length - p:=List.length_drop;have hL1l:(L.take p).length=p:=by rw[List.length_take];omega
    obtain ⟨L1,hL1⟩:∃L1,L1=L.take p:=⟨_,rfl⟩;obtain ⟨L2,hL2⟩:∃L2,L2=L.drop p:=⟨_,rfl⟩;have hLs:L=L1++L2:=by rw[hL1,hL2,List.take_append_drop]
    rw[<-hL1,<-hL2] at hk;rw[<-hL1] at hL1l;rw[<-hL2] at hL2l;rw[hLs] at h1;refine Zdk (λz t17 w=>z<=L2.length/\t17=Iw ((a+p+z:Nat):Int)/\Sat e w (DK v (P++L1++L2.take z++y::L2.drop z++S)::R)) L2.length
     ⟨Nat.le_refl _,by rw[show m=a+p+L2.length by omega],by simpa using h1⟩ ?_
    rintro z _ w g2 ⟨hz,rfl,h2⟩ hg2;refine Ztu (λc3=>Zi ?_)<|λc3=>Zf ?_
    .obtain ⟨u,hu⟩:=Zk (l:=L2) (j:=z - 1) (by omega);have hz1:z - 1+1=z:=by omega
     have htk:=Zx hu;rw[hz1] at htk;have hsh:P++L1++L2.take z++y::L2.drop z++S=(P++L1++L2.take (z - 1))++u::([]++y::(L2.drop z++S)):=by rw[htk];simp
     rw[hsh] at h2;have l1:a+p+z - 1=(P++L1++L2.take (z - 1)).length:=by simp only[List.length_append,List.length_take];omega
     have l2:a+p+z=(P++L1++L2.take (z - 1)).length+1+([]:List Yz).length:=by rw[<-l1,List.length_nil];omega
     refine ZaY h2 λw3 h3=>ZjR (by omega) (by omega)<|ZjR (by omega) (by omega) ?_;refine ZuH (l:=(P++L1++L2.take (z - 1))++u::([]++y::(L2.drop z++S))) Zbb (λ_=>Zg _) (ZiK l2) (Zj2 l1) h3 λw4 h4=>?_;rw[Zp0 l1 l2] at h4;refine ZjR (by omega) (by omega) ?_;refine hg2 (z - 1) _ _ (by omega) ⟨by omega,by rw[show a+p+z - 1=a+p+(z - 1) by omega],?_⟩;have hdc:=Zaq hu;rw[hz1] at hdc;rw[hdc]
     simpa using h4
    .obtain rfl:z=0:=by omega
     exact hk _ (by simpa using h2)
  refine Qaddns<|Zqe (xo:=λ_=>_) (yo:=λ_=>_) (by omega) ?_;obtain ⟨mid,hmid⟩:∃mid,mid=(a+b) / 2:=⟨_,rfl⟩;rw[<-hmid];refine Qaddns<|ZFJ<|J2.cut (λt20 t21 w=>∃s0 r0:Nat,t20=Iw (s0:Int)/\t21=Iw (r0:Int)/\((s0=a/\r0=m/\m<=mid)\/(s0=mid+m - b/\r0=mid/\mid<m))/\Sat e w (DK v (P++L++Q++S)::R)) (λk5 hcut=>?_) ?_
  .refine Zt1 (λc3=>?_)<|λc3=>?_
   .refine Zdh (by omega) (by omega) ?_;exact hcut _ _ _ ⟨_,_,rfl,rfl,.inr ⟨rfl,rfl,by omega⟩,hS⟩
   .exact hcut _ _ _ ⟨_,_,rfl,rfl,.inl ⟨rfl,rfl,by omega⟩,hS⟩
  rintro _ _ w ⟨s0,r0,rfl,rfl,hsr,h1⟩;refine ZjR (by omega) (by omega) ?_;have hsr0:s0<=r0:=by omega
  refine ZjF (λz t20 t21 w=>∃s r:Nat,t20=Iw (s:Int)/\t21=Iw (r:Int)/\s0<=s/\s<=r/\r<=r0/\z=r - s/\
    (s=s0\/(s0<s/\∃x y,L[s - 1 - a]?=some x/\Q[mid - s]?=some y/\ltC cf y x=false))/\(r=r0\/(r<r0/\∃x y,L[r - a]?=some x/\Q[mid - 1 - r]?=some y/\ltC cf y x=true))/\Sat e w (DK v (P++L++Q++S)::R)) (r0 - s0)
   ⟨s0,r0,rfl,rfl,Nat.le_refl _,hsr0,Nat.le_refl _,rfl,.inl rfl,.inl rfl,h1⟩ ?_
  rintro z _ _ w g ⟨s,r,rfl,rfl,hs0,hsr1,hr0,rfl,hs,hr,h2⟩ hg;refine Zpd (λc4=>Zi ?_)<|λc4=>Zf ?_
  .refine Qaddns<|Zqe (xo:=λ_=>_) (yo:=λ_=>_) (by omega) ?_;obtain ⟨c,hcc⟩:∃c,c=(s+r) / 2:=⟨_,rfl⟩;rw[<-hcc];have hc1:s<=c:=by omega
   have hc2:c<r:=by omega
   obtain ⟨x,hx⟩:=Zk (l:=L) (j:=c - a) (by omega);obtain ⟨y,hy⟩:=Zk (l:=Q) (j:=mid - 1 - c) (by omega);refine ZaY h2 λw3 h3=>Zdh (by omega) (by omega) ?_;refine Zw h3 0 rfl (λ_=>Zp) Zbb (x:=y) (Zpj (P:=P++L) hy<|by rw[List.length_append];omega) λp hp=>?_;refine Ym h3 0 rfl hp rfl<|Zw h3 0 rfl (λ_=>Zp) Zbb (x:=x) (by rw[List.append_assoc];exact Zpj hx<|by omega) λp hp=>?_;refine Ym h3 0 rfl hp rfl<|hc _ _ _ _ _ h3 λw4 h4=>Za7 (λc5=>ZaJ<|Zf ?_)<|λc5=>Zch<|Zi ?_
   .exact hg _ _ _ _ (by omega) ⟨s,c,rfl,rfl,hs0,by omega,by omega,rfl,hs,.inr ⟨by omega,x,y,hx,hy,decide_eq_true c5⟩,h4⟩
   .exact Qincs<|hg _ _ _ _ (by omega) ⟨c+1,r,rfl,rfl,by omega,by omega,hr0,rfl,.inr ⟨by omega,x,y,by rw[Nat.add_sub_cancel];exact hx,by rw[show mid - (c+1)=mid - 1 - c by omega];exact hy,decide_eq_false c5⟩,hr,h4⟩
  obtain rfl:s=r:=by omega
  have hsa:a<=s:=by omega
  have hsm:s<=m:=by omega
  have hsd:s<=mid:=by omega
  have heb:mid+m - s<=b:=by omega
  have hL1l:(L.take<|s - a).length=s - a:=by rw[List.length_take];omega
  have hL2l:(L.drop<|s - a).length=m - s:=by rw[List.length_drop];omega
  have hQ1l:(Q.take<|mid - s).length=mid - s:=by rw[List.length_take];omega
  have hQ2l:(Q.drop<|mid - s).length=b - (mid+m - s):=by rw[List.length_drop];omega
  have p1:∀x∈L.drop (s - a),∀y∈Q.take (mid - s),ltC cf y x=true:=by
   intro x hx y hy;rcases hr with hr | ⟨hr,x0,y0,hx0,hy0,hlt⟩
   .rcases hsr with ⟨_,hrm,_⟩ | ⟨_,hrm,_⟩
    .rw[List.drop_of_length_le (by omega)] at hx;cases hx
    .rw[show mid - s=0 by omega,List.take_zero] at hy;cases hy
   .have h3:=Zl6 o aL hx0 hlt x hx;have h4:=Zo3 o aQ hy0 h3;rw[show mid - 1 - s+1=mid - s by omega] at h4;exact h4 y hy
  have p2:∀x∈L.take (s - a),∀y∈Q.drop (mid - s),ltC cf y x=false:=by
   intro x hx y hy;rcases hs with hs | ⟨hs,x0,y0,hx0,hy0,hlt⟩
   .rcases hsr with ⟨hsx,_,_⟩ | ⟨hsx,_,_⟩
    .rw[show s - a=0 by omega,List.take_zero] at hx;cases hx
    .rw[List.drop_of_length_le (by omega)] at hy;cases hy
   .have h3:=Zqm o aQ hy0 hlt y hy;have h4:=Zov o aL hx0 h3;rw[show s - 1 - a+1=s - a by omega] at h4;exact h4 x hx
  have hmg:mg (ltC cf) L Q=mg (ltC cf) (L.take<|s - a) (Q.take<|mid - s)++mg (ltC cf) (L.drop<|s - a) (Q.drop<|mid - s):=by
   conv=>lhs;rw[<-List.take_append_drop (s - a) L,<-List.take_append_drop (mid - s) Q]
   exact ZiE p1 p2
  have aL':Asc (ltC cf) (L.take (s - a)++L.drop (s - a)):=by rw[List.take_append_drop];exact aL
  have aQ':Asc (ltC cf) (Q.take (mid - s)++Q.drop (mid - s)):=by rw[List.take_append_drop];exact aQ
  have hLe:L=L.take (s - a)++L.drop (s - a):=(List.take_append_drop _ _).symm;have hQe:Q=Q.take (mid - s)++Q.drop (mid - s):=(List.take_append_drop _ _).symm;rw[hmg] at hk;have h3:Sat e w (DK v (P++(L.take (s - a)++L.drop (s - a))++(Q.take (mid - s)++Q.drop (mid - s))++S)::R):=by rw[<-hLe,<-hQe];exact h2
  clear hs hr p1 p2 hmg h2 hLe hQe;generalize L.take (s - a)=L1 at*;generalize L.drop (s - a)=L2 at*;generalize Q.take (mid - s)=Q1 at*;generalize Q.drop (mid - s)=Q2 at*;refine Zdh (by omega) (by omega) ?_;refine Zvt<|J0.cut (λw=>Sat e w<|DK v (P++L1++Q1++L2++Q2++S)::R) (λk7 hcut=>?_) ?_
  .refine Zt1 (λc5=>?_)<|λc5=>hcut _ ?_
   .refine Zv2 (P:=P++L1) (A:=L2) (B:=Q1) (S:=Q2++S) (by rw[List.length_append];omega) (by rw[List.length_append];omega) (by rw[List.length_append];omega) (by omega) (by omega) (by simp only[List.length_append];omega) (by simpa using h3) λw5 h5=>?_;exact hcut _ (by simpa using h5)
   .have:L2=[]\/Q1=[]:=by
     by_cases h:s<m
     .exact .inr<|List.length_eq_zero_iff.1 (by omega)
     .exact .inl<|List.length_eq_zero_iff.1 (by omega)
    rcases this with h | h <;> subst h <;> simpa using h3
  intro w5 h5;refine Zvt<|J0.cut (λw=>Sat e w<|DK v (P++mg (ltC cf) L1 Q1++L2++Q2++S)::R) (λk8 hcut=>?_) ?_
  .refine Zt1 (λc5=>?_)<|λc5=>hcut _ ?_
   .refine ih (P:=P) (L:=L1) (Q:=Q1) (S:=L2++Q2++S) (by omega) ha (by omega) (by omega) (by omega) (by omega) (by simp only[List.length_append];omega) aL'.left aQ'.left (by simpa using h5) λw6 h6=>?_;exact hcut _ (by simpa using h6)
   .have:L1=[]\/Q1=[]:=by
     by_cases h:a<s
     .exact .inr<|List.length_eq_zero_iff.1 (by omega)
     .exact .inl<|List.length_eq_zero_iff.1 (by omega)
    rcases this with h | h
    .subst h;rw[ZcI];simpa using h5
    .subst h;rw[ZbO];simpa using h5
  intro w6 h6;refine Zvt<|Zt1 (λc5=>?_)<|λc5=>hk _ ?_
  .refine ih (P:=P++mg (ltC cf) L1 Q1) (L:=L2) (Q:=Q2) (S:=S) (by omega) (by rw[List.length_append,Zjz];omega) (by rw[List.length_append,Zjz];omega) (by rw[List.length_append,Zjz];omega) (by omega) (by omega) (by simp only[List.length_append,Zjz];omega) aL'.right aQ'.right (by simpa using h6) λw7 h7=>?_;exact hk _ (by simpa using h7)
  .have:L2=[]\/Q2=[]:=by
    by_cases h:mid<mid+m - s
    .exact .inr<|List.length_eq_zero_iff.1 (by omega)
    .exact .inl<|List.length_eq_zero_iff.1 (by omega)
   rcases this with h | h
   .subst h;rw[ZcI];simpa using h6
   .subst h;rw[ZbO];simpa using h6
def srt (cf:Yz->Yz->Int) (B:List<|List Yz):List Yz:=(B.map<|ZeY<|ltC cf).flatten
theorem Zcc (B:List<|List Yz):(srt cf B).length=B.flatten.length:=by
 induction B with
 | nil=>rfl
 | cons b B ih=>simp only[srt,List.map_cons,List.flatten_cons,List.length_append,Yw] at ih ⊢;rw[ih]
theorem Zna (A B:List<|List Yz):srt cf (A++B)=srt cf A++srt cf B:=by simp[srt]
theorem Zi0 (b:List Yz) (B:List<|List Yz):srt cf (b::B)=ZeY (ltC cf) b++srt cf B:=by simp[srt]
theorem Zsu {B:List<|List Yz} {k:Nat} (h:∀b∈B,b.length=k):B.flatten.length=B.length*k:=by
 induction B with
 | nil=>simp
 | cons b B ih=>rw[List.flatten_cons,List.length_append,h b List.mem_cons_self,ih λx hx=>h x<|List.mem_cons_of_mem _ hx,List.length_cons,Nat.add_mul];omega
theorem ZwX (hc:Zvo e fv cf) (o:Zbr<|ltC cf) {l:List Yz} (hlen:l.length<=1000000) (hS:Sat e w<|DK v l::R) (hk:∀w',Sat e w' (DK v (ZeY (ltC cf) l)::R)->K (.tuple #[]) w') :
  Cl prog 214 #[v,Iw (l.length:Int),fv] w K:=by
 refine ZbL ?_;refine ZjF (λz t7 t8 w=>∃(B:List<|List Yz) (r:List Yz),l=B.flatten++r/\(∀b∈B,b.length=20)/\t7=Iw (B.flatten.length:Int)/\t8=Iw ((B.flatten.length+20:Nat):Int)/\z=r.length/\Sat e w (DK v (srt cf B++r)::R)) l.length
  ⟨[],l,rfl,(λ_ h=>by cases h),rfl,rfl,rfl,hS⟩ ?_
 rintro z _ _ w g ⟨B,r,hl,hB,rfl,rfl,rfl,h1⟩ hg;have hll:l.length=B.flatten.length+r.length:=by rw[hl,List.length_append]
 refine ZFH (λc1=>Zi ?_)<|λc1=>Zf ?_
 .have hr20:20<=r.length:=by omega
  have htl:(r.take 20).length=20:=by rw[List.length_take];omega
  refine Zmq hc o (P:=srt cf B) (X:=r.take 20) (S:=r.drop 20) (Zcc B).symm (by rw[Zcc,htl]) (by simp only[List.length_append,List.length_take,List.length_drop,Zcc];omega) (by simpa using h1) λw2 h2=>?_;refine Zb9 (b:=20) (by omega) ?_;refine hg _ _ _ _ (by rw[List.length_drop];omega) ⟨B++[r.take 20],r.drop 20,by rw[hl];simp,λb hb=>?_,?_,?_,rfl,?_⟩
  .rcases List.mem_append.1 hb with h | h
   .exact hB b h
   .rw[List.mem_singleton.1 h];exact htl
  .rw[List.flatten_append,List.length_append];simp[htl]
  .rw[List.flatten_append,List.length_append];simp[htl]
  .rw[Zna,Zi0]
   simpa [srt] using h2
 .have hr20:r.length<20:=by omega
  refine Zmq hc o (P:=srt cf B) (X:=r) (S:=[]) (Zcc B).symm (by rw[Zcc,hll]) (by simp only[List.length_append,Zcc,List.length_nil];omega) (by simpa using h1) λw2 h2=>?_;rw[List.append_nil] at h2;refine Zdk (λz t6 w=>∃(bs:Nat) (B:List<|List Yz) (r:List Yz),l=B.flatten++r/\0<bs/\bs<=2000000/\(∀b∈B,b.length=bs)/\r.length<bs/\t6=Iw (bs:Int)/\z=l.length - bs/\Sat e w (DK v (srt cf B++ZeY (ltC cf) r)::R)) (l.length - 20)
   ⟨20,B,r,hl,by decide,by decide,hB,hr20,rfl,rfl,h2⟩ ?_
  clear hl hB hr20 hll h1 h2 hg c1;rintro z _ w g2 ⟨bs,B,r,hl,hbs,hbs2,hB,hr,rfl,rfl,h1⟩ hg2;have hll:l.length=B.flatten.length+r.length:=by rw[hl,List.length_append]
  refine Zpd (λc2=>Zi ?_)<|λc2=>Zf ?_
  .refine Zp5 (a:=2) (by omega) ?_;refine ZjF (λz t7 t8 w=>∃(D B:List<|List Yz),l=D.flatten++B.flatten++r/\(∀b∈D,b.length=2*bs)/\(∀b∈B,b.length=bs)/\t7=Iw (D.flatten.length:Int)/\t8=Iw ((D.flatten.length+2*bs:Nat):Int)/\z=B.length/\
     Sat e w (DK v (srt cf D++srt cf B++ZeY (ltC cf) r)::R)) B.length
    ⟨[],B,by simpa using hl,(λ_ h=>by cases h),hB,rfl,by simp,rfl,h1⟩ ?_
   clear hl hB hll h1;rintro z _ _ w g3 ⟨D,B,hl,hD,hB,rfl,rfl,rfl,h1⟩ hg3;have hll:l.length=D.flatten.length+B.flatten.length+r.length:=by rw[hl,List.length_append,List.length_append]
   have hBl:=Zsu hB;refine ZFH (λc3=>Zi ?_) (λc3=>Zf ?_)
   .-- two blocks more
    obtain ⟨X,Y,B',rfl⟩:∃X Y B',B=X::Y::B':=by
     match B with
     | []=>simp only[List.length_nil] at hBl;omega
     | [X]=>simp only[List.length_cons,List.length_nil] at hBl;omega
     | X::Y::B'=>exact ⟨X,Y,B',rfl⟩
    have hXl:X.length=bs:=hB X (by simp);have hYl:Y.length=bs:=hB Y (by simp);rw[List.flatten_cons,List.flatten_cons,List.length_append,List.length_append] at hll;refine Qaddns ?_;refine Zm9 hc o _ (P:=srt cf D) (L:=ZeY (ltC cf) X) (Q:=ZeY (ltC cf) Y) (S:=srt cf B'++ZeY (ltC cf) r) (Nat.le_refl _) (Zcc D).symm (by rw[Zcc,Yw];omega) (by rw[Zcc,Yw,Yw];omega)
     (by rw[Yw];omega) (by rw[Yw];omega) (by simp only[List.length_append,Zcc,Yw];omega) (Zf5 o _) (Zf5 o _) (by rw[Zi0,Zi0] at h1;simpa using h1) λw4 h4=>?_
    refine Zp5 (a:=2) (by omega)<|Qaddns<|hg3 _ _ _ _ (by simp only[List.length_cons];omega) ⟨D++[X++Y],B',by rw[hl];simp,λb hb=>?_,λb hb=>hB b (by simp[hb]),?_,?_,rfl,?_⟩
    .rcases List.mem_append.1 hb with h | h
     .exact hD b h
     .rw[List.mem_singleton.1 h,List.length_append];omega
    .rw[List.flatten_append,List.length_append];simp[hXl,hYl];omega
    .rw[List.flatten_append,List.length_append];simp[hXl,hYl];omega
    .rw[Zna,Zi0,Zep o]
     simpa [srt] using h4
   .-- at most one block more
    refine Qaddns<|ZwL<|J0.cut (λw=>∃r',l=D.flatten++r'/\r'.length<2*bs/\Sat e w (DK v (srt cf D++ZeY (ltC cf) r')::R)) (λk4 hcut=>?_) ?_
    .refine Zt1 (λc4=>?_)<|λc4=>hcut _ ?_
     .obtain ⟨X,rfl⟩:∃X,B=[X]:=by
       match B with
       | []=>simp only[List.length_nil] at hBl;omega
       | [X]=>exact ⟨X,rfl⟩
       | X::Y::B'=>simp only[List.length_cons,Nat.add_mul] at hBl;omega
      have hXl:X.length=bs:=hB X (by simp);simp only[List.flatten_cons,List.flatten_nil,List.append_nil] at hll hl;refine Zm9 hc o _ (P:=srt cf D) (L:=ZeY (ltC cf) X) (Q:=ZeY (ltC cf) r) (S:=[]) (Nat.le_refl _) (Zcc D).symm (by rw[Zcc,Yw];omega) (by rw[Zcc,Yw,Yw];omega)
       (by rw[Yw];omega) (by rw[Yw];omega) (by simp only[List.length_append,Zcc,Yw,List.length_nil];omega) (Zf5 o _) (Zf5 o _) (by rw[Zi0] at h1;simpa [srt] using h1) λw4 h4=>?_
      refine hcut _ ⟨X++r,by rw[hl];simp,by rw[List.length_append];omega,?_⟩;rw[Zep o]
      simpa using h4
     .match B,hB,hl,hll,hBl,h1 with
      | [],hB,hl,hll,hBl,h1=>exact ⟨r,by simpa using hl,by omega,by simpa [srt] using h1⟩
      | [X],hB,hl,hll,hBl,h1=>
       have hXl:X.length=bs:=hB X (by simp);simp only[List.flatten_cons,List.flatten_nil,List.append_nil] at hll;have hr0:r=[]:=List.length_eq_zero_iff.1 (by omega);subst hr0;exact ⟨X,by simpa using hl,by omega,by simpa [srt,ZeY] using h1⟩
      | X::Y::B',hB,hl,hll,hBl,h1=>simp only[List.length_cons,Nat.add_mul] at hBl;omega
    .rintro w5 ⟨r',hl',hr',h5⟩;refine Zp5 (b:=2) (by omega) ?_;exact hg2 _ _ _ (by omega) ⟨bs*2,D,r',hl',by omega,by omega,λb hb=>by rw[hD b hb];omega,by omega,rfl,rfl,h5⟩
  .have hBl:=Zsu hB;refine hk _ ?_
   match B,hB,hl,hll,hBl,h1 with
   | [],hB,hl,hll,hBl,h1=>rw[show l=r by simpa using hl];simpa [srt] using h1
   | [X],hB,hl,hll,hBl,h1=>
    have hXl:X.length=bs:=hB X (by simp);simp only[List.flatten_cons,List.flatten_nil,List.append_nil] at hll;have hr0:r=[]:=List.length_eq_zero_iff.1 (by omega);subst hr0;rw[show l=X by simpa using hl]
    simpa [srt,ZeY] using h1
   | X::Y::B',hB,hl,hll,hBl,h1=>simp only[List.length_cons,Nat.add_mul] at hBl;omega
theorem Zpw {S:HP} (hc:Zvo e fv cf) (o:Zbr<|ltC cf) {l:List Yz} (hlen:l.length<=1000000) (hS:Sat e w<|DK v l::S::R) (hk:∀w',Sat e w' (DK v (ZeY (ltC cf) l)::S::R)->K (.tuple #[]) w') :
  Cl prog 198 #[v,fv] w K:=by
 refine ZaO ?_;unfold Zad;exact Qln hS 0 rfl<|ZwX hc o hlen hS hk
theorem ZyG {b:Nat} {k:Key} {x:Yz} (hS:Sat e w<|blk b 83 k.cs::R) (hk:∀w',Sat e w' (blk b 83 k.cs::R)->K (.bool<|decide<|0<=ZeU x.cause k) w') :
  clV prog (.func (.func 324) #[] #[pt b]) #[.agg x.cs.toArray] w K:=by
 refine ⟨_,_,_,rfl,Ze4 (t0:=.agg x.cs.toArray) (t1:=pt b) ?_⟩;unfold ZeJ;refine Yp (cs:=x.cs) hS rfl λb2 w1 h1=>Za<|Zo h1 0 (vs:=x.cause.cs) rfl (by rfl) rfl ?_;refine Zo h1 1 (vs:=k.cs) rfl (by rfl) rfl ?_;exact Zcr h1 λw2 h2=>ZGo<|hk _ h2.drop
def Zqc (k:Key) (x:Yz):Bool:=decide<|0<=ZeU x.cause k
theorem Zq2 {g:Nat} {fl:Int} {l:List Yz} (k:Key) (hS:Sat e w<|Yo g fl l::R) (hl:l.length<=1000000)
  (hk:∀v w',Sat e w' (Zz 85 6 Msg.cs v ((l.filter<|Zqc k).map Yz.m)::Yo g fl (l.filter λx=>!Zqc k x)::R)->K v w'):Cl prog 318 #[pt g,.agg k.cs.toArray] w K:=by
 refine Zgp ?_;unfold ZgZ;exact Yp (cs:=k.cs) hS rfl λb3 w1 h1=>Zmp (Zqc k) h1.swap hl (λw R K x h hk=>ZyG h hk) λv' w2 h2=>ZjM h2 (λ_=>Zp) (Nat.le_trans (List.length_filter_le _ _) hl) λv3 w3 h3=>hk _ _<|h3.sn 4 [0,2]
def cfK (x y:Yz):Int:=ZeU x.cause y.cause
theorem ZtJ {x y:Yz}:ltC cfK x y=true↔Zv x.cause y.cause:=by
 unfold ltC cfK;rw[decide_eq_true_eq];exact Zav
theorem ZrW {x y:Yz}:ltC cfK x y=false↔¬Zv x.cause y.cause:=by
 rw[<-ZtJ];cases ltC cfK x y <;> simp
theorem ZrK:Zbr (ltC cfK) where
 asymm a b h:=ZrW.2 (ZtJ.1 h).asymm
 trans a b c h k:=by
  rw[ZrW] at h k ⊢;intro hca;rcases Zv.tri a.cause b.cause with h1 | h1 | h1
  .exact k<|hca.trans h1
  .rw[h1] at hca;exact k hca
  .exact h h1
def Zo4 (t:Int) (x:Yz):Bool:=decide<|x.cause.T<t
def Zs6 (l:List Yz) (t:Int):List Yz:=ZeY (ltC cfK)<|l.filter<|Zo4 t
def ZwV (l:List Yz) (t:Int):List Yz:=l.filter λx=>!Zo4 t x
theorem Zy5 {b:Nat} {t:Int} {x:Yz} (hS:Sat e w<|blk b 3 [Iw t]::R) (hk:∀w',Sat e w' (blk b 3 [Iw t]::R)->K (.bool<|Zo4 t x) w') :
  clV prog (.func (.func 197) #[] #[pt b]) #[.agg x.cs.toArray] w K:=by
 refine ⟨_,_,_,rfl,ZeS (t0:=.agg x.cs.toArray) (t1:=pt b) ?_⟩;unfold ZeA;exact Yp (cs:=x.cs) hS rfl λb2 w1 h1=>Za<|Za<|Zb h1 0 rfl (v:=Iw x.cause.T) rfl<|Zb h1 1 rfl (v:=Iw t) rfl<|ZwL<|hk _ h1.drop
theorem Zyi:Zvo e (.func (.func 199) #[] #[]) cfK:=by
 intro w R K x y hS hk;refine ⟨_,_,_,rfl,ZeR (t0:=.agg x.cs.toArray) (t1:=.agg y.cs.toArray) ?_⟩;unfold ZeD;refine Yp (cs:=x.cs) hS rfl λb2 w1 h1=>Yp (cs:=y.cs) h1 rfl λb3 w2 h2=>Za<|Zo h2 1 (vs:=x.cause.cs) rfl (by rfl) rfl ?_;refine Za<|Zo h2 0 (vs:=y.cause.cs) rfl (by rfl) rfl ?_;exact Zcr h2 λw3 h3=>hk _ h3.drop.drop
theorem ZqO {g:Nat} {fl:Int} {l:List Yz} (t:Int) (hS:Sat e w<|Yo g fl l::R) (hl:l.length<=1000000)
  (hk:∀v w',Sat e w' (Zz 85 6 Msg.cs v ((Zs6 l t).map Yz.m)::Yo g (max fl t) (ZwV l t)::R)->K v w'):Cl prog 156 #[pt g,Iw t] w K:=by
 refine ZgO ?_;unfold Zhk;refine Yp (cs:=[Iw t]) hS rfl λb3 w1 h1=>Zmp (Zo4 t) h1.swap hl (λw R K x h hk=>Zy5 h hk) λv' w2 h2=>?_;have hfl:=List.length_filter_le (Zo4 t) l;refine Zpw Zyi ZrK (by omega) h2 λw3 h3=>?_;refine ZaY h3 λw4 h4=>?_;obtain ⟨v,h5⟩:=(h4.sn 3 [1,0,2]).ex;have h6:=h5.split;refine Zh<|Za<|Zb h6 0 rfl (v:=Iw fl) rfl<|Zb h6 3 rfl (v:=Iw t) rfl<|ZwQ<|Zh<|Za<|Zq h6 0 rfl (vs:=[Iw<|max fl t]) rfl rfl (Nat.le_of_ble_eq_true rfl) (by simp[flat]) (cs':=[Iw<|max fl t,v]) rfl λw5 h7=>?_;have h8:Sat e w5 (DK v' (Zs6 l t)::Yo g (max fl t) (ZwV l t)::blk b3 3 [Iw t]::R):=
  Sat.swap (.mk_ex v (.join (l':=[_,_])<|h7.sn 4 [0,1,2,3]))
 refine ZjM h8 (λ_=>Zp) (by unfold Zs6;rw[Yw];omega) λv3 w6 h9=>?_;exact hk _ _<|h9.sn 4 [0,2]
def ZM8 (g:Nat) (fl:Int) (l:List Yz):HP:=hex λv:Value=>Yh [blk g 236 [Iw fl,v],Zz 288 9 Yz.cs v l]
abbrev DR (v:Value) (l:List Yz):HP:=Zz 288 9 Yz.cs v l
theorem ZYm {g:Nat} {fl:Int} {l:List Yz} (h:Sat e w<|ZM8 g fl l::R):∃v,Sat e w (blk g 236 [Iw fl,v]::DR v l::R):=by
 obtain ⟨v,h5⟩:=h.ex;exact ⟨v,h5.split⟩
theorem ZNa {g:Nat} {fl:Int} {l:List Yz} {v:Value} (h:Sat e w<|blk g 236 [Iw fl,v]::DR v l::R):Sat e w (ZM8 g fl l::R):=
 .mk_ex v (.join (l':=[_,_]) h)
theorem ZM6 (hS:Sat e w R) (hk:∀g w',Sat e w' (ZM8 g 0 []::R)->K (pt g) w'):Cl prog 84 #[] w K:=by
 refine ZM3 ?_;unfold ZMV;rw[Z1l];exact ⟨_,rfl,Yp (cs:=[Iw 0,Sn]) hS rfl λb w1 h1=>hk _ _<|ZNa (h1.own_nil 288 9 Yz.cs).swap⟩
theorem ZZP {g:Nat} {fl:Int} {l:List Yz} (c:Key) (m:Msg) (hS:Sat e w<|ZM8 g fl l::R) (hl:l.length<=256)
  (hk:∀w',Sat e w' (ZM8 g fl (ZsN fl l c m)::R)->K (Iw<|Zw9 fl l c) w'):Cl prog 162 #[pt g,.agg c.cs.toArray,.agg m.cs.toArray] w K:=by
 obtain ⟨v,h1⟩:=ZYm hS;refine ZXv ?_;unfold ZWu;refine Yp (cs:=c.cs) h1 rfl λb4 w1 h2=>Yp (cs:=m.cs) h2 rfl λb5 w2 h3=>ZaY h3 λw3 h4=>Za<|Zb h4 1 rfl (v:=Iw c.T) rfl<|Zh<|Za<|Zb h4 2 rfl (v:=Iw fl) rfl<|Za7 (λc1=>?_)<|λc1=>?_
 .refine Zi ?_;have:=hk w3;simp only[Zw9,ZsN,if_pos c1] at this;exact this<|ZNa h4.drop.drop
 .refine Zf<|Zh<|Za<|Zb h4 2 rfl (v:=v) rfl<|Qln h4 3 rfl<|Zu5 (λc2=>?_)<|λc2=>?_
  .refine Zi ?_;have:=hk w3;have c3:256<=l.length:=by omega
   simp only[Zw9,ZsN,if_neg c1,if_pos c3] at this;exact this<|ZNa h4.drop.drop
  .refine Zf (Zw3 h4 Yz.cs λv1 w4 h5=>Zh<|Za<|Zb h5 3 rfl (v:=v) rfl ?_)
   replace h5:Sat e w4 (DR v1 []::DR v l::blk b5 85 m.cs::blk b4 83 c.cs::blk g 236 [Iw fl,v]::R):=h5.sn 5 [0,4,1,2,3]
   refine Zeo ZYV Z0V (f:=Yz.cs) (λ_=>rfl) (λ_=>Zg _) h5 (λ_=>Zp) (by simp;omega) λv2 w5 h6=>?_;rw[List.nil_append] at h6;refine Zo h6 3 (vs:=c.cs) rfl (by rfl) rfl ?_;refine Zo h6 2 (vs:=m.cs) rfl (by rfl) rfl ?_;rw[Z0x];refine Zaf (Yz.cs ⟨c,m⟩) (by kernel_rfl) ?_;refine Zj7 ZYV (f:=Yz.cs) (λ_=>rfl) (λ_=>Zg _) h6 (x:=⟨c,m⟩) rfl (by omega) λv3 w6 h7=>?_;refine Zh<|Za<|Zpm h7 4 rfl (h7.own_cells 0 rfl) (Nat.le_of_ble_eq_true rfl) rfl λw7 h8=>?_;have:=hk w7;have c3:¬256<=l.length:=by omega
   simp only[Zw9,ZsN,if_neg c1,if_neg c3] at this;exact this<|ZNa<|h8.sn 5 [4,0]
theorem ZZT {k:Key} {x:Yz}:Zqc k x=!decide (ZeU x.cause k<0):=by
 unfold Zqc;by_cases h:ZeU x.cause k<0
 .rw[decide_eq_true h,decide_eq_false (by omega)];rfl
 .rw[decide_eq_false h,decide_eq_true (by omega)];rfl
theorem ZVZ {α:Type} {p:α->Bool} {l:List α} {j:Nat} {x:α} (hx:l[j]?=some x):(l.take<|j+1).filter p=(l.take j).filter p++if p x then [x] else []:=by
 rw[Zx hx,List.filter_append];cases hpx:p x <;> simp[hpx]
theorem ZZO {g:Nat} {fl:Int} {l:List Yz} (k:Key) (hS:Sat e w<|ZM8 g fl l::R) (hl:l.length<=1000000)
  (hk:∀v w',Sat e w' (Zz 85 6 Msg.cs v ((l.filter<|Zqc k).map Yz.m)::ZM8 g fl (l.filter λx=>!Zqc k x)::R)->K v w'):Cl prog 207 #[pt g,.agg k.cs.toArray] w K:=by
 obtain ⟨v,h1⟩:=ZYm hS;refine ZXy ?_;unfold ZWo;refine Yp (cs:=k.cs) h1 rfl λb3 w1 h2=>Zw3 h2 Msg.cs λv1 w2 h3=>Zw3 h3 Yz.cs λv2 w3 h4=>?_;refine ZIw (λz t5 t6 t7 w=>∃j:Nat,j<=l.length/\t7=Iw j/\z=l.length - j/\Sat e w (Zz 85 6 Msg.cs t5 (((l.take j).filter<|Zqc k).map Yz.m)::DR t6 ((l.take j).filter λx=>!Zqc k x)::blk b3 83 k.cs::
   blk g 236 [Iw fl,v]::DR v l::R)) l.length
  ⟨0,Nat.zero_le _,rfl,rfl,h4.sn 5 [1,0,2,3,4]⟩ ?_
 rintro z t5 t6 _ w g1 ⟨j,hj,rfl,rfl,h5⟩ hg;refine Zh<|Za<|Zb h5 3 rfl (v:=v) rfl<|Qln h5 4 rfl<|Za7 (λc=>Zi ?_)<|λc=>Zf ?_
 .obtain ⟨x,hx⟩:=Zk (l:=l) (j:=j) (by omega);have hn1:=List.length_filter_le (Zqc k)<|l.take j;have hn2:=List.length_filter_le (λx=>!Zqc k x)<|l.take j;have hn3:(l.take j).length<=1000000:=by simp;omega
  refine J2.cut (λt5 t6 w=>Sat e w<|Zz 85 6 Msg.cs t5 (((l.take<|j+1).filter<|Zqc k).map Yz.m)::DR t6 ((l.take<|j+1).filter λx=>!Zqc k x)::blk b3 83 k.cs::
   blk g 236 [Iw fl,v]::DR v l::R) (λk2 hcut=>?_)<|λt5 t6 w h6=>?_
  .refine ZaY h5 λw4 h6=>Zh<|Za<|Zb h6 3 rfl (v:=v) rfl<|Qix h6 4 rfl hx λp hp=>Zbd hp λp1 hp1=>Zn0 (us:=x.cause.cs) h6 4 rfl hp1 (by rfl) rfl ?_;refine Zo h6 2 (vs:=k.cs) rfl (by rfl) rfl ?_;refine ZLj h6 λw5 h7=>?_;rw[ZVZ hx,ZVZ hx] at hcut;refine Za7 (λc2=>Zi ?_)<|λc2=>Zf ?_
   .have hd:Zqc k x=false:=by rw[ZZT,decide_eq_true c2];rfl
    rw[hd] at hcut;refine Zh<|Za<|Zb h7 3 rfl (v:=v) rfl<|Qix h7 4 rfl hx λp hp=>Ym h7 4 rfl hp rfl<|Zj7 ZYV (f:=Yz.cs) (λ_=>rfl) (λ_=>Zg _) (h7.pick 1 rfl) (x:=x) rfl (by omega) λv' w6 h8=>?_;refine hcut _ _ _ ?_;simp only[Bool.false_eq_true,if_false,List.append_nil,Bool.not_false,if_true];exact h8.sn 5 [1,0,2,3,4]
   .have hd:Zqc k x=true:=by rw[ZZT,decide_eq_false c2];rfl
    rw[hd] at hcut;refine Zh<|Za<|Zb h7 3 rfl (v:=v) rfl<|Qix h7 4 rfl hx λp hp=>Zbd hp λp1 hp1=>Zn0 (us:=x.m.cs) h7 4 rfl hp1 (by rfl) rfl ?_;refine Zj7 ZYs (f:=Msg.cs) (λ_=>rfl) (λ_=>Zg _) h7 (x:=x.m) rfl (by rw[List.length_map];omega) λv' w6 h8=>?_;refine hcut _ _ _ ?_;simp only[Bool.not_true,Bool.false_eq_true,if_false,List.append_nil,if_true,List.map_append,List.map_cons,List.map_nil];exact h8
  .exact Qincs<|hg _ _ _ _ _ (by omega) ⟨j+1,by omega,rfl,rfl,h6⟩
 .obtain rfl:j=l.length:=by omega
  rw[List.take_length] at h5;exact Zh<|Za<|Zpm h5 3 rfl (h5.own_cells 1 rfl) (Nat.le_of_ble_eq_true rfl) rfl λw4 h6=>hk _ _<|Sat.swap<|ZNa<|h6.sn 5 [3,1,0]
structure Ins (G:List Yz) (x:Yz) (i:Nat) (d:Bool) (c:List Yz):Prop where
 no:d=false->c=G.take i/\∀z∈G.take i,ltC cfK x z=false
 yes:d=true->∃p y,p<i/\G[p]?=some y/\ltC cfK x y=true/\(∀z∈G.take p,ltC cfK x z=false)/\c=G.take p++x::(G.take i).drop p
theorem Ins.len {G:List Yz} {x:Yz} {i:Nat} {d:Bool} {c:List Yz} (h:Ins G x i d c) (_hi:i<=G.length):c.length<=i+1:=by
 cases d with
 | false=>rw[(h.no rfl).1,List.length_take];omega
 | true=>
  obtain ⟨p,y,hp,_,_,_,rfl⟩:=h.yes rfl;simp only[List.length_append,List.length_cons,List.length_take,List.length_drop];omega
theorem Ins.done {G:List Yz} {x:Yz} {c:List Yz} (h:Ins G x G.length true c) (ha:Asc (ltC cfK) G):c=mg (ltC cfK) G [x]:=by
 obtain ⟨p,y,hp,hy,hxy,hlo,rfl⟩:=h.yes rfl;rw[List.take_length];have hhi:=Zl6 ZrK ha hy hxy;have:=ZnU hlo hhi;rw[List.take_append_drop] at this;exact this.symm
theorem Ins.push {G:List Yz} {x:Yz} {c:List Yz} (h:Ins G x G.length false c):c++[x]=mg (ltC cfK) G [x]:=by
 obtain ⟨rfl,hlo⟩:=h.no rfl;rw[List.take_length] at hlo ⊢;have:=ZnU (lt:=ltC cfK) (y:=x) (L1:=G) (L2:=[]) hlo (λ_ h=>by cases h);rw[List.append_nil] at this;exact this.symm
theorem ZZC {g:Nat} {fl:Int} {l:List Yz} (t:Int) (hS:Sat e w<|ZM8 g fl l::R) (hl:l.length<=1000000)
  (hk:∀v w',Sat e w' (Zz 85 6 Msg.cs v ((Zs6 l t).map Yz.m)::ZM8 g (max fl t) (ZwV l t)::R)->K v w'):Cl prog 179 #[pt g,Iw t] w K:=by
 obtain ⟨v,h1⟩:=ZYm hS;refine ZXm ?_;unfold ZWp;refine Zw3 h1 Yz.cs λv1 w2 h2=>Zw3 h2 Yz.cs λv2 w3 h3=>?_;refine ZIw (λz t5 t6 t7 w=>∃j:Nat,j<=l.length/\t7=Iw j/\z=l.length - j/\Sat e w (DR t5 (ZeY (ltC cfK)<|(l.take j).filter<|Zo4 t)::DR t6 ((l.take j).filter λx=>!Zo4 t x)::
   blk g 236 [Iw fl,v]::DR v l::R)) l.length
  ⟨0,Nat.zero_le _,rfl,rfl,h3.sn 4 [1,0,2,3]⟩ ?_
 rintro z t5 t6 _ w g1 ⟨j,hj,rfl,rfl,h5⟩ hg;refine Zh<|Za<|Zb h5 2 rfl (v:=v) rfl<|Qln h5 3 rfl<|Za7 (λc=>Zi ?_)<|λc=>Zf ?_
 .obtain ⟨x,hx⟩:=Zk (l:=l) (j:=j) (by omega);have hn1:=List.length_filter_le (Zo4 t)<|l.take j;have hn2:=List.length_filter_le (λx=>!Zo4 t x)<|l.take j;have hn3:(l.take j).length<=1000000:=by simp;omega
  refine J2.cut (λt5 t6 w=>Sat e w<|DR t5 (ZeY (ltC cfK)<|(l.take<|j+1).filter<|Zo4 t)::DR t6 ((l.take<|j+1).filter λx=>!Zo4 t x)::
   blk g 236 [Iw fl,v]::DR v l::R) (λk2 hcut=>?_)<|λt5 t6 w h6=>?_
  .refine Zh<|Za<|Zb h5 2 rfl (v:=v) rfl<|Qix h5 3 rfl hx λp hp=>Ym h5 3 rfl hp rfl ?_;rw[Z0x];refine Yp (cs:=Yi [0,0,0,0,0,0,0,0,0]) h5 rfl λb w4 h6=>Zq h6 0 rfl (vs:=x.cs) rfl rfl (Nat.le_of_ble_eq_true rfl) (Zg _) (cs':=x.cs) (by kernel_rfl) λw5 h7=>?_
   replace h7:Sat e w5 (blk b 288 x.cs::DR t5 (ZeY (ltC cfK)<|(l.take j).filter<|Zo4 t)::DR t6 ((l.take j).filter λx=>!Zo4 t x)::blk g 236 [Iw fl,v]::DR v l::R):=h7
   refine Za<|Za<|Zb h7 0 rfl (v:=Iw x.cause.T) rfl ?_;rw[ZVZ hx,ZVZ hx] at hcut;refine Zu5 (λc2=>Zi ?_)<|λc2=>Zf ?_
   .have hd:Zo4 t x=false:=decide_eq_false (by omega);rw[hd] at hcut;refine Zo h7 0 (vs:=x.cs) rfl (by rfl) rfl ?_;refine Zj7 ZYV (f:=Yz.cs) (λ_=>rfl) (λ_=>Zg _) (h7.pick 2 rfl) (x:=x) rfl (by omega) λv' w6 h8=>?_;refine hcut _ _ _ ?_;simp only[Bool.false_eq_true,if_false,List.append_nil,Bool.not_false,if_true];exact h8.sn 5 [2,0,3,4]
   .have hd:Zo4 t x=true:=decide_eq_true (by omega);rw[hd] at hcut;simp only[Bool.not_true,Bool.false_eq_true,if_false,List.append_nil,if_true] at hcut;rw[Zep ZrK,Zsy] at hcut;have hGl:(ZeY (ltC cfK)<|(l.take j).filter<|Zo4 t).length<=1000000:=by rw[Yw];omega
    have hGa:Asc (ltC cfK) (ZeY (ltC cfK)<|(l.take j).filter<|Zo4 t):=Zf5 ZrK _;generalize ZeY (ltC cfK) ((l.take j).filter<|Zo4 t)=G at h7 hcut hGl hGa;refine Zw3 h7 Yz.cs λv3 w6 h8=>?_;refine ZIw (λz t9 t10 t11 w=>∃(i:Nat) (d:Bool) (c:List Yz),i<=G.length/\t10=.bool d/\t11=Iw i/\z=G.length - i/\Ins G x i d c/\Sat e w (DR t9 c::blk b 288 x.cs::DR t5 G::
      DR t6 ((l.take j).filter λx=>!Zo4 t x)::blk g 236 [Iw fl,v]::DR v l::R)) G.length
     ⟨0,false,[],Nat.zero_le _,rfl,rfl,rfl,⟨λ_=>⟨rfl,λ_ h=>by cases h⟩,λh=>by cases h⟩,h8⟩ ?_
    rintro z t9 _ _ w g3 ⟨i,d,c,hi,rfl,rfl,rfl,hins,h9⟩ hg3;have hcl:=hins.len hi;refine Qln h9 2 rfl<|Za7 (λc3=>Zi ?_)<|λc3=>Zf ?_
    .obtain ⟨y,hy⟩:=Zk (l:=G) (j:=i) (by omega);have hlast:∀t9 c' d' w,c'.length<=i+1->Ins G x (i+1) d' (c'++[y])->Sat e w (DR t9 c'::blk b 288 x.cs::DR t5 G::DR t6 ((l.take j).filter λx=>!Zo4 t x)::blk g 236 [Iw fl,v]::DR v l::R)->
       ixS 9 t5 (Iw (i:Int)) w λt68 w=>ldN 9 t68 w λt69 w=>bsl 288 9 1 (Yi [0,0,0,0,0,0,0,0,0]).toArray [(0,t69)] w λt70 w=>apS prog #[234,234] 234 t9 t70 w λt71 w=>
        bi .add .i64 (Iw (i:Int)) (Iw 1) w λt47 w=>g3 [t71,.bool d',t47] w:=by
      intro t9 c' d' w hc' hins' h10;refine Qix h10 2 rfl hy λp hp=>Ym h10 2 rfl hp rfl<|Zj7 ZYV (f:=Yz.cs) (λ_=>rfl) (λ_=>Zg _) h10 (x:=y) rfl (by omega) λv' w6 h11=>?_;exact Qincs<|hg3 _ _ _ _ _ (by omega) ⟨i+1,d',c'++[y],by omega,rfl,rfl,rfl,hins',h11⟩
     refine ZaY h9 λw7 h10=>?_;cases d with
     | true=>
      refine ZaJ<|Zu<|Zu<|Zu<|Zu<|Zu<|Zu<|Zu<|Zu<|Zu<|Yd<|Zf<|hlast _ c true _ hcl ⟨(λh=>by cases h),λ_=>?_⟩ h10;obtain ⟨p,y',hp,hy',hxy,hlo,rfl⟩:=hins.yes rfl;refine ⟨p,y',by omega,hy',hxy,hlo,?_⟩;rw[Zx hy,List.drop_append_of_le_length (by rw[List.length_take];omega)];simp
     | false=>
      obtain ⟨rfl,hlo⟩:=hins.no rfl;refine Zch<|Ze<|Za<|Ze<|Zo h10 1 (vs:=x.cause.cs) rfl (by rfl) rfl<|Ze<|Ze<|Ze<|Qix h10 2 rfl hy λp hp=>Ze<|Zbd hp λp1 hp1=>Ze<|Zn0 (us:=y.cause.cs) h10 2 rfl hp1 (by rfl) rfl ?_;refine Ze<|ZLj h10 λw8 h11=>Ze<|Za7 (λc4=>Yv<|Zi ?_)<|λc4=>Yv<|Zf ?_
      .refine Zo h11 1 (vs:=x.cs) rfl (by rfl) rfl ?_;refine Zj7 ZYV (f:=Yz.cs) (λ_=>rfl) (λ_=>Zg _) h11 (x:=x) rfl (by omega) λv' w9 h12=>?_;refine hlast _ (G.take i++[x]) true _ (by rw[List.length_append,List.length_take];simp;omega) ⟨(λh=>by cases h),λ_=>⟨i,y,by omega,hy,decide_eq_true c4,hlo,?_⟩⟩ h12;rw[Zx hy,List.drop_append_of_le_length (by rw[List.length_take];omega),List.drop_of_length_le (by rw[List.length_take];omega)];simp
      .refine hlast _ (G.take i) false _ hcl ⟨λ_=>⟨(Zx hy).symm,λz hz=>?_⟩,λh=>by cases h⟩ h11;rw[Zx hy] at hz;rcases List.mem_append.1 hz with h | h
       .exact hlo z h
       .rw[List.mem_singleton.1 h];exact decide_eq_false c4
    .obtain rfl:i=G.length:=by omega
     cases d with
     | true=>
      refine ZaJ<|Zf<|hcut _ _ _ ?_;rw[<-hins.done hGa];exact h9.sn 6 [0,3,4,5]
     | false=>
      refine Zch<|Zi<|Zo h9 1 (vs:=x.cs) rfl (by rfl) rfl ?_;refine Zj7 ZYV (f:=Yz.cs) (λ_=>rfl) (λ_=>Zg _) h9 (x:=x) rfl (by omega) λv' w9 h12=>?_;refine hcut _ _ _ ?_;rw[<-hins.push];exact h12.sn 6 [0,3,4,5]
  .exact Qincs<|hg _ _ _ _ _ (by omega) ⟨j+1,by omega,rfl,rfl,h6⟩
 .obtain rfl:j=l.length:=by omega
  rw[List.take_length] at h5;have hfl:=List.length_filter_le (Zo4 t) l;have hGl:(Zs6 l t).length<=1000000:=by unfold Zs6;rw[Yw];omega
  replace h5:Sat e w (DR t5 (Zs6 l t)::DR t6 (ZwV l t)::blk g 236 [Iw fl,v]::DR v l::R):=h5
  generalize Zs6 l t=G at h5 hGl hk;refine Zw3 h5 Msg.cs λv3 w6 h8=>?_;refine ZjF (λz t12 t13 w=>∃i:Nat,i<=G.length/\t13=Iw i/\z=G.length - i/\Sat e w (Zz 85 6 Msg.cs t12 ((G.take i).map Yz.m)::DR t5 G::DR t6 (ZwV l t)::blk g 236 [Iw fl,v]::DR v l::R)) G.length
   ⟨0,Nat.zero_le _,rfl,rfl,h8⟩ ?_
  rintro z t12 _ w g6 ⟨i,hi,rfl,rfl,h9⟩ hg6;refine Qln h9 1 rfl<|Za7 (λc3=>Zi ?_)<|λc3=>Zf ?_
  .obtain ⟨x,hx⟩:=Zk (l:=G) (j:=i) (by omega);refine Qix h9 1 rfl hx λp hp=>Zbd hp λp1 hp1=>Zn0 (us:=x.m.cs) h9 1 rfl hp1 (by rfl) rfl ?_;refine Zj7 ZYs (f:=Msg.cs) (λ_=>rfl) (λ_=>Zg _) h9 (x:=x.m) rfl (by simp;omega) λv' w6 h8=>?_;refine Qincs<|hg6 _ _ _ _ (by omega) ⟨i+1,by omega,rfl,rfl,?_⟩;rw[Zx hx,List.map_append];exact h8
  .obtain rfl:i=G.length:=by omega
   rw[List.take_length] at h9;exact Zh<|Za<|Zpm h9 3 rfl (h9.own_cells 2 rfl) (Nat.le_of_ble_eq_true rfl) (cs':=[Iw fl,t6]) rfl λw7 h10=>Zh<|Za<|Zb h10 3 rfl (v:=Iw fl) rfl<|ZwQ<|Zh<|Za<|Zq h10 3 rfl (vs:=[Iw<|max fl t]) rfl rfl (Nat.le_of_ble_eq_true rfl) (by simp[flat]) (cs':=[Iw<|max fl t,t6]) rfl λw8 h11=>hk _ _<|Sat.swap<|ZNa<|h11.sn 5 [3,2,0]
variable {L Q:List HP} {S S2:HP}
abbrev DE (v:Value) (xs:List EnX):HP:=Zz 246 10 EnX.cs v xs
theorem Zoz {v:Value} {l:List EnX} (i:Nat) (hi:L[i]?=some S) (hl:l.length<=1000000) (hff:∀x∈l,flat x.ov=true) (hS:Sat e w L) (hr:∀g,S g->rdS 10 EnX.cs v l g)
  (hk:∀v' w',Sat e w' (DE v' l::L)->K v' w'):Cl prog 195 #[v] w K:=by
 refine Zbo ?_;unfold ZaI;have h0:=hS.pick i hi;obtain ⟨A,c,rfl,_⟩:=h0.shape 0 rfl hr;cases A with
 | none=>
  refine Yn (w':=w) (v:=Bt) (by kernel_rfl) ?_;obtain rfl:=ZlK h0 hr;exact Zi (hk _ _<|unpick hi<|h0.own_nil 246 10 EnX.cs)
 | some a=>
  refine Yn (w':=w) (v:=Bf) (by kernel_rfl) ?_;refine Zf<|Zw3 h0 EnX.cs λv1 w2 h2=>Zcs Z00 Z05 (f:=EnX.cs) (λ_=>rfl) (λx hx=>EnX.flat<|hff x hx) h2 hr (by simp;omega) λv2 w3 h3=>?_;rw[List.nil_append] at h3;exact hk _ _<|unpick hi h3
theorem ZtE {v:Value} {xs:List EnX} (hl:xs.length<=1000000) (hff:∀x∈xs,flat x.ov=true) (hS:Sat e w<|DE v xs::Q) (hk:∀w',Sat e w' (DE v xs.reverse::Q)->K (.tuple #[]) w') :
  Cl prog 323 #[v] w K:=by
 refine Zbe ?_;unfold Zax;refine Qln hS 0 rfl<|Qsubs ?_;refine ZjF (λq t2 t3 w=>∃(i:Nat) (l:List EnX),2*i<=xs.length/\t2=Iw i/\t3=Iw ((xs.length:Int) - 1 - i)/\q=xs.length - i/\l.length=xs.length/\(∀p,p<xs.length->l[p]?=if p<i\/xs.length<=p+i then xs[xs.length - 1 - p]? else xs[p]?)/\Sat e w (DE v l::Q)) xs.length
  ⟨0,xs,by omega,rfl,by rw[Int.natCast_zero,Int.sub_zero],rfl,rfl,λp hp=>by rw[if_neg (by omega)],hS⟩ ?_
 rintro q _ _ w g ⟨i,l,hi2,rfl,rfl,rfl,hl2,hget,h2⟩ hg;refine Za7 (λc=>Zi ?_)<|λc=>Zf ?_
 .obtain ⟨j,hj⟩:∃j:Nat,(xs.length:Int) - 1 - i=j:=⟨xs.length - 1 - i,by omega⟩;rw[hj] at c ⊢;have hij:i<j:=by omega
  have hjl:j=xs.length - 1 - i:=by omega
  have gi:=hget i (by omega);have gj:=hget j (by omega);rw[if_neg (by omega)] at gi gj;obtain ⟨x,hx⟩:=Zk (l:=xs) (j:=i) (by omega);obtain ⟨y,hy⟩:=Zk (l:=xs) (j:=j) (by omega);rw[hx] at gi;rw[hy] at gj;have fx:=hff x<|List.mem_of_getElem? hx;have fy:=hff y<|List.mem_of_getElem? hy;refine ZaY h2 λw3 h3=>Qix h3 0 rfl gj λa ha=>Ym h3 0 rfl ha rfl<|Qix h3 0 rfl gi λa ha=>Ym h3 0 rfl ha rfl<|ZdJ h3 0 rfl (λ_=>rfl) (by omega) (x:=y) rfl (EnX.flat fy) λw4 h4=>ZdJ h4 0 rfl (λ_=>rfl) (by rw[List.length_set];omega) (x:=x) rfl (EnX.flat fx) λw5 h5=>Qadds<|Qsubs<|hg _ _ _ _ (by omega) ⟨i+1,(l.set i y).set j x,by omega,by rw[Int.natCast_add];rfl,by rw[<-hj,Int.natCast_add];congr 1;omega,rfl,by rw[List.length_set,List.length_set];exact hl2,λp hp=>?_,h5⟩;rw[List.getElem?_set,List.getElem?_set];by_cases h1:j=p
  .subst h1;rw[if_pos rfl,if_pos (by rw[List.length_set];omega),if_pos (by omega),show xs.length - 1 - j=i from by omega,hx]
  .rw[if_neg h1];by_cases h6:i=p
   .subst h6;rw[if_pos rfl,if_pos (by omega),if_pos (by omega),<-hjl,hy]
   .rw[if_neg h6,hget p hp];by_cases h7:p<i\/xs.length<=p+i
    .rw[if_pos h7,if_pos (by omega)]
    .rw[if_neg h7,if_neg (by omega)]
 .have he:l=xs.reverse:=by
   apply List.ext_getElem?;intro p;by_cases hp:p<xs.length
   .rw[hget p hp,List.getElem?_reverse hp];by_cases h7:p<i\/xs.length<=p+i
    .rw[if_pos h7]
    .rw[if_neg h7];congr 1;omega
   .rw[List.getElem?_eq_none (by omega),List.getElem?_eq_none (by rw[List.length_reverse];omega)]
  rw[he] at h2;exact hk _ h2
def Zmb (k:Key) (l:List En):List En:=l.filter λx=>decide<|Zv x.m.key k
def Zqh (k:Key) (l:List En):List En:=l.filter λx=>!decide (Zv x.m.key k)
def Zx0 (t:Int) (l:List En):List En:=l.filter λx=>decide<|x.m.key.T<t
def ZzN (t:Int) (l:List En):List En:=l.filter λx=>!decide (x.m.key.T<t)
theorem ZkM.sub {l l':List En} (h:ZkM l) (s:l'.Sublist l):ZkM l':=⟨h.up.sublist s,Nat.le_trans s.length_le h.len,λx hx=>h.outs x<|s.subset hx⟩
theorem Zx7 {P:En->Bool} {xs:List EnX} {l:List En} {m:Nat} (he:xs.map EnX.e=l) (h1:∀x∈xs.take m,P x.e=true) (h2:∀x∈xs.drop m,P x.e=false) :
  (xs.take m).map EnX.e=l.filter P/\(xs.drop m).map EnX.e=l.filter λx=>!P x:=by
 subst he;constructor
 .conv=>rhs;rw[<-List.take_append_drop m xs]
  rw[List.map_append,List.filter_append,List.filter_eq_self.2 λx hx=>by obtain ⟨y,hy,rfl⟩:=List.mem_map.1 hx;exact h1 y hy,List.filter_eq_nil_iff.2 λx hx=>by obtain ⟨y,hy,rfl⟩:=List.mem_map.1 hx;rw[h2 y hy];decide,List.append_nil]
 .conv=>rhs;rw[<-List.take_append_drop m xs]
  rw[List.map_append,List.filter_append,List.filter_eq_nil_iff.2 λx hx=>by obtain ⟨y,hy,rfl⟩:=List.mem_map.1 hx;rw[h1 y hy];decide,List.filter_eq_self.2 λx hx=>by obtain ⟨y,hy,rfl⟩:=List.mem_map.1 hx;rw[h2 y hy];rfl,List.nil_append]
theorem ZEw {xs:List EnX} {l:List En} (he:xs.map EnX.e=l) (hp:ZkM l) {i j:Nat} {x y:EnX} (hij:i<=j) (hx:xs[i]?=some x) (hy:xs[j]?=some y):x=y\/Zv x.m.key y.m.key:=by
 rcases Nat.eq_or_lt_of_le hij with rfl | hlt
 .rw[hx] at hy;exact .inl<|Option.some.inj hy
 .right;subst he;have h1:=List.pairwise_map.1 hp.up;obtain ⟨hi',rfl⟩:=List.getElem?_eq_some_iff.1 hx;obtain ⟨hj',rfl⟩:=List.getElem?_eq_some_iff.1 hy;exact List.pairwise_iff_getElem.1 h1 i j hi' hj' hlt
theorem Zq7 {p:Nat} {fl:Int} {l:List En} {k:Key} (hS:Sat e w<|Yf p fl l::Q) (hk:∀v w',Sat e w' (Zwo v (Zqh k l).reverse::Yf p fl (Zmb k l)::Q)->K v w') :
  Cl prog 317 #[pt p,.agg k.cs.toArray] w K:=by
 refine ZgM ?_;unfold Zg6;obtain ⟨lv,xs,hp,h0⟩:=Zfr hS;have hxl:xs.length<=64:=by have:=hp.2.len;rw[<-hp.1,List.length_map] at this;exact this
 have hfl:∀x∈xs,flat x.ov=true:=λx hx=>ZlV 2 h0 rfl hx;refine Yp (cs:=k.cs) h0 rfl λb w1 h1=>Zo h1 0 (vs:=k.cs) rfl (by rfl) rfl ?_;refine Zyc (P:=λx=>decide<|Zv x.m.key k) hxl ⟨rfl,rfl⟩ (λi j x y hij hx hy hP=>?_) (λx w L K h hk=>Zsa x k h hk) (h1.sn 4 [1,2,3,0]) λm w2 hm hlo hhi h2=>?_
 .rw[decide_eq_true_iff] at*;rcases ZEw hp.1 hp.2 hij hx hy with rfl | hlt
  .exact hP
  .exact hlt.trans hP
 obtain ⟨c1,c2⟩:=Zx7 (P:=λx=>decide<|Zv x.m.key k) hp.1 hlo hhi;refine Zh (Za<|Zb h2 0 rfl (v:=lv) rfl<|Zox h2 1 rfl (λ_=>Zp) (λ_=>rfl) hm λv1 hv1=>Zoz 1 rfl (by rw[List.length_drop];omega) (λx hx=>hfl x<|List.mem_of_mem_drop hx) h2 hv1 λv2 w3 h3=>ZtE (by rw[List.length_drop];omega) (λx hx=>hfl x<|List.mem_of_mem_drop hx) h3 λw4 h4=>Zh<|Za<|Zb h4 1 rfl (v:=lv) rfl<|ZuF h4 2 rfl (λ_=>rfl) hm λv3 h5=>?_)
 replace h5:Sat e w4 (DE v2 (xs.drop m).reverse::blk p 224 [Iw fl,lv]::DE v3 (xs.take m)::Yh (xs.map ZcP)::blk b 83 k.cs::Q):=h5
 have q3:=h5.own_cells 2 rfl;refine Zh (Za<|Zq h5 1 rfl (vs:=[v3]) q3.1 rfl (Nat.le_of_ble_eq_true rfl) (λc hc=>by rw[List.mem_singleton.1 hc];exact q3.2) (cs':=[Iw fl,v3]) (by rfl) λw5 h6=>?_)
 replace h6:Sat e w5 (DE v2 (xs.drop m).reverse::blk p 224 [Iw fl,v3]::DE v3 (xs.take m)::Yh (xs.map ZcP)::blk b 83 k.cs::Q):=h6
 rw[show xs.map ZcP=(xs.take m).map ZcP++(xs.drop m).map ZcP from by rw[<-List.map_append,List.take_append_drop]] at h6;have h7:=Zne<|h6.pick 3 rfl;have h8:=Zt0 (b:=(xs.drop m).reverse.map ZcP) (by rw[List.map_reverse];exact (List.reverse_perm _).symm) h7.swap
 replace h8:Sat e w5 (Yh ((xs.drop m).reverse.map ZcP)::Yh ((xs.take m).map ZcP)::DE v2 (xs.drop m).reverse::blk p 224 [Iw fl,v3]::DE v3 (xs.take m)::blk b 83 k.cs::Q):=h8
 have h9:=Zh1 (fl:=fl) (lv:=v3) (xs:=xs.take m) (l:=Zmb k l) ⟨c1,hp.2.sub List.filter_sublist⟩<|h8.sn 6 [3,4,1,2,0];have h10:=ZxK (v:=v2) (xs:=(xs.drop m).reverse)<|h9.sn 3 [1,2,0];rw[show (xs.drop m).reverse.map EnX.e=(Zqh k l).reverse from by rw[List.map_reverse,c2];rfl] at h10;exact hk _ _ h10
theorem Zoq {p:Nat} {fl:Int} {l:List En} {t:Int} (hS:Sat e w<|Yf p fl l::Q) (hk:∀v w',Sat e w' (Zwo v (Zx0 t l)::Yf p (max fl t) (ZzN t l)::Q)->K v w') :
  Cl prog 155 #[pt p,Iw t] w K:=by
 refine Ze3 ?_;unfold Zey;obtain ⟨lv,xs,hp,h1⟩:=Zfr hS;have hxl:xs.length<=64:=by have:=hp.2.len;rw[<-hp.1,List.length_map] at this;exact this
 have hfl:∀x∈xs,flat x.ov=true:=λx hx=>ZlV 2 h1 rfl hx;refine Zaf (Yi [t,0,0]) (by kernel_rfl) ?_;refine Zyc (k:=⟨t,0,0⟩) (P:=λx=>decide<|x.m.key.T<t) hxl ⟨rfl,rfl⟩ (λi j x y hij hx hy hP=>?_) (λx w L K h hk=>ZwO x ⟨t,0,0⟩ h hk) h1 λm w2 hm hlo hhi h2=>?_
 .rw[decide_eq_true_iff] at*;rcases ZEw hp.1 hp.2 hij hx hy with rfl | hlt
  .exact hP
  .unfold Zv at hlt;omega
 obtain ⟨c1,c2⟩:=Zx7 (P:=λx=>decide<|x.m.key.T<t) hp.1 hlo hhi;refine Zh<|Za<|Zb h2 0 rfl (v:=lv) rfl<|ZD8 h2 1 rfl (λ_=>Zp) (λ_=>rfl) hm λv1 hv1=>Zoz 1 rfl (by rw[List.length_take];omega) (λx hx=>hfl x<|List.mem_of_mem_take hx) h2 hv1 λv2 w3 h3=>Zh<|Za<|Zb h3 1 rfl (v:=lv) rfl<|Zox h3 2 rfl (λ_=>Zp) (λ_=>rfl) hm λv3 hv3=>Zoz 2 rfl (by rw[List.length_drop];omega) (λx hx=>hfl x<|List.mem_of_mem_drop hx) h3 hv3 λv4 w4 h4=>?_;have q4:=h4.own_cells 0 rfl;refine Zh<|Za<|Zq h4 2 rfl (vs:=[v4]) q4.1 rfl (Nat.le_of_ble_eq_true rfl) (λc hc=>by rw[List.mem_singleton.1 hc];exact q4.2) (cs':=[Iw fl,v4]) (by rfl) λw5 h5=>?_;refine Zh (Za<|Zb h5 2 rfl (v:=Iw fl) rfl<|ZwQ<|Zh<|Za<|Zq h5 2 rfl (vs:=Yi [max fl t]) rfl rfl (Nat.le_of_ble_eq_true rfl) (Zg _) (cs':=[Iw<|max fl t,v4]) (by rfl) λw6 h6=>?_)
 replace h6:Sat e w6 (DE v4 (xs.drop m)::DE v2 (xs.take m)::blk p 224 [Iw<|max fl t,v4]::DE lv xs::Yh (xs.map ZcP)::Q):=h6
 rw[show xs.map ZcP=(xs.take m).map ZcP++(xs.drop m).map ZcP from by rw[<-List.map_append,List.take_append_drop]] at h6;have h7:=Zne (h6.pick 4 rfl)
 replace h7:Sat e w6 (Yh ((xs.take m).map ZcP)::Yh ((xs.drop m).map ZcP)::DE v4 (xs.drop m)::DE v2 (xs.take m)::blk p 224 [Iw<|max fl t,v4]::DE lv xs::Q):=h7
 have h9:=Zh1 (fl:=max fl t) (lv:=v4) (xs:=xs.drop m) (l:=ZzN t l) ⟨c2,hp.2.sub List.filter_sublist⟩<|h7.sn 6 [4,2,1,3,0];have h10:=ZxK (v:=v2) (xs:=xs.take m)<|h9.sn 3 [1,2,0];rw[c1] at h10;exact hk _ _ h10
theorem ZE3 {op:BinOp} {t:TypeId} {xo yo:Operand} {x y v:Value} (h1:(eqGuard op t xo yo x y).run prog w=.ok () w) (h2:(binOp op t x y).run prog w=.ok v w) (hk:K v w):bO prog op t xo yo x y w K:=
 Yn (w':=w) (v:=v) (by simp only[Sem.run_bind,h1,Result.andThen_ok,h2]) hk
noncomputable def ZxI (t a:TypeId):Bool:=match prog.underlying a,prog.info? t,prog.info? a with
 | some (.interface want),some i,some j=>!(Go.lacking want i.methods).isEmpty&&(match j.zero with | some .nilIface=>true | _=>false)
 | _,_,_=>false
noncomputable def ZGN (t a:TypeId):Bool:=match prog.underlying a,prog.info? t with
 | some (.interface want),some i=>(Go.lacking want i.methods).isEmpty
 | _,_=>false
theorem Zjb {t a xt:TypeId} {v:Value} (h:ZxI t a=true) (hk:K (.tuple #[.nilIface,Bf]) w):tyA prog (.iface t v) xt a true w K:=by
 unfold ZxI at h;split at h
 .rename_i want i j hu hi hj;rw[Bool.and_eq_true] at h;have hz:j.zero=some .nilIface:=by
   have:=h.2;split at this
   .assumption
   .cases this
  refine Yn (w':=w) (v:=.tuple #[.nilIface,Bf]) ?_ hk;exact run_typeAssert_lacks hu hi hj hz λe=>by rw[e] at h;simp at h
 .cases h
theorem ZyP {t a xt:TypeId} {v:Value} (h:ZGN t a=true) (hk:K (.tuple #[.iface t v,Bt]) w):tyA prog (.iface t v) xt a true w K:=by
 unfold ZGN at h;split at h
 .rename_i want i hu hi;refine Yn (w':=w) (v:=.tuple #[.iface t v,Bt]) ?_ hk;exact run_typeAssert_has hu hi<|List.isEmpty_iff.1 h
 .cases h
theorem Zw0 (v:Value) (w:World):(Extern.ReflectliteType.typeOf #[.iface 30 v]).run prog w=.ok (.iface 385 (.agg #[typeHandle prog 30])) w:=by kernel_rfl
theorem Zxn {n:Value} (hk:K (.iface 385 (.agg #[typeHandle prog 30])) w):Cl prog 320 #[.iface 30 n] w K:=by
 have h8:=@run_callFunc_extern prog 320 _ Extern.ReflectliteType.typeOf Tryz.func320 (by kernel_rfl) (by kernel_rfl) (by kernel_rfl) (by kernel_rfl);have h9:ex prog (oV<|pure (.iface 385 (.agg #[typeHandle prog 30]))) w K:=@Yn prog w K (pure (.iface 385 (.agg #[typeHandle prog 30]))) (.iface 385 (.agg #[typeHandle prog 30])) w (Sem.run_pure ..) hk;have e9:(callFunc 320 #[.iface 30 n]).run prog w=(oV<|pure (.iface 385 (.agg #[typeHandle prog 30]))).run prog w:=by
  rw[h8];unfold oV;simp only[Sem.run_bind,Zw0,Result.andThen_ok,Sem.run_pure]
 exact @Zi5 prog w K _ _ e9 h9
theorem Zz5 {P:Program} {x r:Value} {name:String} {args:Array Value} {w:World} {K:KV} (h:(invoke (.fn (.method name) #[])<|#[x]++args).run P w=.ok (.value r) w) (hk:K r w):clI P x name args w K:=by
 unfold clI ex;rw[h];exact hk
theorem ZAF (w:World):(invoke (.fn (.method "Comparable") #[])<|#[.iface 385 (.agg #[typeHandle prog 30])]++#[]).run prog w=.ok (.value Bt) w:=by kernel_rfl
theorem ZEJ (hk:K Bt w):clI prog (.iface 385 (.agg #[typeHandle prog 30])) "Comparable" #[] w K:=
 @Zz5 prog (.iface 385 (.agg #[typeHandle prog 30])) Bt "Comparable" #[] w K (ZAF w) hk
abbrev erV (t:Nat):Value:=.iface 373<|pt t
abbrev noV (n:Int):Value:=.iface 30<|Iw n
def BT (t:Nat) (k:Key) (er:Int):HP:=blk t 375<|k.cs++[noV er]
theorem Zu8 {n:Int} {xo yo:Operand} (hk:K Bf w):bO prog .eql 355 xo yo (noV n) .nilIface w K:=Yn (w':=w) (v:=Bf) (by kernel_rfl) hk
theorem Zzx {t:Nat} {xo yo:Operand} (hk:K Bf w):bO prog .eql 355 xo yo (erV t) .nilIface w K:=Yn (w':=w) (v:=Bf) (by kernel_rfl) hk
theorem Zus {t:Nat} {xo yo:Operand} (hk:K Bt w):bO prog .neq 355 xo yo (erV t) .nilIface w K:=Yn (w':=w) (v:=Bt) (by kernel_rfl) hk
theorem Zvk {a:Nat} (hk:K Bf w):bO prog .neq 355 (.tmp a) (.const .nilIface) .nilIface .nilIface w K:=Yn (w':=w) (v:=Bf) (by kernel_rfl) hk
theorem Zy7 {a:Nat} (hk:K Bt w):bO prog .eql 355 (.tmp a) (.const .nilIface) .nilIface .nilIface w K:=Yn (w':=w) (v:=Bt) (by kernel_rfl) hk
theorem ZFP {n:Int} {xo yo:Operand} (hk:K Bf w):bO prog .eql 355 xo yo .nilIface (noV n) w K:=Yn (w':=w) (v:=Bf) (by kernel_rfl) hk
theorem ZGg {t:Nat} {n:Int} {xo yo:Operand} (hk:K Bf w):bO prog .eql 355 xo yo (erV t) (noV n) w K:=Yn (w':=w) (v:=Bf) (by kernel_rfl) hk
theorem ZF9 {a b:Int} {xo yo:Operand} (hk:K (.bool<|a==b) w):bO prog .eql 355 xo yo (noV a) (noV b) w K:=
 ZE3 (by kernel_rfl) (Lib.run_eql_iface_int w a b Tryz.underlying355 (by kernel_rfl) Tryz.underlying30) hk
theorem ZIx {t:Nat} {k:Key} {er n:Int} (i:Nat) (hi:L[i]?=some (BT t k er)) (hS:Sat e w L) (hk:K (.bool<|er==n) w):Cl prog 321 #[erV t,noV n,Bt] w K:=by
 refine Zl8<|Zdk (λq x w'=>((q=1/\x=erV t)\/(q=0/\x=noV er))/\w'=w) 1 ⟨.inl ⟨rfl,rfl⟩,rfl⟩ ?_;rintro q x w' g ⟨hx,rfl⟩ hg;refine Ze<|Ze<|Ze ?_;rcases hx with ⟨rfl,rfl⟩ | ⟨rfl,rfl⟩
 .refine ZGg<|Yv<|Zf<|Zjb (by kernel_rfl)<|Zam<|Zal<|Zu<|Zu<|Zu<|Yd<|Zf<|ZyP (by kernel_rfl)<|Zal<|Zam<|Zi<|Zrj (f:=340) (rcv:=pt t) (by kernel_rfl) ?_;exact ZdD (t0:=pt t)<|Zh<|Za<|Zb hS i hi (v:=noV er) rfl<|Zu8<|Zf<|hg _ _ _ (by omega) ⟨.inr ⟨rfl,rfl⟩,rfl⟩
 .refine ZF9<|Yv ?_;cases hb:(er==n) with
  | true=>rw[hb] at hk;exact Zi hk
  | false=>
   rw[hb] at hk;exact Zf<|Zjb (by kernel_rfl)<|Zam<|Zal<|Zu<|Zu<|Zu<|Yd<|Zf<|Zjb (by kernel_rfl)<|Zal<|Zam<|Zf<|Zjb (by kernel_rfl)<|Zal<|Zam<|Zf hk
theorem ZIp {t:Nat} {k:Key} {er n:Int} (i:Nat) (hi:L[i]?=some (BT t k er)) (hS:Sat e w L) (hk:K (.bool<|er==n) w):Cl prog 310 #[erV t,noV n] w K:=by
 exact Zfm<|Zzx<|Zj<|Zj<|Zu8<|Yd<|Zf<|Zxn<|ZEJ<|ZIx i hi hS hk
theorem ZEu {n:Int} (hk:K Bf w):Cl prog 310 #[.nilIface,noV n] w K:=by
 exact Zfm<|Zy7<|Zd<|Zd<|Yv<|Zi<|ZFP hk
def ZtO (er:Int):Prop:=er=110\/er=3\/er=4\/er=2
theorem ZzY {t:Nat} {k:Key} {er:Int} (hS:Sat e w<|BT t k er::Q) (he:ZtO er) (hk:∀w',Sat e w' Q->K (Iw er) w'):Cl prog 300 #[erV t] w K:=by
 refine ZeI ?_;unfold Zkf;refine Zfk (Yi [110,3,4,2]) hS (by kernel_rfl) λb w2 h2=>?_;have hr:∀g,blk b 30 (Yi [110,3,4,2]) g->rdS 1 (Ye .i64) (.slice (some ⟨b,0,none⟩) 4 4) [110,3,4,2] g:=Zbx (f:=Ye .i64) [110,3,4,2] rfl<|Nat.le_refl _;refine Zt h2 0 rfl hr<|Zdk (λq x w'=>∃j:Nat,x=Iw j/\j<=4/\q=4 - j/\(∀n∈[(110:Int),3,4,2].take j,n≠er)/\w'=w2) 4 ⟨0,rfl,by omega,rfl,by simp,rfl⟩ ?_;rintro q x w' g ⟨j,rfl,hj,rfl,hno,rfl⟩ hg;refine Za7 (λc=>Zi ?_) (λc=>Zf ?_)
 .replace c:(j:Int)<4:=c
  obtain ⟨n,hn⟩:=Zk (l:=[(110:Int),3,4,2]) (j:=j) (by simp;omega);refine Zw h2 0 rfl hr (λ_=>rfl) hn λa ha=>Yt h2 0 rfl ha (v:=Iw n) rfl<|ZIp 1 rfl h2 ?_;by_cases hen:er=n
  .rw[beq_iff_eq.2 hen];refine Zi ?_;rw[<-hen];exact hk _ h2.drop.drop
  .rw[beq_eq_false_iff_ne.2 hen];refine Zf<|Qincs<|hg _ _ _ (by omega) ⟨j+1,rfl,by omega,rfl,λy hy=>?_,rfl⟩;rw[Zx hn] at hy;rcases List.mem_append.1 hy with h | h
   .exact hno y h
   .rw[List.mem_singleton.1 h];exact λh=>hen h.symm
 .exfalso
  replace c:¬(j:Int)<4:=c
  have ej:j=4:=by omega
  subst ej;rcases he with rfl | rfl | rfl | rfl
  .exact hno 110 (by decide) rfl
  .exact hno 3 (by decide) rfl
  .exact hno 4 (by decide) rfl
  .exact hno 2 (by decide) rfl
theorem Zvr (hS:Sat e w Q) (hk:∀w',Sat e w' Q->K (Iw 0) w'):Cl prog 300 #[.nilIface] w K:=by
 refine ZeI ?_;unfold Zkf;refine Zfk (Yi [110,3,4,2]) hS (by kernel_rfl) λb w2 h2=>?_;have hr:∀g,blk b 30 (Yi [110,3,4,2]) g->rdS 1 (Ye .i64) (.slice (some ⟨b,0,none⟩) 4 4) [110,3,4,2] g:=Zbx (f:=Ye .i64) [110,3,4,2] rfl<|Nat.le_refl _;refine Zt h2 0 rfl hr<|Zdk (λq x w'=>∃j:Nat,x=Iw j/\j<=4/\q=4 - j/\w'=w2) 4 ⟨0,rfl,by omega,rfl,rfl⟩ ?_;rintro q x w' g ⟨j,rfl,hj,rfl,rfl⟩ hg;refine Za7 (λc=>Zi ?_) (λc=>Zf<|hk _ h2.drop)
 replace c:(j:Int)<4:=c
 obtain ⟨n,hn⟩:=Zk (l:=[(110:Int),3,4,2]) (j:=j) (by simp;omega);exact Zw h2 0 rfl hr (λ_=>rfl) hn λa ha=>Yt h2 0 rfl ha (v:=Iw n) rfl<|ZEu<|Zf<|Qincs<|hg _ _ _ (by omega) ⟨j+1,rfl,by omega,rfl,rfl⟩
theorem Zqi {k:Key} {er:Int} (hS:Sat e w Q) (hk:∀t w',Sat e w' (BT t k er::Q)->K (erV t) w'):Cl prog 306 #[.agg k.cs.toArray,Iw er] w K:=by
 refine Zmd ?_;unfold Zpt;refine Yp (cs:=k.cs) hS rfl λb w1 h1=>Zo h1 0 (vs:=k.cs) rfl (by rfl) rfl ?_;refine Zaf (k.cs++[noV er]) (by kernel_rfl) ?_;exact Yp (cs:=k.cs++[noV er]) h1 rfl λt w2 h2=>hk t _<|h2.sn 2 [0]
structure Zan where
 (n begun over:Int) (T Rp:Nat->Int) (on0 on1 least value:Int)
def Zan.ns (c:Zan):List Int:=[c.n,c.begun,c.over,c.T 0,c.Rp 0,c.T 1,c.Rp 1,c.T 2,c.Rp 2,c.T 3,c.Rp 3,c.T 4,c.Rp 4,c.T 5,c.Rp 5,c.T 6,c.Rp 6,c.T 7,c.Rp 7,c.on0,c.on1,c.least,c.value]
def Zan.zero (n:Int):Zan:=⟨n,0,0,λ_=>0,λ_=>0,0,0,0,0⟩
def ZBt (f:Nat->Int) (i:Nat) (x:Int):Nat->Int:=λk=>if k=i then x else f k
def ZbI (g:Nat) (c:Zan):HP:=blk g 167<|Yi c.ns
theorem Zlc (c:Zan):∀j,j<8->((Yi c.ns).drop<|3+j*2).take 2=Yi [c.T j,c.Rp j]
 | 0,_=>rfl | 1,_=>rfl | 2,_=>rfl | 3,_=>rfl | 4,_=>rfl | 5,_=>rfl | 6,_=>rfl | 7,_=>rfl
 | n+8,h=>by omega
theorem ZFL (c:Zan):∀j,j<8->(Yi c.ns)[3+j*2+0]?=some (Iw<|c.T j)
 | 0,_=>rfl | 1,_=>rfl | 2,_=>rfl | 3,_=>rfl | 4,_=>rfl | 5,_=>rfl | 6,_=>rfl | 7,_=>rfl
 | n+8,h=>by omega
theorem Zxs (c:Zan) (x:Int):∀j,j<8->wrL (Yi c.ns) (3+j*2+0) [Iw x]=Yi (Zan.ns { c with T:=ZBt c.T j x })
 | 0,_=>rfl | 1,_=>rfl | 2,_=>rfl | 3,_=>rfl | 4,_=>rfl | 5,_=>rfl | 6,_=>rfl | 7,_=>rfl
 | n+8,h=>by omega
theorem Zv0 (c:Zan) (x:Int):∀j,j<8->wrL (Yi c.ns) (3+j*2+1) [Iw x]=Yi (Zan.ns { c with Rp:=ZBt c.Rp j x })
 | 0,_=>rfl | 1,_=>rfl | 2,_=>rfl | 3,_=>rfl | 4,_=>rfl | 5,_=>rfl | 6,_=>rfl | 7,_=>rfl
 | n+8,h=>by omega
theorem ZdC (c:Zan):(Yi c.ns).length=23:=rfl
theorem ZuG {n:Int} (h1:1<=n) (h2:n<=8) (hS:Sat e w R) (hk:∀g w',Sat e w' (ZbI g (Zan.zero n)::R)->K (.tuple #[pt g,Iw 0]) w'):Cl prog 28 #[Iw n] w K:=by
 refine ZoD ?_;unfold Zvg;refine Qltf<|Zj<|Ze<|Qgtf<|Yd<|Zf ?_;rw[Z1n];refine Zaf (Yi (Zan.zero n).ns) (by kernel_rfl) ?_;exact Yp (cs:=Yi (Zan.zero n).ns) hS rfl λg w2 h2=>hk _ _ h2
theorem ZjA {g:Nat} {c:Zan} {i:Int} (hS:Sat e w<|ZbI g c::R) (hk:K (.bool<|decide<|0<=i/\i<c.n) w):Cl prog 94 #[pt g,Iw i] w K:=by
 refine Zk7 ?_;unfold Zns;refine Zu5 (λc1=>?_)<|λc1=>?_
 .refine Ze<|Ze<|Ze<|Zh<|Ze<|Za<|Ze<|Zb hS 0 rfl (v:=Iw c.n) rfl<|Ze<|ZwL<|Yv ?_;rw[show decide (0<=i/\i<c.n)=decide (i<c.n) from by simp[c1]] at hk;exact hk
 .refine Zu<|Zu<|Zd<|Zd<|Zd<|Zd<|Yd ?_;rw[show decide (0<=i/\i<c.n)=false from by simp;omega] at hk;exact hk
theorem Zel {g:Nat} {c:Zan} (hS:Sat e w<|ZbI g c::R) (hk:∀w',Sat e w' (ZbI g c::R)->K (.bool<|decide<|c.over<c.begun) w'):Cl prog 93 #[pt g] w K:=by
 exact Zh7<|ZaY hS λw1 h1=>Zh<|Za<|Zb h1 0 rfl (v:=Iw c.begun) rfl<|Zh<|Za<|Zb h1 0 rfl (v:=Iw c.over) rfl<|ZFJ<|hk _ h1
theorem Zrc {g:Nat} {c:Zan} (hS:Sat e w<|ZbI g c::R) (hk:K (Iw c.value) w):Cl prog 54 #[pt g] w K:=by
 exact Zhn<|Zh<|Za<|Zb hS 0 rfl (v:=Iw c.value) rfl hk
theorem ZfD {g:Nat} {c:Zan} (hS:Sat e w<|ZbI g c::R) (hk:K (Iw c.over) w):Cl prog 97 #[pt g] w K:=by
 exact ZgA<|Zh<|Za<|Zb hS 0 rfl (v:=Iw c.over) rfl hk
theorem Zo0 {g:Nat} {c:Zan} {i:Nat} (hi:i<8) (hin:(i:Int)<c.n) (hS:Sat e w<|ZbI g c::R) (hk:K (Iw<|c.T i % 2) w):Cl prog 149 #[pt g,Iw i] w K:=by
 refine ZgH<|ZjA hS ?_;rw[decide_eq_true (show 0<=(i:Int)/\(i:Int)<c.n from ⟨by omega,hin⟩)];exact ZaJ<|Zf<|Zh<|Za<|Zcb hi<|Za<|Zb hS 0 rfl (ZFL c i hi)<|ZxU hk
theorem Zqy {g:Nat} {c:Zan} (hb:0<=c.begun/\c.begun<=1000000) (hS:Sat e w<|ZbI g c::R)
  (hk:∀w',Sat e w' (ZbI g (if c.over<c.begun then c else { c with begun:=c.begun+1,least:=Inf })::R)->K (Iw<|if c.over<c.begun then 130 else 0) w'):Cl prog 42 #[pt g] w K:=by
 refine Zh4<|Zel hS λw1 h1=>?_;by_cases hu:c.over<c.begun
 .rw[if_pos hu,if_pos hu] at hk;rw[decide_eq_true hu];exact Zi<|hk _ h1
 .rw[if_neg hu,if_neg hu] at hk;rw[decide_eq_false hu];refine Zf<|Zh<|Za<|Zb h1 0 rfl (v:=Iw c.begun) rfl<|Qadds<|Zh<|Za<|Zq h1 0 rfl (vs:=[Iw<|c.begun+1]) rfl rfl (by rw[ZdC];decide) (by simp[flat]) (cs':=Yi<|Zan.ns { c with begun:=c.begun+1 }) (by rfl) λw2 h2=>?_;refine Zh<|Za<|Zq h2 0 rfl (vs:=[Iw Inf]) rfl rfl (by rw[ZdC];decide) (by simp[flat]) (cs':=Yi<|Zan.ns { c with begun:=c.begun+1,least:=Inf }) (by rfl) λw3 h3=>?_;exact hk _ h3
theorem Zou {t r q:Int} (hS:Sat e w R) (hk:∀w',Sat e w' R->K (.bool<|decide<|t=q) w'):Cl prog 95 #[.agg (Yi [t,r]).toArray,Iw q] w K:=by
 refine ZgN ?_;unfold Zg5;exact Yp (cs:=Yi [t,r]) hS rfl λb w1 h1=>Za<|Zb h1 0 rfl (v:=Iw t) rfl<|ZBD<|hk _ h1.drop
theorem Znk {t r q:Int} (hS:Sat e w R) (hk:∀w',Sat e w' R->K (.bool<|decide<|r=q) w'):Cl prog 152 #[.agg (Yi [t,r]).toArray,Iw q] w K:=by
 refine Ze6 ?_;unfold ZeB;exact Yp (cs:=Yi [t,r]) hS rfl λb w1 h1=>Za<|Zb h1 0 rfl (v:=Iw r) rfl<|ZBD<|hk _ h1.drop
def Zan.all (c:Zan) (p:Int->Int->Bool):Bool:=(List.range c.n.toNat).all λj=>p (c.T j)<|c.Rp j
theorem ZpV {g:Nat} {c:Zan} {fv:Value} (p:Int->Int->Bool) (hn:0<=c.n/\c.n<=8) (hS:Sat e w<|ZbI g c::R)
  (hp:∀(w:World) (R:List HP) (K:KV) (t r:Int),Sat e w R->(∀w',Sat e w' R->K (.bool<|p t r) w')->clV prog fv #[.agg (Yi [t,r]).toArray,Iw c.begun] w K)
  (hk:∀w',Sat e w' (ZbI g c::R)->K (.bool<|c.all p) w'):Cl prog 151 #[pt g,fv] w K:=by
 obtain ⟨n,hn'⟩:∃n:Nat,c.n=n:=⟨c.n.toNat,by omega⟩;refine Zkg<|ZaY hS λw1 h1=>Zh<|Za<|Zh<|Za<|Zb h1 0 rfl (v:=Iw c.n) rfl ?_;rw[hn'];refine ZGk (n:=8) (e:=164) (by kernel_rfl) (i:=Tryz.t164) (by kernel_rfl) (by omega) ?_;refine ⟨_,_,_,rfl,?_⟩;refine Zdk (λm t16 w=>∃j:Nat,j<=n/\t16=Iw j/\m=n - j/\(∀k,k<j->p (c.T k) (c.Rp k)=true)/\Sat e w (ZbI g c::R)) n
  ⟨0,Nat.zero_le _,rfl,rfl,λk hk=>by omega,h1⟩ ?_
 rintro m _ w g1 ⟨j,hj,rfl,rfl,hall,h2⟩ hg;refine Za7 (λc2=>Zi ?_)<|λc2=>Zf ?_
 .refine Zu3 (by omega) ?_;refine Zo h2 0 rfl (Zlc c j<|by omega) rfl ?_;rw[Z1f];refine Yp (cs:=Yi [0,0]) h2 rfl λb w3 h3=>Zq h3 0 rfl (vs:=Yi [c.T j,c.Rp j]) rfl rfl (by decide) (Zg _) (cs':=Yi [c.T j,c.Rp j]) (by rfl) λw4 h4=>?_;refine ZaY h4 λw5 h5=>Zo h5 0 (vs:=Yi [c.T j,c.Rp j]) rfl (by rfl) rfl ?_;refine Zh<|Za<|Zb h5 1 rfl (v:=Iw c.begun) rfl<|hp _ _ _ _ _ h5.drop λw6 h6=>?_;cases hpj:p (c.T j) (c.Rp j) with
  | true=>
   refine ZaJ<|Zf<|Qincs<|hg _ _ _ (by omega) ⟨j+1,by omega,rfl,rfl,λk hk=>?_,h6⟩;by_cases hkj:k=j
   .subst hkj;exact hpj
   .exact hall k (by omega)
  | false=>
   refine Zch<|Zi ?_;have hf:c.all p=false:=by
    unfold Zan.all;rw[List.all_eq_false];exact ⟨j,List.mem_range.2 (by omega),by simp[hpj]⟩
   rw[hf] at hk;exact hk _ h6
 .have ht:c.all p=true:=by
   unfold Zan.all;rw[List.all_eq_true];intro k hk;have:=List.mem_range.1 hk;exact hall k (by omega)
  rw[ht] at hk;exact hk _ h2
def Zan.turnE (c:Zan) (i:Nat):Int:=if ¬c.over<c.begun\/c.T i=c.begun then 130 else 0
def Zan.turn (c:Zan) (i:Nat):Zan:=if ¬c.over<c.begun\/c.T i=c.begun then c else { c with T:=ZBt c.T i c.begun }
theorem Ztb {g:Nat} {c:Zan} {i:Nat} (hi:i<8) (hin:(i:Int)<c.n) (hS:Sat e w<|ZbI g c::R) (hk:∀w',Sat e w' (ZbI g (c.turn i)::R)->K (Iw<|c.turnE i) w'):Cl prog 44 #[pt g,Iw i] w K:=by
 refine Zjr<|ZjA hS ?_;rw[decide_eq_true (show 0<=(i:Int)/\(i:Int)<c.n from ⟨by omega,hin⟩)];refine ZaJ<|Zf<|ZaY hS λw1 h1=>Zel h1 λw2 h2=>?_;by_cases hu:c.over<c.begun
 .rw[decide_eq_true hu];refine ZaJ<|Zj<|Zj<|Zj<|Zh<|Zj<|Za<|Zj<|Zcb hi<|Zj<|Zo h2 0 rfl (Zlc c i hi) rfl<|Zj<|Zj<|Zh<|Zj<|Za<|Zj<|Zb h2 0 rfl (v:=Iw c.begun) rfl<|Zj<|Zou h2 λw3 h3=>?_;by_cases ht:c.T i=c.begun
  .rw[decide_eq_true ht];have e1:c.turnE i=130:=if_pos (.inr ht);have e2:c.turn i=c:=if_pos (.inr ht);rw[e1,e2] at hk;exact Yd<|Zi<|hk _ h3
  .rw[decide_eq_false ht];have hn:¬(¬c.over<c.begun\/c.T i=c.begun):=by simp[hu,ht]
   have e1:c.turnE i=0:=if_neg hn;have e2:c.turn i={ c with T:=ZBt c.T i c.begun }:=if_neg hn;rw[e1,e2] at hk;refine Yd<|Zf<|Zh<|Za ?_;have h4:=h3.drew;exact Zb h4 0 rfl (v:=Iw c.begun) rfl<|Zh<|Za<|Zcb hi<|Za<|Zq h4 0 rfl (vs:=[Iw c.begun]) rfl rfl (by rw[ZdC];omega) (by simp[flat]) (Zxs c c.begun i hi) λw5 h5=>hk _ h5
 .rw[decide_eq_false hu];have e1:c.turnE i=130:=if_pos (.inl hu);have e2:c.turn i=c:=if_pos (.inl hu);rw[e1,e2] at hk;exact Zch<|Zd<|Zd<|Zd<|Zd<|Zd<|Zd<|Zd<|Zd<|Zd<|Zd<|Zd<|Yv<|Zi<|hk _ h2
def Zan.on (c:Zan) (k:Int):Int:=if k=0 then c.on0 else c.on1
def Zan.early (c:Zan) (i:Nat):Prop:=¬c.over<c.begun\/c.all (λt _=>decide<|t=c.begun)=false\/c.Rp i=c.begun
def Zan.rep1 (c:Zan) (i:Nat) (x:Int):Zan:={ c with Rp:=ZBt c.Rp i c.begun,least:=min c.least x }
def Zan.rep2 (c:Zan):Zan:=if c.all (λ_ r=>decide<|r=c.begun)=true then { c with over:=c.begun,value:=max c.value c.least } else c
theorem ZEU (c:Zan) (a:Int):∃j:Nat,j<2/\a % 2=(j:Int)/\(Yi c.ns)[19+j*1]?=some (Iw<|c.on<|a % 2):=by
 rcases Int.emod_two_eq a with h | h
 .exact ⟨0,by omega,h,by rw[h];rfl⟩
 .exact ⟨1,by omega,h,by rw[h];rfl⟩
theorem Zo1 {g:Nat} {c:Zan} {i:Nat} {x:Int} (hn8:c.n<=8) (hi:i<8) (hin:(i:Int)<c.n) (hx:ZmY x) (hv:Yu x=true) (hS:Sat e w<|ZbI g c::R)
  (h130:c.early i->∀w',Sat e w' (ZbI g c::R)->K (Iw 130) w')
  (h150:¬c.early i->0<c.on (c.over % 2)->∀w',Sat e w' (ZbI g c::R)->K (Iw 150) w')
  (h0:¬c.early i->¬0<c.on (c.over % 2)->∀w',Sat e w' (ZbI g (c.rep1 i x).rep2::R)->K (Iw 0) w'):Cl prog 98 #[pt g,Iw i,Iw x] w K:=by
 refine ZgB<|ZjA hS ?_;rw[decide_eq_true (show 0<=(i:Int)/\(i:Int)<c.n from ⟨by omega,hin⟩)];refine ZaJ<|Zj<|Ze<|ZcO hx ?_;rw[hv];refine Ze<|ZaJ<|Yd<|Zf<|ZaY hS λw1 h1=>Zel h1 λw2 h2=>?_;by_cases hu:c.over<c.begun
 .rw[decide_eq_true hu];refine ZaJ<|Zj<|Ze<|ZpV (λt _=>decide<|t=c.begun) ⟨by omega,hn8⟩ h2 (λw R K t r h hk=>⟨_,_,_,rfl,Zou h hk⟩) λw3 h3=>?_;cases ha:c.all (λt _=>decide<|t=c.begun) with
  | false=>
   exact Zj (Zch<|Yd<|Zd<|Zd<|Zd<|Zd<|Zd<|Zd<|Zd<|Zd<|Zd<|Zd<|Zd<|Yv<|Zi<|h130 (.inr (.inl ha)) _ h3)
  | true=>
   refine Zj<|ZaJ<|Yd<|Zj<|Zj<|Zj<|Zh<|Zj<|Za<|Zj<|Zcb hi<|Zj<|Zo h3 0 rfl (Zlc c i hi) rfl<|Zj<|Zj<|Zh<|Zj<|Za<|Zj<|Zb h3 0 rfl (v:=Iw c.begun) rfl<|Zj<|Znk h3 λw4 h4=>?_;by_cases ht:c.Rp i=c.begun
   .rw[decide_eq_true ht];exact Yd<|Zi<|h130 (.inr (.inr ht)) _ h4
   .rw[decide_eq_false ht];have hne:¬c.early i:=by unfold Zan.early;rw[ha];simp[hu,ht]
    refine Yd<|Zf<|Zh<|Za ?_;have h5:=h4.drew;refine Zb h5 0 rfl (v:=Iw c.over) rfl<|Zh<|Za<|ZxU ?_;obtain ⟨j,hj,hj2,hj3⟩:=ZEU c c.over;rw[hj2];refine Zcb hj (Zb h5 0 rfl hj3<|Ztu (λc5=>Zi<|h150 hne c5 _ h5)<|λc5=>Zf ?_)
    replace h0:=h0 hne c5
    refine ZaY h5 λw6 h6=>Zh<|Za<|Zb h6 0 rfl (v:=Iw c.begun) rfl<|Zh<|Za<|Zcb hi<|Za<|Zq h6 0 rfl (vs:=[Iw c.begun]) rfl rfl (by rw[ZdC];omega) (by simp[flat]) (Zv0 c c.begun i hi) λw7 h7=>Zh<|Za<|Zb h7 0 rfl (v:=Iw c.least) rfl<|Zty<|Zh<|Za<|Zq h7 0 rfl (vs:=[Iw<|min c.least x]) rfl rfl (by rw[ZdC];decide) (by simp[flat]) (cs':=Yi (c.rep1 i x).ns) (by rfl) λw8 h8=>?_;refine ZpV (c:=c.rep1 i x) (λ_ r=>decide<|r=c.begun) ⟨by show 0<=c.n;omega,hn8⟩ h8 (λw R K t r h hk=>⟨_,_,_,rfl,Znk h hk⟩) λw9 h9=>J0.cut (λw=>Sat e w<|ZbI g (c.rep1 i x).rep2::R) (λk1 hcut=>?_)<|λw h=>h0 _ h;cases hb:(c.rep1 i x).all (λ_ r=>decide<|r=c.begun) with
    | false=>
     refine Zf<|hcut _ ?_;have:(c.rep1 i x).rep2=c.rep1 i x:=if_neg (by show ¬(c.rep1 i x).all (λ_ r=>decide<|r=c.begun)=true;rw[hb];decide);rw[this];exact h9
    | true=>
     have:(c.rep1 i x).rep2={ c.rep1 i x with over:=c.begun,value:=max c.value (min c.least x) }:=if_pos hb;rw[this] at hcut;refine Zi<|Zh<|Za<|Zb h9 0 rfl (v:=Iw c.begun) rfl<|Zh<|Za<|Zq h9 0 rfl (vs:=[Iw c.begun]) rfl rfl (by rw[ZdC];decide) (by simp[flat]) (cs':=Yi<|Zan.ns { c.rep1 i x with over:=c.begun }) (by rfl) λw10 h10=>?_;refine ZaY h10 λw11 h11=>Zh<|Za<|Zb h11 0 rfl (v:=Iw c.value) rfl<|Zh<|Za<|Zb h11 0 rfl (v:=Iw<|min c.least x) rfl<|ZwQ<|Zh<|Za<|Zq h11 0 rfl (vs:=[Iw<|max c.value<|min c.least x]) rfl rfl (by rw[ZdC];decide) (by simp[flat]) (cs':=Yi<|Zan.ns { c.rep1 i x with over:=c.begun,value:=max c.value (min c.least x) }) (by rfl) λw12 h12=>?_;exact hcut _ h12
 .rw[decide_eq_false hu];exact Zch<|Zd<|Zd<|Zd<|Yv<|Zd<|Zd<|Zd<|Zd<|Zd<|Zd<|Zd<|Zd<|Zd<|Zd<|Zd<|Yv<|Zi<|h130 (.inl hu) _ h2
theorem Zan.turn_ok {c:Zan} {i:Nat} (hu:c.over<c.begun) (ht:c.T i≠c.begun):c.turnE i=0/\c.turn i={ c with T:=ZBt c.T i c.begun }:=by
 have hn:¬(¬c.over<c.begun\/c.T i=c.begun):=by simp[hu,ht]
 exact ⟨if_neg hn,if_neg hn⟩
theorem Zan.turn_no {c:Zan} {i:Nat} (ht:c.T i=c.begun):c.turnE i=130/\c.turn i=c:=⟨if_pos (.inr ht),if_pos (.inr ht)⟩
theorem Zan.all_iff {c:Zan} {n:Nat} (hn:c.n=n) (p:Int->Int->Bool):c.all p=true↔∀j,j<n->p (c.T j) (c.Rp j)=true:=by
 unfold Zan.all;rw[List.all_eq_true,hn];simp
theorem ZYQ (f:Nat->Int) (i:Nat) (x:Int):ZBt f i x i=x:=if_pos rfl
theorem ZY4 (f:Nat->Int) {i k:Nat} (x:Int) (h:k≠i):ZBt f i x k=f k:=if_neg h
def bl (b:Bool):List Value:=[.bool b]
theorem Z0P (b:Bool):∀v∈bl b,flat v=true:=by
 intro v hv;simp[bl] at hv;subst hv;rfl
def Zan.setOn (c:Zan) (k x:Int):Zan:=if k=0 then { c with on0:=x } else { c with on1:=x }
theorem Zqs (c:Zan) (a x:Int):∃j:Nat,j<2/\a % 2=(j:Int)/\(Yi c.ns)[19+j*1]?=some (Iw<|c.on<|a % 2)/\wrL (Yi c.ns) (19+j*1) [Iw x]=Yi (c.setOn (a % 2) x).ns:=by
 rcases Int.emod_two_eq a with h | h
 .exact ⟨0,by omega,h,by rw[h];rfl,by rw[h];rfl⟩
 .exact ⟨1,by omega,h,by rw[h];rfl,by rw[h];rfl⟩
def Zan.sent (c:Zan) (i:Nat) (t:Int):Zan:=
 if c.over<c.begun/\c.T i=c.begun then { c.setOn (c.T i % 2) (c.on (c.T i % 2)+1) with least:=min c.least t } else c.setOn (c.T i % 2) (c.on (c.T i % 2)+1)
theorem Zan.setOn_n (c:Zan) (k x:Int):(c.setOn k x).n=c.n:=by unfold Zan.setOn;split <;> rfl
theorem Zan.setOn_begun (c:Zan) (k x:Int):(c.setOn k x).begun=c.begun:=by unfold Zan.setOn;split <;> rfl
theorem Zan.setOn_over (c:Zan) (k x:Int):(c.setOn k x).over=c.over:=by unfold Zan.setOn;split <;> rfl
theorem Zan.setOn_T (c:Zan) (k x:Int):(c.setOn k x).T=c.T:=by unfold Zan.setOn;split <;> rfl
theorem Zan.setOn_Rp (c:Zan) (k x:Int):(c.setOn k x).Rp=c.Rp:=by unfold Zan.setOn;split <;> rfl
theorem Zan.setOn_least (c:Zan) (k x:Int):(c.setOn k x).least=c.least:=by unfold Zan.setOn;split <;> rfl
theorem Zur (c:Zan):(Yi c.ns)[1]?=some (Iw c.begun)/\(Yi c.ns)[21]?=some (Iw c.least):=⟨rfl,rfl⟩
theorem Zpi (c:Zan) (x:Int):wrL (Yi c.ns) 21 [Iw x]=Yi (Zan.ns { c with least:=x }):=rfl
theorem Zte {g:Nat} {c:Zan} {i:Nat} {t:Int} (hi:i<8) (hin:(i:Int)<c.n) (hx:ZmY t) (hv:Yu t=true) (hb:∀k,-1000000<=c.on k/\c.on k<=1000000) (hS:Sat e w<|ZbI g c::R)
  (hk:∀w',Sat e w' (ZbI g (c.sent i t)::R)->K (.tuple #[Iw<|c.T i % 2,Iw 0]) w'):Cl prog 88 #[pt g,Iw i,Iw t] w K:=by
 refine Zjy<|ZjA hS ?_;rw[decide_eq_true (show 0<=(i:Int)/\(i:Int)<c.n from ⟨by omega,hin⟩)];refine ZaJ<|Zj<|Ze<|ZcO hx ?_;rw[hv];refine Ze<|ZaJ<|Yd<|Zf<|Zo0 hi hin hS<|ZaY hS λw1 h1=>?_;obtain ⟨j,hj,hj2,hj3,hj4⟩:=Zqs c (c.T i)<|c.on (c.T i % 2)+1;have hbk:=hb<|c.T i % 2;refine Zh<|Za ?_;rw[hj2];refine Zcb hj<|Zb h1 0 rfl hj3 ?_;rw[hj2] at hbk ⊢;refine Qadds<|Zh<|Za<|Zcb hj ?_;rw[hj2] at hj4;refine Zq h1 0 rfl (vs:=[Iw<|c.on j+1]) rfl rfl (by rw[ZdC];omega) (by simp[flat]) (cs':=Yi (c.setOn j<|c.on j+1).ns) hj4 λw2 h2=>ZaY h2 λw3 h3=>Zel (c:=c.setOn j<|c.on j+1) h3 λw4 h4=>?_;rw[Zan.setOn_begun,Zan.setOn_over];by_cases hu:c.over<c.begun
 .rw[decide_eq_true hu];refine Ze<|Ze<|Ze<|Zh<|Ze<|Za<|Ze<|Zcb hi<|Ze<|Zo h4 0 rfl (Zlc _ i hi) rfl<|Ze<|Ze<|Zh<|Ze<|Za<|Ze<|Zb h4 0 rfl (Zur _).1<|Ze<|Zou h4 λw5 h5=>?_;rw[Zan.setOn_T,Zan.setOn_begun];by_cases ht:c.T i=c.begun
  .rw[decide_eq_true ht];refine Yv<|Zi<|Zh<|Za<|Zb h5 0 rfl (Zur _).2<|Zty<|Zh<|Za<|Zq h5 0 rfl (vs:=[Iw<|min (c.setOn j<|c.on j+1).least t]) rfl rfl (by rw[ZdC];decide) (by simp[flat]) (Zpi _ _) λw6 h6=>?_;have e1:c.sent i t={ c.setOn j (c.on j+1) with least:=min c.least t }:=by
    unfold Zan.sent;rw[if_pos ⟨hu,ht⟩,hj2]
   rw[Zan.setOn_least] at h6;rw[e1,hj2] at hk;exact hk _ h6
  .rw[decide_eq_false ht];refine Yv<|Zf ?_;have e1:c.sent i t=c.setOn j (c.on j+1):=by
    unfold Zan.sent;rw[if_neg<|λh=>ht h.2,hj2]
   rw[e1,hj2] at hk;exact hk _ h5
 .rw[decide_eq_false hu];refine Zu<|Zu<|Zu<|Zu<|Zu<|Zu<|Zu<|Zu<|Zu<|Zu<|Zd<|Yd<|Zf ?_;have e1:c.sent i t=c.setOn j (c.on j+1):=by
   unfold Zan.sent;rw[if_neg<|λh=>hu h.1,hj2]
  rw[e1,hj2] at hk;exact hk _ h4
def Zan.gotE (c:Zan) (k:Int):Int:=if ¬(0<=k/\k<=1)\/c.on k=0 then 1 else 0
def Zan.got (c:Zan) (k:Int):Zan:=if ¬(0<=k/\k<=1)\/c.on k=0 then c else c.setOn k (c.on k - 1)
theorem ZtM {g:Nat} {c:Zan} {i:Nat} {k:Int} (hin:(i:Int)<c.n) (hb:∀k,-1000000<=c.on k/\c.on k<=1000000) (hS:Sat e w<|ZbI g c::R)
  (hk:∀w',Sat e w' (ZbI g (c.got k)::R)->K (Iw<|c.gotE k) w'):Cl prog 92 #[pt g,Iw i,Iw k] w K:=by
 refine ZjO<|ZjA hS ?_;rw[decide_eq_true (show 0<=(i:Int)/\(i:Int)<c.n from ⟨by omega,hin⟩)];refine ZaJ<|Zj<|Zj<|Zx8 ?_;by_cases hk1:0<=k/\k<=1
 .refine Zj<|Qnef ?_;obtain ⟨j,hj,hj2,hj3,hj4⟩:=Zqs c k<|c.on (k % 2) - 1;have hkm:k % 2=k:=by omega
  rw[hkm] at hj2 hj3 hj4;have hbk:=hb k;refine Yd<|Zj<|Zj<|Ze<|Zh<|Ze<|Za<|Ze ?_;rw[hj2] at hj3 hj4 hbk ⊢;refine Zcb hj<|Zj<|Zb hS 0 rfl hj3 ?_;by_cases h0:c.on k=0
  .rw[hj2] at h0;refine Ze<|Qeqt<|Yd<|Zi ?_;have e1:c.gotE k=1:=if_pos (.inr<|by rw[hj2];exact h0);have e2:c.got k=c:=if_pos (.inr<|by rw[hj2];exact h0);rw[e1,e2] at hk;exact hk _ hS
  .have hn:¬(¬(0<=k/\k<=1)\/c.on k=0):=λh=>h.elim (λh=>h hk1) h0;have e1:c.gotE k=0:=if_neg hn;have e2:c.got k=c.setOn k (c.on k - 1):=if_neg hn;rw[e1,e2,hj2] at hk;rw[hj2] at h0;refine Ze<|Qeqf<|Yd<|Zf<|Zh<|Za ?_;have h1:=hS.drew;refine Zcb hj<|Zb h1 0 rfl hj3<|Qsubs<|Zh<|Za<|Zcb hj<|Zq h1 0 rfl (vs:=[Iw<|c.on j - 1]) rfl rfl (by rw[ZdC];omega) (by simp[flat]) hj4 λw2 h2=>?_;exact hk _ h2
 .refine Zj<|Qnet<|Yd<|Zd<|Zd<|Zd<|Zd<|Zd<|Zd<|Zd<|Yv<|Zi ?_;have e1:c.gotE k=1:=if_pos (.inl hk1);have e2:c.got k=c:=if_pos (.inl hk1);rw[e1,e2] at hk;exact hk _ hS
end Go.Proofs.YtceipnkeijhebaaGreat
end
