/- Texts of the proof, joined. Conditions: none. -/
import Derived.Test.YtkpdpddmaoablaaGreatR3
import Derived.Stop.Asserts
import Derived.Lib.IfaceEq
section
namespace Go.Proofs.YtkpdpddmaoablaaGreat
open Go Go.E
set_option maxRecDepth 100000
variable {e w:World} {L Q R:List HP} {K:KV} {S S2:HP}
abbrev DE (v:Value) (xs:List EnX):HP:=Zz 227 10 EnX.cs v xs
theorem Zoz {v:Value} {l:List EnX} (i:Nat) (hi:L[i]?=some S) (hl:l.length≤1000000) (hff:∀x∈l,flat x.ov=true) (hS:Sat e w L) (hr:∀g,S g→rdS 10 EnX.cs v l g)
  (hk:∀v' w',Sat e w' (DE v' l::L)→K v' w'):Cl prog 123 #[v] w K:=by
 refine Zbo ?_
 unfold ZaI
 have h0:=hS.pick i hi
 obtain ⟨A,c,rfl,_⟩:=h0.shape 0 rfl hr
 cases A with
 | none=>
  refine Yn (w':=w) (v:=.bool true) (by kernel_rfl) ?_
  obtain rfl:=ZlK h0 hr
  exact Zi (hk _ _ (Zlu hi (h0.own_nil 227 10 EnX.cs)))
 | some a=>
  refine Yn (w':=w) (v:=.bool false) (by kernel_rfl) ?_
  refine Zf ?_
  refine Zw3 h0 EnX.cs λv1 w2 h2=>?_
  refine Zcs ZPn Zrn (f:=EnX.cs) (λ_=>rfl) (λx hx=>EnX.flat (hff x hx)) h2 hr (by simp;omega) λv2 w3 h3=>?_
  rw[List.nil_append] at h3
  exact hk _ _ (Zlu hi h3)
theorem ZtE {v:Value} {xs:List EnX} (hl:xs.length≤1000000) (hff:∀x∈xs,flat x.ov=true) (hS:Sat e w (DE v xs::Q)) (hk:∀w',Sat e w' (DE v xs.reverse::Q)→K (.tuple #[]) w') :
  Cl prog 238 #[v] w K:=by
 refine Zbe ?_
 unfold Zax
 refine Zt hS 0 rfl (λ_=>Zp) ?_
 refine ZoJ (by omega) (by omega) ?_
 refine ZjF (λq t2 t3 w=>∃(i:Nat) (l:List EnX),2*i≤xs.length∧t2=.int .i64 i∧t3=.int .i64 ((xs.length:Int) - 1 - i)∧q=xs.length - i∧l.length=xs.length∧(∀p,p<xs.length→l[p]?=if p<i∨xs.length≤p+i then xs[xs.length - 1 - p]? else xs[p]?)∧Sat e w (DE v l::Q)) xs.length
  ⟨0,xs,by omega,rfl,by rw[Int.natCast_zero,Int.sub_zero],rfl,rfl,λp hp=>by rw[if_neg (by omega)],hS⟩ ?_
 rintro q _ _ w g ⟨i,l,hi2,rfl,rfl,rfl,hl2,hget,h2⟩ hg
 refine Za7 (λc=>Zi ?_) (λc=>Zf ?_)
 ·obtain ⟨j,hj⟩:∃j:Nat,(xs.length:Int) - 1 - i=j:=⟨xs.length - 1 - i,by omega⟩
  rw[hj] at c ⊢
  have hij:i<j:=by omega
  have hjl:j=xs.length - 1 - i:=by omega
  have gi:=hget i (by omega)
  have gj:=hget j (by omega)
  rw[if_neg (by omega)] at gi gj
  obtain ⟨x,hx⟩:=Zk (l:=xs) (j:=i) (by omega)
  obtain ⟨y,hy⟩:=Zk (l:=xs) (j:=j) (by omega)
  rw[hx] at gi
  rw[hy] at gj
  have fx:=hff x (List.mem_of_getElem? hx)
  have fy:=hff y (List.mem_of_getElem? hy)
  refine ZaY h2 λw3 h3=>?_
  refine Zw h3 0 rfl (λ_=>Zp) (λ_=>rfl) gj λa ha=>Ym h3 0 rfl ha rfl ?_
  refine Zw h3 0 rfl (λ_=>Zp) (λ_=>rfl) gi λa ha=>Ym h3 0 rfl ha rfl ?_
  refine ZdJ h3 0 rfl (λ_=>rfl) (by omega) (x:=y) rfl (EnX.flat fy) λw4 h4=>?_
  refine ZdJ h4 0 rfl (λ_=>rfl) (by rw[List.length_set];omega) (x:=x) rfl (EnX.flat fx) λw5 h5=>?_
  refine ZcD (by omega) (by omega) (ZoJ (by omega) (by omega) ?_)
  refine hg _ _ _ _ (by omega) ⟨i+1,(l.set i y).set j x,by omega,by rw[Int.natCast_add];rfl,by rw[←hj,Int.natCast_add];congr 1;omega,rfl,by rw[List.length_set,List.length_set];exact hl2,λp hp=>?_,h5⟩
  rw[List.getElem?_set,List.getElem?_set]
  by_cases h1:j=p
  ·subst h1
   rw[if_pos rfl,if_pos (by rw[List.length_set];omega),if_pos (by omega),show xs.length - 1 - j=i from by omega,hx]
  ·rw[if_neg h1]
   by_cases h6:i=p
   ·subst h6
    rw[if_pos rfl,if_pos (by omega),if_pos (by omega),←hjl,hy]
   ·rw[if_neg h6,hget p hp]
    by_cases h7:p<i∨xs.length≤p+i
    ·rw[if_pos h7,if_pos (by omega)]
    ·rw[if_neg h7,if_neg (by omega)]
 ·have he:l=xs.reverse:=by
   apply List.ext_getElem?
   intro p
   by_cases hp:p<xs.length
   ·rw[hget p hp,List.getElem?_reverse hp]
    by_cases h7:p<i∨xs.length≤p+i
    ·rw[if_pos h7]
    ·rw[if_neg h7]
     congr 1
     omega
   ·rw[List.getElem?_eq_none (by omega),List.getElem?_eq_none (by rw[List.length_reverse];omega)]
  rw[he] at h2
  exact hk _ h2
def Zmb (k:Key) (l:List En):List En:=l.filter λx=>decide (Zv x.m.key k)
def Zqh (k:Key) (l:List En):List En:=l.filter λx=>!decide (Zv x.m.key k)
def Zx0 (t:Int) (l:List En):List En:=l.filter λx=>decide (x.m.key.T<t)
def ZzN (t:Int) (l:List En):List En:=l.filter λx=>!decide (x.m.key.T<t)
theorem ZkM.sub {l l':List En} (h:ZkM l) (s:l'.Sublist l):ZkM l':=⟨h.up.sublist s,Nat.le_trans s.length_le h.len,λx hx=>h.outs x (s.subset hx)⟩
theorem Zx7 {P:En→Bool} {xs:List EnX} {l:List En} {m:Nat} (he:xs.map EnX.e=l) (h1:∀x∈xs.take m,P x.e=true) (h2:∀x∈xs.drop m,P x.e=false) :
  (xs.take m).map EnX.e=l.filter P∧(xs.drop m).map EnX.e=l.filter λx=>!P x:=by
 subst he
 constructor
 ·conv=>rhs;rw[←List.take_append_drop m xs]
  rw[List.map_append,List.filter_append,List.filter_eq_self.2 λx hx=>by obtain ⟨y,hy,rfl⟩:=List.mem_map.1 hx;exact h1 y hy,List.filter_eq_nil_iff.2 λx hx=>by obtain ⟨y,hy,rfl⟩:=List.mem_map.1 hx;rw[h2 y hy];decide,List.append_nil]
 ·conv=>rhs;rw[←List.take_append_drop m xs]
  rw[List.map_append,List.filter_append,List.filter_eq_nil_iff.2 λx hx=>by obtain ⟨y,hy,rfl⟩:=List.mem_map.1 hx;rw[h1 y hy];decide,List.filter_eq_self.2 λx hx=>by obtain ⟨y,hy,rfl⟩:=List.mem_map.1 hx;rw[h2 y hy];rfl,List.nil_append]
theorem ZEw {xs:List EnX} {l:List En} (he:xs.map EnX.e=l) (hp:ZkM l) {i j:Nat} {x y:EnX} (hij:i≤j) (hx:xs[i]?=some x) (hy:xs[j]?=some y):x=y∨Zv x.m.key y.m.key:=by
 rcases Nat.eq_or_lt_of_le hij with rfl | hlt
 ·rw[hx] at hy;exact .inl (Option.some.inj hy)
 ·right
  subst he
  have h1:=List.pairwise_map.1 hp.up
  obtain ⟨hi',rfl⟩:=List.getElem?_eq_some_iff.1 hx
  obtain ⟨hj',rfl⟩:=List.getElem?_eq_some_iff.1 hy
  exact List.pairwise_iff_getElem.1 h1 i j hi' hj' hlt
theorem Zq7 {p:Nat} {fl:Int} {l:List En} {k:Key} (hS:Sat e w (Yf p fl l::Q)) (hk:∀v w',Sat e w' (Zwo v (Zqh k l).reverse::Yf p fl (Zmb k l)::Q)→K v w') :
  Cl prog 232 #[.pointer (some ⟨p,0,none⟩),.agg k.cs.toArray] w K:=by
 refine ZgM ?_
 unfold Zg6
 obtain ⟨lv,xs,hp,h0⟩:=Zfr hS
 have hxl:xs.length≤64:=by have:=hp.2.len;rw[←hp.1,List.length_map] at this;exact this
 have hfl:∀x∈xs,flat x.ov=true:=λx hx=>ZlV 2 h0 rfl hx
 refine Yp (cs:=k.cs) h0 rfl λb w1 h1=>?_
 refine Zo h1 0 (vs:=k.cs) rfl (by rfl) rfl ?_
 refine Zyc (P:=λx=>decide (Zv x.m.key k)) hxl ⟨rfl,rfl⟩ (λi j x y hij hx hy hP=>?_) (λx w L K h hk=>Zsa x k h hk) (h1.selR [_,_,_,_] [_,_,_,_] [1,2,3,0] (by decide) rfl) λm w2 hm hlo hhi h2=>?_
 ·rw[decide_eq_true_iff] at*
  rcases ZEw hp.1 hp.2 hij hx hy with rfl | hlt
  ·exact hP
  ·exact hlt.trans hP
 obtain ⟨c1,c2⟩:=Zx7 (P:=λx=>decide (Zv x.m.key k)) hp.1 hlo hhi
 refine Zh (Za (Zb h2 0 rfl (v:=lv) rfl ?_))
 refine Zox h2 1 rfl (λ_=>Zp) (λ_=>rfl) hm λv1 hv1=>?_
 refine Zoz 1 rfl (by rw[List.length_drop];omega) (λx hx=>hfl x (List.mem_of_mem_drop hx)) h2 hv1 λv2 w3 h3=>?_
 refine ZtE (by rw[List.length_drop];omega) (λx hx=>hfl x (List.mem_of_mem_drop hx)) h3 λw4 h4=>?_
 refine Zh (Za (Zb h4 1 rfl (v:=lv) rfl ?_))
 refine ZuF h4 2 rfl (λ_=>rfl) hm λv3 h5=>?_
 replace h5:Sat e w4 (DE v2 (xs.drop m).reverse::blk p 178 [.int .i64 fl,lv]::DE v3 (xs.take m)::Yh (xs.map ZcP)::blk b 38 k.cs::Q):=h5
 have q3:=h5.own_cells 2 rfl
 refine Zh (Za (Zq h5 1 rfl (vs:=[v3]) q3.1 rfl (Nat.le_of_ble_eq_true rfl) (λc hc=>by rw[List.mem_singleton.1 hc];exact q3.2) (cs':=[.int .i64 fl,v3]) (by rfl) λw5 h6=>?_))
 replace h6:Sat e w5 (DE v2 (xs.drop m).reverse::blk p 178 [.int .i64 fl,v3]::DE v3 (xs.take m)::Yh (xs.map ZcP)::blk b 38 k.cs::Q):=h6
 rw[show xs.map ZcP=(xs.take m).map ZcP++(xs.drop m).map ZcP from by rw[←List.map_append,List.take_append_drop]] at h6
 have h7:=Zne (h6.pick 3 rfl)
 have h8:=Zt0 (b:=(xs.drop m).reverse.map ZcP) (by rw[List.map_reverse];exact (List.reverse_perm _).symm) h7.swap
 replace h8:Sat e w5 (Yh ((xs.drop m).reverse.map ZcP)::Yh ((xs.take m).map ZcP)::DE v2 (xs.drop m).reverse::blk p 178 [.int .i64 fl,v3]::DE v3 (xs.take m)::blk b 38 k.cs::Q):=h8
 have h9:=Zh1 (fl:=fl) (lv:=v3) (xs:=xs.take m) (l:=Zmb k l) ⟨c1,hp.2.sub List.filter_sublist⟩ (h8.selR [_,_,_,_,_,_] [_,_,_,_,_] [3,4,1,2,0] (by decide) rfl)
 have h10:=ZxK (v:=v2) (xs:=(xs.drop m).reverse) (h9.selR [_,_,_] [_,_,_] [1,2,0] (by decide) rfl)
 rw[show (xs.drop m).reverse.map EnX.e=(Zqh k l).reverse from by rw[List.map_reverse,c2];rfl] at h10
 exact hk _ _ h10
theorem Zoq {p:Nat} {fl:Int} {l:List En} {t:Int} (hS:Sat e w (Yf p fl l::Q)) (hk:∀v w',Sat e w' (Zwo v (Zx0 t l)::Yf p (max fl t) (ZzN t l)::Q)→K v w') :
  Cl prog 115 #[.pointer (some ⟨p,0,none⟩),.int .i64 t] w K:=by
 refine Ze3 ?_
 unfold Zey
 obtain ⟨lv,xs,hp,h1⟩:=Zfr hS
 have hxl:xs.length≤64:=by have:=hp.2.len;rw[←hp.1,List.length_map] at this;exact this
 have hfl:∀x∈xs,flat x.ov=true:=λx hx=>ZlV 2 h1 rfl hx
 refine Zaf (Yi [t,0,0]) (by kernel_rfl) ?_
 refine Zyc (k:=⟨t,0,0⟩) (P:=λx=>decide (x.m.key.T<t)) hxl ⟨rfl,rfl⟩ (λi j x y hij hx hy hP=>?_) (λx w L K h hk=>ZwO x ⟨t,0,0⟩ h hk) h1 λm w2 hm hlo hhi h2=>?_
 ·rw[decide_eq_true_iff] at*
  rcases ZEw hp.1 hp.2 hij hx hy with rfl | hlt
  ·exact hP
  ·unfold Zv at hlt;omega
 obtain ⟨c1,c2⟩:=Zx7 (P:=λx=>decide (x.m.key.T<t)) hp.1 hlo hhi
 refine Zh (Za (Zb h2 0 rfl (v:=lv) rfl ?_))
 refine ZD8 h2 1 rfl (λ_=>Zp) (λ_=>rfl) hm λv1 hv1=>?_
 refine Zoz 1 rfl (by rw[List.length_take];omega) (λx hx=>hfl x (List.mem_of_mem_take hx)) h2 hv1 λv2 w3 h3=>?_
 refine Zh (Za (Zb h3 1 rfl (v:=lv) rfl ?_))
 refine Zox h3 2 rfl (λ_=>Zp) (λ_=>rfl) hm λv3 hv3=>?_
 refine Zoz 2 rfl (by rw[List.length_drop];omega) (λx hx=>hfl x (List.mem_of_mem_drop hx)) h3 hv3 λv4 w4 h4=>?_
 have q4:=h4.own_cells 0 rfl
 refine Zh (Za (Zq h4 2 rfl (vs:=[v4]) q4.1 rfl (Nat.le_of_ble_eq_true rfl) (λc hc=>by rw[List.mem_singleton.1 hc];exact q4.2) (cs':=[.int .i64 fl,v4]) (by rfl) λw5 h5=>?_))
 refine Zh (Za (Zb h5 2 rfl (v:=.int .i64 fl) rfl (ZwQ ?_)))
 refine Zh (Za (Zq h5 2 rfl (vs:=Yi [max fl t]) rfl rfl (Nat.le_of_ble_eq_true rfl) (Zg _) (cs':=[.int .i64 (max fl t),v4]) (by rfl) λw6 h6=>?_))
 replace h6:Sat e w6 (DE v4 (xs.drop m)::DE v2 (xs.take m)::blk p 178 [.int .i64 (max fl t),v4]::DE lv xs::Yh (xs.map ZcP)::Q):=h6
 rw[show xs.map ZcP=(xs.take m).map ZcP++(xs.drop m).map ZcP from by rw[←List.map_append,List.take_append_drop]] at h6
 have h7:=Zne (h6.pick 4 rfl)
 replace h7:Sat e w6 (Yh ((xs.take m).map ZcP)::Yh ((xs.drop m).map ZcP)::DE v4 (xs.drop m)::DE v2 (xs.take m)::blk p 178 [.int .i64 (max fl t),v4]::DE lv xs::Q):=h7
 have h9:=Zh1 (fl:=max fl t) (lv:=v4) (xs:=xs.drop m) (l:=ZzN t l) ⟨c2,hp.2.sub List.filter_sublist⟩ (h7.selR [_,_,_,_,_,_] [_,_,_,_,_] [4,2,1,3,0] (by decide) rfl)
 have h10:=ZxK (v:=v2) (xs:=xs.take m) (h9.selR [_,_,_] [_,_,_] [1,2,0] (by decide) rfl)
 rw[c1] at h10
 exact hk _ _ h10
theorem ZE3 {op:BinOp} {t:TypeId} {xo yo:Operand} {x y v:Value} (h1:(eqGuard op t xo yo x y).run prog w=.ok () w) (h2:(binOp op t x y).run prog w=.ok v w) (hk:K v w):bO prog op t xo yo x y w K:=
 Yn (w':=w) (v:=v) (by simp only[Sem.run_bind,h1,Result.andThen_ok,h2]) hk
noncomputable def ZxI (t a:TypeId):Bool:=match prog.underlying a,prog.info? t,prog.info? a with
 | some (.interface want),some i,some j=>!(Go.lacking want i.methods).isEmpty&&(match j.zero with | some .nilIface=>true | _=>false)
 | _,_,_=>false
noncomputable def ZGN (t a:TypeId):Bool:=match prog.underlying a,prog.info? t with
 | some (.interface want),some i=>(Go.lacking want i.methods).isEmpty
 | _,_=>false
theorem Zjb {t a xt:TypeId} {v:Value} (h:ZxI t a=true) (hk:K (.tuple #[.nilIface,.bool false]) w):tyA prog (.iface t v) xt a true w K:=by
 unfold ZxI at h
 split at h
 ·rename_i want i j hu hi hj
  rw[Bool.and_eq_true] at h
  have hz:j.zero=some .nilIface:=by
   have:=h.2
   split at this
   ·assumption
   ·cases this
  refine Yn (w':=w) (v:=.tuple #[.nilIface,.bool false]) ?_ hk
  exact run_typeAssert_lacks hu hi hj hz λe=>by rw[e] at h;simp at h
 ·cases h
theorem ZyP {t a xt:TypeId} {v:Value} (h:ZGN t a=true) (hk:K (.tuple #[.iface t v,.bool true]) w):tyA prog (.iface t v) xt a true w K:=by
 unfold ZGN at h
 split at h
 ·rename_i want i hu hi
  refine Yn (w':=w) (v:=.tuple #[.iface t v,.bool true]) ?_ hk
  exact run_typeAssert_has hu hi (List.isEmpty_iff.1 h)
 ·cases h
theorem Zw0 (v:Value) (w:World):(Extern.ReflectliteType.typeOf #[.iface 30 v]).run prog w=.ok (.iface 338 (.agg #[typeHandle prog 30])) w:=by kernel_rfl
theorem Zxn {n:Value} (hk:K (.iface 338 (.agg #[typeHandle prog 30])) w):Cl prog 235 #[.iface 30 n] w K:=by
 have h8:=@run_callFunc_extern prog 235 _ Extern.ReflectliteType.typeOf Tryz.func235 (by kernel_rfl) (by kernel_rfl) (by kernel_rfl) (by kernel_rfl)
 have h9:ex prog (oV (pure (.iface 338 (.agg #[typeHandle prog 30])))) w K:=@Yn prog w K (pure (.iface 338 (.agg #[typeHandle prog 30]))) (.iface 338 (.agg #[typeHandle prog 30])) w (Sem.run_pure ..) hk
 have e9:(callFunc 235 #[.iface 30 n]).run prog w=(oV (pure (.iface 338 (.agg #[typeHandle prog 30])))).run prog w:=by
  rw[h8]
  unfold oV
  simp only[Sem.run_bind,Zw0,Result.andThen_ok,Sem.run_pure]
 exact @Zi5 prog w K _ _ e9 h9
theorem Zz5 {P:Program} {x r:Value} {name:String} {args:Array Value} {w:World} {K:KV} (h:(invoke (.fn (.method name) #[]) (#[x]++args)).run P w=.ok (.value r) w) (hk:K r w):clI P x name args w K:=by
 unfold clI ex
 rw[h]
 exact hk
theorem ZAF (w:World):(invoke (.fn (.method "Comparable") #[]) (#[.iface 338 (.agg #[typeHandle prog 30])]++#[])).run prog w=.ok (.value (.bool true)) w:=by kernel_rfl
theorem ZEJ (hk:K (.bool true) w):clI prog (.iface 338 (.agg #[typeHandle prog 30])) "Comparable" #[] w K:=
 @Zz5 prog (.iface 338 (.agg #[typeHandle prog 30])) (.bool true) "Comparable" #[] w K (ZAF w) hk
abbrev erV (t:Nat):Value:=.iface 325 (.pointer (some ⟨t,0,none⟩))
abbrev noV (n:Int):Value:=.iface 30 (.int .i64 n)
def BT (t:Nat) (k:Key) (er:Int):HP:=blk t 327 (k.cs++[noV er])
theorem Zu8 {n:Int} {xo yo:Operand} (hk:K (.bool false) w):bO prog .eql 305 xo yo (noV n) .nilIface w K:=Yn (w':=w) (v:=.bool false) (by kernel_rfl) hk
theorem Zzx {t:Nat} {xo yo:Operand} (hk:K (.bool false) w):bO prog .eql 305 xo yo (erV t) .nilIface w K:=Yn (w':=w) (v:=.bool false) (by kernel_rfl) hk
theorem Zus {t:Nat} {xo yo:Operand} (hk:K (.bool true) w):bO prog .neq 305 xo yo (erV t) .nilIface w K:=Yn (w':=w) (v:=.bool true) (by kernel_rfl) hk
theorem Zvk {a:Nat} (hk:K (.bool false) w):bO prog .neq 305 (.tmp a) (.const .nilIface) .nilIface .nilIface w K:=Yn (w':=w) (v:=.bool false) (by kernel_rfl) hk
theorem Zy7 {a:Nat} (hk:K (.bool true) w):bO prog .eql 305 (.tmp a) (.const .nilIface) .nilIface .nilIface w K:=Yn (w':=w) (v:=.bool true) (by kernel_rfl) hk
theorem ZFP {n:Int} {xo yo:Operand} (hk:K (.bool false) w):bO prog .eql 305 xo yo .nilIface (noV n) w K:=Yn (w':=w) (v:=.bool false) (by kernel_rfl) hk
theorem ZGg {t:Nat} {n:Int} {xo yo:Operand} (hk:K (.bool false) w):bO prog .eql 305 xo yo (erV t) (noV n) w K:=Yn (w':=w) (v:=.bool false) (by kernel_rfl) hk
theorem ZF9 {a b:Int} {xo yo:Operand} (hk:K (.bool (a==b)) w):bO prog .eql 305 xo yo (noV a) (noV b) w K:=
 ZE3 (by kernel_rfl) (Lib.run_eql_iface_int w a b Tryz.underlying305 (by kernel_rfl) Tryz.underlying30) hk
theorem ZIx {t:Nat} {k:Key} {er n:Int} (i:Nat) (hi:L[i]?=some (BT t k er)) (hS:Sat e w L) (hk:K (.bool (er==n)) w):Cl prog 236 #[erV t,noV n,.bool true] w K:=by
 refine Zl8 ?_
 unfold Zo6
 refine Zdk (λq x w'=>((q=1∧x=erV t)∨(q=0∧x=noV er))∧w'=w) 1 ⟨.inl ⟨rfl,rfl⟩,rfl⟩ ?_
 rintro q x w' g ⟨hx,rfl⟩ hg
 refine Ze (Ze (Ze ?_))
 rcases hx with ⟨rfl,rfl⟩ | ⟨rfl,rfl⟩
 ·refine ZGg (Yv (Zf ?_))
  refine Zjb (by kernel_rfl) (Zam (Zal ?_))
  refine Zu (Zu (Zu (Yd (Zf ?_))))
  refine ZyP (by kernel_rfl) (Zal (Zam (Zi ?_)))
  refine Zrj (f:=253) (rcv:=.pointer (some ⟨t,0,none⟩)) (by kernel_rfl) ?_
  refine ZdD (t0:=.pointer (some ⟨t,0,none⟩)) ?_
  unfold Zc7
  refine Zh (Za (Zb hS i hi (v:=noV er) rfl ?_))
  refine Zu8 (Zf ?_)
  exact hg _ _ _ (by omega) ⟨.inr ⟨rfl,rfl⟩,rfl⟩
 ·refine ZF9 (Yv ?_)
  cases hb:(er==n) with
  | true=>rw[hb] at hk;exact Zi hk
  | false=>
   rw[hb] at hk
   refine Zf (Zjb (by kernel_rfl) (Zam (Zal ?_)))
   refine Zu (Zu (Zu (Yd (Zf ?_))))
   refine Zjb (by kernel_rfl) (Zal (Zam (Zf ?_)))
   exact Zjb (by kernel_rfl) (Zal (Zam (Zf hk)))
theorem ZIp {t:Nat} {k:Key} {er n:Int} (i:Nat) (hi:L[i]?=some (BT t k er)) (hS:Sat e w L) (hk:K (.bool (er==n)) w):Cl prog 225 #[erV t,noV n] w K:=by
 refine Zfm ?_
 unfold Zlp
 refine Zzx (Zj (Zj (Zu8 (Yd (Zf ?_)))))
 exact Zxn (ZEJ (ZIx i hi hS hk))
theorem ZEu {n:Int} (hk:K (.bool false) w):Cl prog 225 #[.nilIface,noV n] w K:=by
 refine Zfm ?_
 unfold Zlp
 exact Zy7 (Zd (Zd (Yv (Zi (ZFP hk)))))
def ZtO (er:Int):Prop:=er=110∨er=3∨er=4∨er=2
theorem ZzY {t:Nat} {k:Key} {er:Int} (hS:Sat e w (BT t k er::Q)) (he:ZtO er) (hk:∀w',Sat e w' Q→K (.int .i64 er) w'):Cl prog 215 #[erV t] w K:=by
 refine ZeI ?_
 unfold Zkf
 refine Zfk (Yi [110,3,4,2]) hS (by kernel_rfl) λb w2 h2=>?_
 have hr:∀g,blk b 30 (Yi [110,3,4,2]) g→rdS 1 (Ye .i64) (.slice (some ⟨b,0,none⟩) 4 4) [110,3,4,2] g:=Zbx (f:=Ye .i64) [110,3,4,2] rfl (Nat.le_refl _)
 refine Zt h2 0 rfl hr ?_
 refine Zdk (λq x w'=>∃j:Nat,x=.int .i64 j∧j≤4∧q=4 - j∧(∀n∈[(110:Int),3,4,2].take j,n≠er)∧w'=w2) 4 ⟨0,rfl,by omega,rfl,by simp,rfl⟩ ?_
 rintro q x w' g ⟨j,rfl,hj,rfl,hno,rfl⟩ hg
 refine Za7 (λc=>Zi ?_) (λc=>Zf ?_)
 ·replace c:(j:Int)<4:=c
  obtain ⟨n,hn⟩:=Zk (l:=[(110:Int),3,4,2]) (j:=j) (by simp;omega)
  refine Zw h2 0 rfl hr (λ_=>rfl) hn λa ha=>Yt h2 0 rfl ha (v:=.int .i64 n) rfl ?_
  refine ZIp 1 rfl h2 ?_
  by_cases hen:er=n
  ·rw[beq_iff_eq.2 hen]
   refine Zi ?_
   rw[←hen]
   exact hk _ h2.drop.drop
  ·rw[beq_eq_false_iff_ne.2 hen]
   refine Zf (Yr (by omega) ?_)
   refine hg _ _ _ (by omega) ⟨j+1,rfl,by omega,rfl,λy hy=>?_,rfl⟩
   rw[Zx hn] at hy
   rcases List.mem_append.1 hy with h | h
   ·exact hno y h
   ·rw[List.mem_singleton.1 h];exact λh=>hen h.symm
 ·exfalso
  replace c:¬(j:Int)<4:=c
  have ej:j=4:=by omega
  subst ej
  rcases he with rfl | rfl | rfl | rfl
  ·exact hno 110 (by decide) rfl
  ·exact hno 3 (by decide) rfl
  ·exact hno 4 (by decide) rfl
  ·exact hno 2 (by decide) rfl
theorem Zvr (hS:Sat e w Q) (hk:∀w',Sat e w' Q→K (.int .i64 0) w'):Cl prog 215 #[.nilIface] w K:=by
 refine ZeI ?_
 unfold Zkf
 refine Zfk (Yi [110,3,4,2]) hS (by kernel_rfl) λb w2 h2=>?_
 have hr:∀g,blk b 30 (Yi [110,3,4,2]) g→rdS 1 (Ye .i64) (.slice (some ⟨b,0,none⟩) 4 4) [110,3,4,2] g:=Zbx (f:=Ye .i64) [110,3,4,2] rfl (Nat.le_refl _)
 refine Zt h2 0 rfl hr ?_
 refine Zdk (λq x w'=>∃j:Nat,x=.int .i64 j∧j≤4∧q=4 - j∧w'=w2) 4 ⟨0,rfl,by omega,rfl,rfl⟩ ?_
 rintro q x w' g ⟨j,rfl,hj,rfl,rfl⟩ hg
 refine Za7 (λc=>Zi ?_) (λc=>Zf (hk _ h2.drop))
 replace c:(j:Int)<4:=c
 obtain ⟨n,hn⟩:=Zk (l:=[(110:Int),3,4,2]) (j:=j) (by simp;omega)
 refine Zw h2 0 rfl hr (λ_=>rfl) hn λa ha=>Yt h2 0 rfl ha (v:=.int .i64 n) rfl ?_
 refine ZEu (Zf (Yr (by omega) ?_))
 exact hg _ _ _ (by omega) ⟨j+1,rfl,by omega,rfl,rfl⟩
theorem Zqi {k:Key} {er:Int} (hS:Sat e w Q) (hk:∀t w',Sat e w' (BT t k er::Q)→K (erV t) w'):Cl prog 221 #[.agg k.cs.toArray,.int .i64 er] w K:=by
 refine Zmd ?_
 unfold Zpt
 refine Yp (cs:=k.cs) hS rfl λb w1 h1=>?_
 refine Zo h1 0 (vs:=k.cs) rfl (by rfl) rfl ?_
 refine Zaf (k.cs++[noV er]) (by kernel_rfl) ?_
 refine Yp (cs:=k.cs++[noV er]) h1 rfl λt w2 h2=>?_
 exact hk t _ (h2.selR [_,_] [_] [0] (by decide) rfl)
structure Zan where
 (n begun over:Int) (T Rp:Nat→Int) (on0 on1 least value:Int)
def Zan.ns (c:Zan):List Int:=[c.n,c.begun,c.over,c.T 0,c.Rp 0,c.T 1,c.Rp 1,c.T 2,c.Rp 2,c.T 3,c.Rp 3,c.T 4,c.Rp 4,c.T 5,c.Rp 5,c.T 6,c.Rp 6,c.T 7,c.Rp 7,c.on0,c.on1,c.least,c.value]
def Zan.zero (n:Int):Zan:=⟨n,0,0,λ_=>0,λ_=>0,0,0,0,0⟩
def ZBt (f:Nat→Int) (i:Nat) (x:Int):Nat→Int:=λk=>if k=i then x else f k
def ZbI (g:Nat) (c:Zan):HP:=blk g 145 (Yi c.ns)
theorem Zlc (c:Zan):∀j,j<8→((Yi c.ns).drop (3+j*2)).take 2=Yi [c.T j,c.Rp j]
 | 0,_=>rfl | 1,_=>rfl | 2,_=>rfl | 3,_=>rfl | 4,_=>rfl | 5,_=>rfl | 6,_=>rfl | 7,_=>rfl
 | n+8,h=>by omega
theorem ZFL (c:Zan):∀j,j<8→(Yi c.ns)[3+j*2+0]?=some (.int .i64 (c.T j))
 | 0,_=>rfl | 1,_=>rfl | 2,_=>rfl | 3,_=>rfl | 4,_=>rfl | 5,_=>rfl | 6,_=>rfl | 7,_=>rfl
 | n+8,h=>by omega
theorem Zxs (c:Zan) (x:Int):∀j,j<8→wrL (Yi c.ns) (3+j*2+0) [.int .i64 x]=Yi (Zan.ns { c with T:=ZBt c.T j x })
 | 0,_=>rfl | 1,_=>rfl | 2,_=>rfl | 3,_=>rfl | 4,_=>rfl | 5,_=>rfl | 6,_=>rfl | 7,_=>rfl
 | n+8,h=>by omega
theorem Zv0 (c:Zan) (x:Int):∀j,j<8→wrL (Yi c.ns) (3+j*2+1) [.int .i64 x]=Yi (Zan.ns { c with Rp:=ZBt c.Rp j x })
 | 0,_=>rfl | 1,_=>rfl | 2,_=>rfl | 3,_=>rfl | 4,_=>rfl | 5,_=>rfl | 6,_=>rfl | 7,_=>rfl
 | n+8,h=>by omega
theorem ZdC (c:Zan):(Yi c.ns).length=23:=rfl
theorem ZuG {n:Int} (h1:1≤n) (h2:n≤8) (hS:Sat e w R) (hk:∀g w',Sat e w' (ZbI g (Zan.zero n)::R)→K (.tuple #[.pointer (some ⟨g,0,none⟩),.int .i64 0]) w'):Cl prog 21 #[.int .i64 n] w K:=by
 refine ZoD ?_
 unfold Zvg
 refine Ze7 (by omega) (Zj (Ze (Zle (by omega) (Yd (Zf ?_)))))
 rw[ZQy]
 refine Zaf (Yi (Zan.zero n).ns) (by kernel_rfl) ?_
 refine Yp (cs:=Yi (Zan.zero n).ns) hS rfl λg w2 h2=>?_
 exact hk _ _ h2
theorem ZjA {g:Nat} {c:Zan} {i:Int} (hS:Sat e w (ZbI g c::R)) (hk:K (.bool (decide (0≤i∧i<c.n))) w):Cl prog 85 #[.pointer (some ⟨g,0,none⟩),.int .i64 i] w K:=by
 refine Zk7 ?_
 unfold Zns
 refine Zu5 (λc1=>?_) (λc1=>?_)
 ·refine Ze (Ze (Ze (Zh (Ze (Za (Ze ?_))))))
  refine Zb hS 0 rfl (v:=.int .i64 c.n) rfl ?_
  refine Ze (ZwL ?_)
  refine Yv ?_
  rw[show decide (0≤i∧i<c.n)=decide (i<c.n) from by simp[c1]] at hk
  exact hk
 ·refine Zu (Zu (Zd (Zd (Zd (Zd (Yd ?_))))))
  rw[show decide (0≤i∧i<c.n)=false from by simp;omega] at hk
  exact hk
theorem Zel {g:Nat} {c:Zan} (hS:Sat e w (ZbI g c::R)) (hk:∀w',Sat e w' (ZbI g c::R)→K (.bool (decide (c.over<c.begun))) w'):Cl prog 84 #[.pointer (some ⟨g,0,none⟩)] w K:=by
 refine Zh7 ?_
 unfold Zjj
 refine ZaY hS λw1 h1=>?_
 refine Zh (Za ?_)
 refine Zb h1 0 rfl (v:=.int .i64 c.begun) rfl ?_
 refine Zh (Za ?_)
 refine Zb h1 0 rfl (v:=.int .i64 c.over) rfl ?_
 exact ZFJ (hk _ h1)
theorem Zrc {g:Nat} {c:Zan} (hS:Sat e w (ZbI g c::R)) (hk:K (.int .i64 c.value) w):Cl prog 92 #[.pointer (some ⟨g,0,none⟩)] w K:=by
 refine Zhn ?_
 unfold ZiR
 refine Zh (Za ?_)
 exact Zb hS 0 rfl (v:=.int .i64 c.value) rfl hk
theorem ZfD {g:Nat} {c:Zan} (hS:Sat e w (ZbI g c::R)) (hk:K (.int .i64 c.over) w):Cl prog 88 #[.pointer (some ⟨g,0,none⟩)] w K:=by
 refine ZgA ?_
 unfold ZgY
 refine Zh (Za ?_)
 exact Zb hS 0 rfl (v:=.int .i64 c.over) rfl hk
theorem Zo0 {g:Nat} {c:Zan} {i:Nat} (hi:i<8) (hin:(i:Int)<c.n) (hS:Sat e w (ZbI g c::R)) (hk:K (.int .i64 (c.T i % 2)) w):Cl prog 109 #[.pointer (some ⟨g,0,none⟩),.int .i64 i] w K:=by
 refine ZgH ?_
 unfold Zg2
 refine ZjA hS ?_
 rw[decide_eq_true (show 0≤(i:Int)∧(i:Int)<c.n from ⟨by omega,hin⟩)]
 refine ZaJ (Zf (Zh (Za ?_)))
 refine Zcb hi ?_
 refine Za ?_
 refine Zb hS 0 rfl (ZFL c i hi) ?_
 exact ZxU hk
theorem Zqy {g:Nat} {c:Zan} (hb:0≤c.begun∧c.begun≤1000000) (hS:Sat e w (ZbI g c::R))
  (hk:∀w',Sat e w' (ZbI g (if c.over<c.begun then c else { c with begun:=c.begun+1,least:=Inf })::R)→K (.int .i64 (if c.over<c.begun then 130 else 0)) w'):Cl prog 53 #[.pointer (some ⟨g,0,none⟩)] w K:=by
 refine Zh4 ?_
 unfold Ziu
 refine Zel hS λw1 h1=>?_
 by_cases hu:c.over<c.begun
 ·rw[if_pos hu,if_pos hu] at hk
  rw[decide_eq_true hu]
  exact Zi (hk _ h1)
 ·rw[if_neg hu,if_neg hu] at hk
  rw[decide_eq_false hu]
  refine Zf (Zh (Za ?_))
  refine Zb h1 0 rfl (v:=.int .i64 c.begun) rfl ?_
  refine ZcD (by omega) (by omega) ?_
  refine Zh (Za ?_)
  refine Zq h1 0 rfl (vs:=[.int .i64 (c.begun+1)]) rfl rfl (by rw[ZdC];decide) (by simp[flat]) (cs':=Yi (Zan.ns { c with begun:=c.begun+1 })) (by rfl) λw2 h2=>?_
  refine Zh (Za ?_)
  refine Zq h2 0 rfl (vs:=[.int .i64 Inf]) rfl rfl (by rw[ZdC];decide) (by simp[flat]) (cs':=Yi (Zan.ns { c with begun:=c.begun+1,least:=Inf })) (by rfl) λw3 h3=>?_
  exact hk _ h3
theorem Zou {t r q:Int} (hS:Sat e w R) (hk:∀w',Sat e w' R→K (.bool (decide (t=q))) w'):Cl prog 86 #[.agg (Yi [t,r]).toArray,.int .i64 q] w K:=by
 refine ZgN ?_
 unfold Zg5
 refine Yp (cs:=Yi [t,r]) hS rfl λb w1 h1=>?_
 refine Za ?_
 refine Zb h1 0 rfl (v:=.int .i64 t) rfl ?_
 exact ZBD (hk _ h1.drop)
theorem Znk {t r q:Int} (hS:Sat e w R) (hk:∀w',Sat e w' R→K (.bool (decide (r=q))) w'):Cl prog 112 #[.agg (Yi [t,r]).toArray,.int .i64 q] w K:=by
 refine Ze6 ?_
 unfold ZeB
 refine Yp (cs:=Yi [t,r]) hS rfl λb w1 h1=>?_
 refine Za ?_
 refine Zb h1 0 rfl (v:=.int .i64 r) rfl ?_
 exact ZBD (hk _ h1.drop)
def Zan.all (c:Zan) (p:Int→Int→Bool):Bool:=(List.range c.n.toNat).all λj=>p (c.T j) (c.Rp j)
theorem ZpV {g:Nat} {c:Zan} {fv:Value} (p:Int→Int→Bool) (hn:0≤c.n∧c.n≤8) (hS:Sat e w (ZbI g c::R))
  (hp:∀(w:World) (R:List HP) (K:KV) (t r:Int),Sat e w R→(∀w',Sat e w' R→K (.bool (p t r)) w')→clV prog fv #[.agg (Yi [t,r]).toArray,.int .i64 c.begun] w K)
  (hk:∀w',Sat e w' (ZbI g c::R)→K (.bool (c.all p)) w'):Cl prog 111 #[.pointer (some ⟨g,0,none⟩),fv] w K:=by
 obtain ⟨n,hn'⟩:∃n:Nat,c.n=n:=⟨c.n.toNat,by omega⟩
 refine Zkg ?_
 unfold ZlT
 refine ZaY hS λw1 h1=>?_
 refine Zh (Za (Zh (Za ?_)))
 refine Zb h1 0 rfl (v:=.int .i64 c.n) rfl ?_
 rw[hn']
 refine ZGk (n:=8) (e:=141) (by kernel_rfl) (i:=Tryz.t141) (by kernel_rfl) (by omega) ?_
 refine ⟨_,_,_,rfl,?_⟩
 refine Zdk (λm t16 w=>∃j:Nat,j≤n∧t16=.int .i64 j∧m=n - j∧(∀k,k<j→p (c.T k) (c.Rp k)=true)∧Sat e w (ZbI g c::R)) n
  ⟨0,Nat.zero_le _,rfl,rfl,λk hk=>by omega,h1⟩ ?_
 rintro m _ w g1 ⟨j,hj,rfl,rfl,hall,h2⟩ hg
 refine Za7 (λc2=>Zi ?_) (λc2=>Zf ?_)
 ·refine Zu3 (by omega) ?_
  refine Zo h2 0 rfl (Zlc c j (by omega)) rfl ?_
  rw[ZQl]
  refine Yp (cs:=Yi [0,0]) h2 rfl λb w3 h3=>?_
  refine Zq h3 0 rfl (vs:=Yi [c.T j,c.Rp j]) rfl rfl (by decide) (Zg _) (cs':=Yi [c.T j,c.Rp j]) (by rfl) λw4 h4=>?_
  refine ZaY h4 λw5 h5=>?_
  refine Zo h5 0 (vs:=Yi [c.T j,c.Rp j]) rfl (by rfl) rfl ?_
  refine Zh (Za ?_)
  refine Zb h5 1 rfl (v:=.int .i64 c.begun) rfl ?_
  refine hp _ _ _ _ _ h5.drop λw6 h6=>?_
  cases hpj:p (c.T j) (c.Rp j) with
  | true=>
   refine ZaJ (Zf ?_)
   refine Yr (by omega) ?_
   refine hg _ _ _ (by omega) ⟨j+1,by omega,rfl,rfl,λk hk=>?_,h6⟩
   by_cases hkj:k=j
   ·subst hkj;exact hpj
   ·exact hall k (by omega)
  | false=>
   refine Zch (Zi ?_)
   have hf:c.all p=false:=by
    unfold Zan.all
    rw[List.all_eq_false]
    exact ⟨j,List.mem_range.2 (by omega),by simp[hpj]⟩
   rw[hf] at hk
   exact hk _ h6
 ·have ht:c.all p=true:=by
   unfold Zan.all
   rw[List.all_eq_true]
   intro k hk
   have:=List.mem_range.1 hk
   exact hall k (by omega)
  rw[ht] at hk
  exact hk _ h2
def Zan.turnE (c:Zan) (i:Nat):Int:=if ¬c.over<c.begun∨c.T i=c.begun then 130 else 0
def Zan.turn (c:Zan) (i:Nat):Zan:=if ¬c.over<c.begun∨c.T i=c.begun then c else { c with T:=ZBt c.T i c.begun }
theorem Ztb {g:Nat} {c:Zan} {i:Nat} (hi:i<8) (hin:(i:Int)<c.n) (hS:Sat e w (ZbI g c::R)) (hk:∀w',Sat e w' (ZbI g (c.turn i)::R)→K (.int .i64 (c.turnE i)) w'):Cl prog 54 #[.pointer (some ⟨g,0,none⟩),.int .i64 i] w K:=by
 refine Zjr ?_
 unfold ZkB
 refine ZjA hS ?_
 rw[decide_eq_true (show 0≤(i:Int)∧(i:Int)<c.n from ⟨by omega,hin⟩)]
 refine ZaJ (Zf ?_)
 refine ZaY hS λw1 h1=>?_
 refine Zel h1 λw2 h2=>?_
 by_cases hu:c.over<c.begun
 ·rw[decide_eq_true hu]
  refine ZaJ (Zj (Zj (Zj (Zh (Zj (Za (Zj ?_)))))))
  refine Zcb hi ?_
  refine Zj (Zo h2 0 rfl (Zlc c i hi) rfl ?_)
  refine Zj (Zj (Zh (Zj (Za (Zj ?_)))))
  refine Zb h2 0 rfl (v:=.int .i64 c.begun) rfl ?_
  refine Zj (Zou h2 λw3 h3=>?_)
  by_cases ht:c.T i=c.begun
  ·rw[decide_eq_true ht]
   have e1:c.turnE i=130:=if_pos (.inr ht)
   have e2:c.turn i=c:=if_pos (.inr ht)
   rw[e1,e2] at hk
   refine Yd (Zi ?_)
   exact hk _ h3
  ·rw[decide_eq_false ht]
   have hn:¬(¬c.over<c.begun∨c.T i=c.begun):=by simp[hu,ht]
   have e1:c.turnE i=0:=if_neg hn
   have e2:c.turn i={ c with T:=ZBt c.T i c.begun }:=if_neg hn
   rw[e1,e2] at hk
   refine Yd (Zf (Zh (Za ?_)))
   have h4:=h3.drew
   refine Zb h4 0 rfl (v:=.int .i64 c.begun) rfl ?_
   refine Zh (Za ?_)
   refine Zcb hi ?_
   refine Za ?_
   refine Zq h4 0 rfl (vs:=[.int .i64 c.begun]) rfl rfl (by rw[ZdC];omega) (by simp[flat]) (Zxs c c.begun i hi) λw5 h5=>?_
   exact hk _ h5
 ·rw[decide_eq_false hu]
  have e1:c.turnE i=130:=if_pos (.inl hu)
  have e2:c.turn i=c:=if_pos (.inl hu)
  rw[e1,e2] at hk
  refine Zch (Zd (Zd (Zd (Zd (Zd (Zd (Zd (Zd (Zd (Zd (Zd (Yv (Zi ?_)))))))))))))
  exact hk _ h2
def Zan.on (c:Zan) (k:Int):Int:=if k=0 then c.on0 else c.on1
def Zan.early (c:Zan) (i:Nat):Prop:=¬c.over<c.begun∨c.all (λt _=>decide (t=c.begun))=false∨c.Rp i=c.begun
def Zan.rep1 (c:Zan) (i:Nat) (x:Int):Zan:={ c with Rp:=ZBt c.Rp i c.begun,least:=min c.least x }
def Zan.rep2 (c:Zan):Zan:=if c.all (λ_ r=>decide (r=c.begun))=true then { c with over:=c.begun,value:=max c.value c.least } else c
theorem ZEU (c:Zan) (a:Int):∃j:Nat,j<2∧a % 2=(j:Int)∧(Yi c.ns)[19+j*1]?=some (.int .i64 (c.on (a % 2))):=by
 rcases Int.emod_two_eq a with h | h
 ·exact ⟨0,by omega,h,by rw[h];rfl⟩
 ·exact ⟨1,by omega,h,by rw[h];rfl⟩
theorem Zo1 {g:Nat} {c:Zan} {i:Nat} {x:Int} (hn8:c.n≤8) (hi:i<8) (hin:(i:Int)<c.n) (hx:ZmY x) (hv:Yu x=true) (hS:Sat e w (ZbI g c::R))
  (h130:c.early i→∀w',Sat e w' (ZbI g c::R)→K (.int .i64 130) w')
  (h150:¬c.early i→0<c.on (c.over % 2)→∀w',Sat e w' (ZbI g c::R)→K (.int .i64 150) w')
  (h0:¬c.early i→¬0<c.on (c.over % 2)→∀w',Sat e w' (ZbI g (c.rep1 i x).rep2::R)→K (.int .i64 0) w'):Cl prog 89 #[.pointer (some ⟨g,0,none⟩),.int .i64 i,.int .i64 x] w K:=by
 refine ZgB ?_
 unfold Zha
 refine ZjA hS ?_
 rw[decide_eq_true (show 0≤(i:Int)∧(i:Int)<c.n from ⟨by omega,hin⟩)]
 refine ZaJ (Zj (Ze ?_))
 refine ZcO hx ?_
 rw[hv]
 refine Ze (ZaJ (Yd (Zf ?_)))
 refine ZaY hS λw1 h1=>?_
 refine Zel h1 λw2 h2=>?_
 by_cases hu:c.over<c.begun
 ·rw[decide_eq_true hu]
  refine ZaJ (Zj (Ze ?_))
  refine ZpV (λt _=>decide (t=c.begun)) ⟨by omega,hn8⟩ h2 (λw R K t r h hk=>⟨_,_,_,rfl,Zou h hk⟩) λw3 h3=>?_
  cases ha:c.all (λt _=>decide (t=c.begun)) with
  | false=>
   refine Zj (Zch (Yd (Zd (Zd (Zd (Zd (Zd (Zd (Zd (Zd (Zd (Zd (Zd (Yv (Zi ?_)))))))))))))))
   exact h130 (.inr (.inl ha)) _ h3
  | true=>
   refine Zj (ZaJ (Yd (Zj (Zj (Zj (Zh (Zj (Za (Zj ?_)))))))))
   refine Zcb hi ?_
   refine Zj (Zo h3 0 rfl (Zlc c i hi) rfl ?_)
   refine Zj (Zj (Zh (Zj (Za (Zj ?_)))))
   refine Zb h3 0 rfl (v:=.int .i64 c.begun) rfl ?_
   refine Zj (Znk h3 λw4 h4=>?_)
   by_cases ht:c.Rp i=c.begun
   ·rw[decide_eq_true ht]
    refine Yd (Zi ?_)
    exact h130 (.inr (.inr ht)) _ h4
   ·rw[decide_eq_false ht]
    have hne:¬c.early i:=by unfold Zan.early;rw[ha];simp[hu,ht]
    refine Yd (Zf (Zh (Za ?_)))
    have h5:=h4.drew
    refine Zb h5 0 rfl (v:=.int .i64 c.over) rfl ?_
    refine Zh (Za ?_)
    refine ZxU ?_
    obtain ⟨j,hj,hj2,hj3⟩:=ZEU c c.over
    rw[hj2]
    refine Zcb hj ?_
    refine Zb h5 0 rfl hj3 ?_
    refine Ztu (λc5=>Zi (h150 hne c5 _ h5)) (λc5=>Zf ?_)
    replace h0:=h0 hne c5
    refine ZaY h5 λw6 h6=>?_
    refine Zh (Za ?_)
    refine Zb h6 0 rfl (v:=.int .i64 c.begun) rfl ?_
    refine Zh (Za ?_)
    refine Zcb hi ?_
    refine Za ?_
    refine Zq h6 0 rfl (vs:=[.int .i64 c.begun]) rfl rfl (by rw[ZdC];omega) (by simp[flat]) (Zv0 c c.begun i hi) λw7 h7=>?_
    refine Zh (Za ?_)
    refine Zb h7 0 rfl (v:=.int .i64 c.least) rfl ?_
    refine Zty ?_
    refine Zh (Za ?_)
    refine Zq h7 0 rfl (vs:=[.int .i64 (min c.least x)]) rfl rfl (by rw[ZdC];decide) (by simp[flat]) (cs':=Yi (c.rep1 i x).ns) (by rfl) λw8 h8=>?_
    refine ZpV (c:=c.rep1 i x) (λ_ r=>decide (r=c.begun)) ⟨by show 0≤c.n;omega,hn8⟩ h8 (λw R K t r h hk=>⟨_,_,_,rfl,Znk h hk⟩) λw9 h9=>?_
    refine J0.cut (λw=>Sat e w (ZbI g (c.rep1 i x).rep2::R)) (λk1 hcut=>?_) (λw h=>h0 _ h)
    cases hb:(c.rep1 i x).all (λ_ r=>decide (r=c.begun)) with
    | false=>
     refine Zf (hcut _ ?_)
     have:(c.rep1 i x).rep2=c.rep1 i x:=if_neg (by show ¬(c.rep1 i x).all (λ_ r=>decide (r=c.begun))=true;rw[hb];decide)
     rw[this]
     exact h9
    | true=>
     have:(c.rep1 i x).rep2={ c.rep1 i x with over:=c.begun,value:=max c.value (min c.least x) }:=if_pos hb
     rw[this] at hcut
     refine Zi (Zh (Za ?_))
     refine Zb h9 0 rfl (v:=.int .i64 c.begun) rfl ?_
     refine Zh (Za ?_)
     refine Zq h9 0 rfl (vs:=[.int .i64 c.begun]) rfl rfl (by rw[ZdC];decide) (by simp[flat]) (cs':=Yi (Zan.ns { c.rep1 i x with over:=c.begun })) (by rfl) λw10 h10=>?_
     refine ZaY h10 λw11 h11=>?_
     refine Zh (Za ?_)
     refine Zb h11 0 rfl (v:=.int .i64 c.value) rfl ?_
     refine Zh (Za ?_)
     refine Zb h11 0 rfl (v:=.int .i64 (min c.least x)) rfl ?_
     refine ZwQ ?_
     refine Zh (Za ?_)
     refine Zq h11 0 rfl (vs:=[.int .i64 (max c.value (min c.least x))]) rfl rfl (by rw[ZdC];decide) (by simp[flat]) (cs':=Yi (Zan.ns { c.rep1 i x with over:=c.begun,value:=max c.value (min c.least x) })) (by rfl) λw12 h12=>?_
     exact hcut _ h12
 ·rw[decide_eq_false hu]
  refine Zch (Zd (Zd (Zd (Yv (Zd (Zd (Zd (Zd (Zd (Zd (Zd (Zd (Zd (Zd (Zd (Yv (Zi ?_)))))))))))))))))
  exact h130 (.inl hu) _ h2
def bl (b:Bool):List Value:=[.bool b]
def Zan.setOn (c:Zan) (k x:Int):Zan:=if k=0 then { c with on0:=x } else { c with on1:=x }
theorem Zqs (c:Zan) (a x:Int):∃j:Nat,j<2∧a % 2=(j:Int)∧(Yi c.ns)[19+j*1]?=some (.int .i64 (c.on (a % 2)))∧wrL (Yi c.ns) (19+j*1) [.int .i64 x]=Yi (c.setOn (a % 2) x).ns:=by
 rcases Int.emod_two_eq a with h | h
 ·exact ⟨0,by omega,h,by rw[h];rfl,by rw[h];rfl⟩
 ·exact ⟨1,by omega,h,by rw[h];rfl,by rw[h];rfl⟩
def Zan.sent (c:Zan) (i:Nat) (t:Int):Zan:=
 if c.over<c.begun∧c.T i=c.begun then { c.setOn (c.T i % 2) (c.on (c.T i % 2)+1) with least:=min c.least t } else c.setOn (c.T i % 2) (c.on (c.T i % 2)+1)
theorem Zan.setOn_begun (c:Zan) (k x:Int):(c.setOn k x).begun=c.begun:=by unfold Zan.setOn;split <;> rfl
theorem Zan.setOn_over (c:Zan) (k x:Int):(c.setOn k x).over=c.over:=by unfold Zan.setOn;split <;> rfl
theorem Zan.setOn_T (c:Zan) (k x:Int):(c.setOn k x).T=c.T:=by unfold Zan.setOn;split <;> rfl
theorem Zan.setOn_least (c:Zan) (k x:Int):(c.setOn k x).least=c.least:=by unfold Zan.setOn;split <;> rfl
theorem Zur (c:Zan):(Yi c.ns)[1]?=some (.int .i64 c.begun)∧(Yi c.ns)[21]?=some (.int .i64 c.least):=⟨rfl,rfl⟩
theorem Zpi (c:Zan) (x:Int):wrL (Yi c.ns) 21 [.int .i64 x]=Yi (Zan.ns { c with least:=x }):=rfl
theorem Zte {g:Nat} {c:Zan} {i:Nat} {t:Int} (hi:i<8) (hin:(i:Int)<c.n) (hx:ZmY t) (hv:Yu t=true) (hb:∀k,-1000000≤c.on k∧c.on k≤1000000) (hS:Sat e w (ZbI g c::R))
  (hk:∀w',Sat e w' (ZbI g (c.sent i t)::R)→K (.tuple #[.int .i64 (c.T i % 2),.int .i64 0]) w'):Cl prog 78 #[.pointer (some ⟨g,0,none⟩),.int .i64 i,.int .i64 t] w K:=by
 refine Zjy ?_
 unfold ZkR
 refine ZjA hS ?_
 rw[decide_eq_true (show 0≤(i:Int)∧(i:Int)<c.n from ⟨by omega,hin⟩)]
 refine ZaJ (Zj (Ze ?_))
 refine ZcO hx ?_
 rw[hv]
 refine Ze (ZaJ (Yd (Zf ?_)))
 refine Zo0 hi hin hS ?_
 refine ZaY hS λw1 h1=>?_
 obtain ⟨j,hj,hj2,hj3,hj4⟩:=Zqs c (c.T i) (c.on (c.T i % 2)+1)
 have hbk:=hb (c.T i % 2)
 refine Zh (Za ?_)
 rw[hj2]
 refine Zcb hj (Zb h1 0 rfl hj3 ?_)
 rw[hj2] at hbk ⊢
 refine ZcD (by omega) (by omega) ?_
 refine Zh (Za (Zcb hj ?_))
 rw[hj2] at hj4
 refine Zq h1 0 rfl (vs:=[.int .i64 (c.on j+1)]) rfl rfl (by rw[ZdC];omega) (by simp[flat]) (cs':=Yi (c.setOn j (c.on j+1)).ns) hj4 λw2 h2=>?_
 refine ZaY h2 λw3 h3=>?_
 refine Zel (c:=c.setOn j (c.on j+1)) h3 λw4 h4=>?_
 rw[Zan.setOn_begun,Zan.setOn_over]
 by_cases hu:c.over<c.begun
 ·rw[decide_eq_true hu]
  refine Ze (Ze (Ze (Zh (Ze (Za (Ze ?_))))))
  refine Zcb hi ?_
  refine Ze (Zo h4 0 rfl (Zlc _ i hi) rfl ?_)
  refine Ze (Ze (Zh (Ze (Za (Ze ?_)))))
  refine Zb h4 0 rfl (Zur _).1 ?_
  refine Ze (Zou h4 λw5 h5=>?_)
  rw[Zan.setOn_T,Zan.setOn_begun]
  by_cases ht:c.T i=c.begun
  ·rw[decide_eq_true ht]
   refine Yv (Zi (Zh (Za ?_)))
   refine Zb h5 0 rfl (Zur _).2 ?_
   refine Zty ?_
   refine Zh (Za ?_)
   refine Zq h5 0 rfl (vs:=[.int .i64 (min (c.setOn j (c.on j+1)).least t)]) rfl rfl (by rw[ZdC];decide) (by simp[flat]) (Zpi _ _) λw6 h6=>?_
   have e1:c.sent i t={ c.setOn j (c.on j+1) with least:=min c.least t }:=by
    unfold Zan.sent
    rw[if_pos ⟨hu,ht⟩,hj2]
   rw[Zan.setOn_least] at h6
   rw[e1,hj2] at hk
   exact hk _ h6
  ·rw[decide_eq_false ht]
   refine Yv (Zf ?_)
   have e1:c.sent i t=c.setOn j (c.on j+1):=by
    unfold Zan.sent
    rw[if_neg (λh=>ht h.2),hj2]
   rw[e1,hj2] at hk
   exact hk _ h5
 ·rw[decide_eq_false hu]
  refine Zu (Zu (Zu (Zu (Zu (Zu (Zu (Zu (Zu (Zu (Zd (Yd (Zf ?_))))))))))))
  have e1:c.sent i t=c.setOn j (c.on j+1):=by
   unfold Zan.sent
   rw[if_neg (λh=>hu h.1),hj2]
  rw[e1,hj2] at hk
  exact hk _ h4
def Zan.gotE (c:Zan) (k:Int):Int:=if ¬(0≤k∧k≤1)∨c.on k=0 then 1 else 0
def Zan.got (c:Zan) (k:Int):Zan:=if ¬(0≤k∧k≤1)∨c.on k=0 then c else c.setOn k (c.on k - 1)
theorem ZtM {g:Nat} {c:Zan} {i:Nat} {k:Int} (hin:(i:Int)<c.n) (hb:∀k,-1000000≤c.on k∧c.on k≤1000000) (hS:Sat e w (ZbI g c::R))
  (hk:∀w',Sat e w' (ZbI g (c.got k)::R)→K (.int .i64 (c.gotE k)) w'):Cl prog 83 #[.pointer (some ⟨g,0,none⟩),.int .i64 i,.int .i64 k] w K:=by
 refine ZjO ?_
 unfold ZmI
 refine ZjA hS ?_
 rw[decide_eq_true (show 0≤(i:Int)∧(i:Int)<c.n from ⟨by omega,hin⟩)]
 refine ZaJ (Zj (Zj (Zx8 ?_)))
 by_cases hk1:0≤k∧k≤1
 ·refine Zj (ZoP (by omega) ?_)
  obtain ⟨j,hj,hj2,hj3,hj4⟩:=Zqs c k (c.on (k % 2) - 1)
  have hkm:k % 2=k:=by omega
  rw[hkm] at hj2 hj3 hj4
  have hbk:=hb k
  refine Yd (Zj (Zj (Ze (Zh (Ze (Za (Ze ?_)))))))
  rw[hj2] at hj3 hj4 hbk ⊢
  refine Zcb hj (Zj (Zb hS 0 rfl hj3 ?_))
  by_cases h0:c.on k=0
  ·rw[hj2] at h0
   refine Ze (Znq (by omega) (Yd (Zi ?_)))
   have e1:c.gotE k=1:=if_pos (.inr (by rw[hj2];exact h0))
   have e2:c.got k=c:=if_pos (.inr (by rw[hj2];exact h0))
   rw[e1,e2] at hk
   exact hk _ hS
  ·have hn:¬(¬(0≤k∧k≤1)∨c.on k=0):=λh=>h.elim (λh=>h hk1) h0
   have e1:c.gotE k=0:=if_neg hn
   have e2:c.got k=c.setOn k (c.on k - 1):=if_neg hn
   rw[e1,e2,hj2] at hk
   rw[hj2] at h0
   refine Ze (Zd8 (by omega) (Yd (Zf (Zh (Za ?_)))))
   have h1:=hS.drew
   refine Zcb hj (Zb h1 0 rfl hj3 ?_)
   refine ZoJ (by omega) (by omega) ?_
   refine Zh (Za (Zcb hj ?_))
   refine Zq h1 0 rfl (vs:=[.int .i64 (c.on j - 1)]) rfl rfl (by rw[ZdC];omega) (by simp[flat]) hj4 λw2 h2=>?_
   exact hk _ h2
 ·refine Zj (Zng (by omega) ?_)
  refine Yd (Zd (Zd (Zd (Zd (Zd (Zd (Zd (Yv (Zi ?_)))))))))
  have e1:c.gotE k=1:=if_pos (.inl hk1)
  have e2:c.got k=c:=if_pos (.inl hk1)
  rw[e1,e2] at hk
  exact hk _ hS
end Go.Proofs.YtkpdpddmaoablaaGreat
end
