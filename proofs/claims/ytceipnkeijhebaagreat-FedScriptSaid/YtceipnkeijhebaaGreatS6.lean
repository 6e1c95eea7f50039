/- Texts of the proof, joined. Conditions: none. -/
import Derived.Test.YtceipnkeijhebaaGreatS5
import Derived.Shelf.SlSortCmp.NoneTotal
section
namespace Go.E
open Go.RowKit Go.Shelf
theorem Sat.grown {W w:World} (h:Sat W w [Old W]):∃q os,w=Go.Sort.grow (W.drewN q) os:=by
 refine ⟨w.drawn - W.drawn,w.heap.extract W.heap.size w.heap.size,?_⟩;obtain ⟨h1,h2,d,s1,s2,ho,_⟩:=h.mem;have hsz:=h.size;have hdr:=h.drawn;have hheap:w.heap=W.heap++w.heap.extract W.heap.size w.heap.size:=by
  apply Array.ext_getElem?;intro i;by_cases hi:i<W.heap.size
  .rw[Array.getElem?_append_left hi,Array.getElem?_eq_getElem hi];have h3:h1 i=W.heap[i]?:=ho i hi;rw[Array.getElem?_eq_getElem hi] at h3;exact s1 i _ h3
  .rw[Array.getElem?_append_right (by omega),Array.getElem?_extract];by_cases hi2:i<w.heap.size
   .rw[if_pos (by omega)];congr 1;omega
   .rw[if_neg (by omega),Array.getElem?_eq_none (by omega)]
 have e1:=h.os;have e2:=h.tape;have e3:=h.output;cases w with
 | mk heap tape drawn os output=>
  cases W with
  | mk heap' tape' drawn' os' output'=>
   simp only[Go.Sort.grow,World.drewN] at*;subst e1 e2 e3;rw[<-hheap];congr 1;omega
section
variable {α:Type} {size:Nat} {f:α->List Value}
theorem ZkI (hf:∀x,(f x).length=size):∀(l:List α) (j r:Nat) (x:α),r<size->l[j]?=some x->(l.flatMap f)[j*size+r]?=(f x)[r]?
 | [],j,r,x,_,h=>by simp at h
 | y::l,0,r,x,hr,h=>by
  simp at h;subst h;rw[List.flatMap_cons,Nat.zero_mul,Nat.zero_add,List.getElem?_append_left (by rw[hf];exact hr)]
 | y::l,j+1,r,x,hr,h=>by
  simp only[List.getElem?_cons_succ] at h;rw[List.flatMap_cons,List.getElem?_append_right (by rw[hf,Nat.add_mul];omega),hf,show (j+1)*size+r - size=j*size+r by rw[Nat.add_mul];omega];exact ZkI hf l j r x hr h
variable [Inhabited α]
theorem Zm8 (hf:∀x,(f x).length=size) (d:Array α):(Go.Sort.flatK f size d).toList=d.toList.flatMap f:=by
 apply List.ext_getElem?;intro t;have hlen:(d.toList.flatMap f).length=d.size*size:=by rw[Zy hf];simp
 by_cases ht:t<d.size*size
 .have h0:0<size:=by
   rcases Nat.eq_zero_or_pos size with h | h
   .subst h;simp at ht
   .exact h
  have hj:t / size<d.size:=by rw[Nat.div_lt_iff_lt_mul h0];exact ht
  have hr:=Nat.mod_lt t h0;have h1:=ZkI hf d.toList (t / size) (t % size) d[t / size] hr (by rw[List.getElem?_eq_getElem hj];simp);rw[show t / size*size+t % size=t from by rw[Nat.mul_comm];exact Nat.div_add_mod t size] at h1;rw[h1];have h2:=Go.Sort.get_flatK f size d t ht;rw[Array.getElem?_toList,Array.getElem?_eq_getElem (by rw[Go.Sort.size_flatK];exact ht)];rw[getElem!_pos _ t (by rw[Go.Sort.size_flatK];exact ht)] at h2;rw[h2,getElem!_pos d _ hj,getElem!_pos (f d[t / size]) _ (by rw[hf];exact hr),List.getElem?_eq_getElem (by rw[hf];exact hr)]
 .rw[Array.getElem?_toList,Array.getElem?_eq_none (by rw[Go.Sort.size_flatK];omega),List.getElem?_eq_none (by omega)]
variable {P:Program} {ρ:Ren} {e w:World} {R:List HP} {K:KV} {t:TypeId} {v:Value} {l:List α}
theorem ZyV (L:Go.Proofs.SlLaysF0.n6 P ρ) (aE:∀w,(isAgg<|ρ.t 24).run P w=.ok true w) (zE:∀w,(Go.sizeOf<|ρ.t 24).run P w=.ok size w) (hf:∀x,(f x).length=size) (hff:∀x,∀v∈f x,v.oneCell'=true)
  (cf:α->α->Int) (hO:Go.Sort.SWO<|Go.Proofs.ltOf cf) {g:FuncId} {cb:Array Value} (hg:ZdL P g=true) (hroot:ZdL P (ρ.f 6)=true)
  (hcmp:∀(e W:World) (R:List HP) (K:KV) (x y:α),Sat e W R->(∀w',Sat e w' R->K (Iw<|cf x y) w')->Cl P g (#[.agg (f x).toArray,.agg (f y).toArray]++cb) W K)
  (hlen:l.length<2305843009213693952) (hS:Sat e w<|Zz t size f v l::R)
  (hk:∀l' w',l'.Perm l->(l'.Pairwise λa b=>Go.Proofs.ltOf cf b a=false)->Sat e w' (Zz t size f v l'::R)->K (.tuple #[]) w') :
  Cl P (ρ.f 6) #[v,.func (.func g) #[] cb] w K:=by
 refine Cl.mk hroot ?_;by_cases h0:l.length=0
 .have hl0:l=[]:=List.length_eq_zero_iff.1 h0;subst hl0;obtain ⟨A,c,rfl,_⟩:=hS.shape 0 rfl<|λ_ hg=>Zp hg;refine Calls.mono (Go.Proofs.AnyF.slices_SortFunc_none (P:=P) (ρ:=ρ) { L with } A c _ w) ?_;rintro ev w' ⟨rfl,rfl⟩;exact ⟨_,rfl,hk [] _ (.refl _) List.Pairwise.nil hS⟩
 .obtain ⟨h1,h2,dis,s1,s2,hown,hr⟩:=hS.mem;rcases hown with ⟨_,hl0⟩ | ⟨b,c,cs,rfl,hb,hcs,hlc,htk⟩
  .rw[hl0] at h0;exact absurd rfl h0
  have hh:w.heap[b]?=some (.cells cs.toArray t (0,0)):=s1 _ _ hb;have hlt:b<w.heap.size:=(Array.getElem?_eq_some_iff.1 hh).1;have hsz:l.toArray.size=l.length:=by simp
  have hrow:l.length*size<=cs.length:=by rw[hcs];exact Nat.mul_le_mul_right _ hlc
  have hH:Go.Sort.HoldsK f size w b 0 l.toArray:=by
   intro j hj;rw[Go.Sort.size_flatK,hsz] at hj;have hfl:(Go.Sort.flatK f size l.toArray)[j]! = (cs[j]?).getD default:=by
    rw[getElem!_pos _ j (by rw[Go.Sort.size_flatK,hsz];exact hj)];have e1:=congrArg (λl=>l[j]?)<|Zm8 hf l.toArray;simp only[Array.getElem?_toList] at e1;rw[Array.getElem?_eq_getElem (by rw[Go.Sort.size_flatK,hsz];exact hj),<-htk,List.getElem?_take,if_pos hj] at e1;rw[<-e1];rfl
   rw[hfl];constructor
   .simp only[World.cell?,hh,id];rw[List.getElem?_eq_getElem (by omega)];simp
   .simp[World.frozen?,hh]
  have hcm:Go.Proofs.CmpLays P g cb f size cf b 0 l.toArray.size w:=by
   intro m os dk _ x y;have:=Cl.ret hg<|hcmp _ _ [Old _] (λv w'=>v=Iw (cf x y)/\∃q os',w'=Go.Sort.grow ((Go.Proofs.sortWorldK f size w b 0 m dk os).drewN q) os') x y (Sat.start<|Go.Proofs.sortWorldK f size w b 0 m dk os)<|λw' h=>⟨rfl,h.grown⟩;refine Calls.mono this ?_;rintro ev w' ⟨v,rfl,rfl,hq⟩;exact ⟨rfl,hq⟩
  have hcon:=Go.Proofs.AnyQ.slices_SortFunc (P:=P) (ρ:=ρ) L size aE zE f hf hff cf hO g cb b 0 c l.toArray w (λargs w=>Zcu hg) hcm hH hlt (by rw[hsz];omega);rw[hsz] at hcon;refine Calls.mono hcon ?_;rintro ev w' ⟨rfl,d',n,os,hp,hs,rfl⟩;refine ⟨_,rfl,?_⟩;have hd:d'.size=l.length:=hp.1.trans hsz;have hperm:d'.toList.Perm l:=by
   have h3:=hp.2.2;have e1:d'.extract 0 l.length=d':=by rw[<-hd];exact Array.extract_size
   have e2:l.toArray.extract 0 l.length=l.toArray:=by rw[<-hsz];exact Array.extract_size
   rw[e1,e2] at h3;exact h3
  have hlen':d'.toList.length=l.length:=by simpa using hd
  have hk':=hk d'.toList (Go.Proofs.sortWorldK f size w b 0 n d' os) hperm (by
   rw[List.pairwise_iff_getElem];intro i j hi hj hij;have:=hs i j (Nat.zero_le _) hij (by simpa [hd] using hj);rw[getElem!_pos d' j (by simpa using hj),getElem!_pos d' i (by simpa using hi)] at this
   simpa using this)
  refine hk' ?_;have hheap:(Go.Proofs.sortWorldK f size w b 0 n d' os).heap=w.heap.modify b (Go.Sort.onCells<|Go.Sort.putCells id 0<|Go.Sort.flatK f size d')++os:=rfl;have hbn:(Go.Proofs.sortWorldK f size w b 0 n d' os).heap[b]?=some (.cells (Go.Sort.putCells id 0 (Go.Sort.flatK f size d') cs.toArray) t (0,0)):=by
   rw[hheap,Array.getElem?_append_left (by simpa using hlt),Array.getElem?_modify,if_pos rfl,hh];rfl
  refine ⟨hS.os,hS.tape,hS.output,Nat.le_trans hS.drawn<|Nat.le_add_right _ _,?_,λx=>if x=b then some (.cells (Go.Sort.putCells id 0 (Go.Sort.flatK f size d') cs.toArray) t (0,0)) else none,h2,λx=>?_,λx o hx=>?_,λx o hx=>?_,?_,hr⟩
  .rw[hheap,Array.size_append,Array.size_modify];have:=hS.size;omega
  .by_cases hx:x=b
   .subst hx;rcases dis x with h | h
    .rw[hb] at h;cases h
    .exact .inr h
   .exact .inl<|if_neg hx
  .by_cases hxb:x=b
   .subst hxb;simp only[if_true] at hx;rw[<-hx];exact hbn
   .simp only[hxb,if_false] at hx;cases hx
  .have hxb:x≠b:=λe=>by
    subst e;rcases dis x with h | h
    .rw[hb] at h;cases h
    .rw[h] at hx;cases hx
   have hxw:w.heap[x]?=some o:=s2 x o hx;have hxl:=(Array.getElem?_eq_some_iff.1 hxw).1;show (Go.Proofs.sortWorldK f size w b 0 n d' os).heap[x]?=some o;rw[hheap,Array.getElem?_append_left (by simpa using hxl),Array.getElem?_modify,if_neg<|λe=>hxb e.symm,hxw]
  .refine .inr ⟨b,c,(Go.Sort.putCells id 0 (Go.Sort.flatK f size d') cs.toArray).toList,?_,?_,?_,?_,?_⟩
   .rw[hlen']
   .simp
   .simpa [Go.Sort.putCells] using hcs
   .rw[hlen'];exact hlc
   .rw[hlen',<-Zm8 hf d'];apply List.ext_getElem?;intro j;rw[List.getElem?_take];by_cases hj:j<l.length*size
    .rw[if_pos hj,Array.getElem?_toList,Array.getElem?_toList];have hj2:j<(Go.Sort.flatK f size d').size:=by rw[Go.Sort.size_flatK,hd];exact hj
     simp only[Go.Sort.putCells,Array.getElem?_mapIdx];rw[Array.getElem?_eq_getElem (show j<cs.toArray.size by simpa using (by omega:j<cs.length)),Array.getElem?_eq_getElem hj2];simp only[Option.map_some];rw[if_pos ⟨Nat.zero_le _,by rw[Nat.zero_add];exact hj2⟩,Nat.sub_zero,getElem!_pos _ j hj2];rfl
    .rw[if_neg hj,Array.getElem?_toList,Array.getElem?_eq_none (by rw[Go.Sort.size_flatK,hd];omega)]
end
end Go.E
end
section
namespace Go.Proofs
open Go.Shelf Go.RowKit Go.Lib Go.Sort
def Tryz.sortMsg_ren:Go.Shelf.Ren:=⟨λ| 6=>247 | 15=>250 | 14=>249 | 28=>259 | 29=>260 | 20=>251 | 21=>252 | 22=>253 | 23=>254 | 24=>255 | 25=>256 | 26=>257 | 27=>258 | 46=>261 | 47=>262 | 48=>263 | 49=>264 | 50=>265 | 57=>266 | n=>n,λ| 22=>80 | 24=>85 | 25=>319 | 3=>3 | 39=>239 | 0=>0 | 53=>307 | 55=>331 | 4=>4 | 46=>324 | 45=>323 | 50=>186 | 5=>5 | 9=>9 | 66=>332 | 70=>336 | 76=>338 | 77=>339 | n=>n,λ| n=>n⟩
theorem Tryz.sortMsg:Go.Proofs.SlLaysF0.n6 Tryz.prog Tryz.sortMsg_ren where
 mixed:=by kernel_rfl
 f6:=⟨Tryz.f247.name,by decide,Tryz.func247.trans<|congrArg some<|by kernel_rfl⟩
 f14:=⟨Tryz.f249.name,by decide,Tryz.func249.trans<|congrArg some<|by kernel_rfl⟩
 f15:=Tryz.func250.trans (congrArg some<|by kernel_rfl)
 f20:=⟨Tryz.f251.name,by decide,Tryz.func251.trans<|congrArg some<|by kernel_rfl⟩
 f21:=⟨Tryz.f252.name,by decide,Tryz.func252.trans<|congrArg some<|by kernel_rfl⟩
 f22:=⟨Tryz.f253.name,by decide,Tryz.func253.trans<|congrArg some<|by kernel_rfl⟩
 f23:=⟨Tryz.f254.name,by decide,Tryz.func254.trans<|congrArg some<|by kernel_rfl⟩
 f24:=⟨Tryz.f255.name,by decide,Tryz.func255.trans<|congrArg some<|by kernel_rfl⟩
 f25:=⟨Tryz.f256.name,by decide,Tryz.func256.trans<|congrArg some<|by kernel_rfl⟩
 f26:=⟨Tryz.f257.name,by decide,Tryz.func257.trans<|congrArg some<|by kernel_rfl⟩
 f27:=⟨Tryz.f258.name,by decide,Tryz.func258.trans<|congrArg some<|by kernel_rfl⟩
 f28:=Tryz.func259.trans (congrArg some<|by kernel_rfl)
 f29:=Tryz.func260.trans (congrArg some<|by kernel_rfl)
 f46:=⟨Tryz.f261.name,by decide,Tryz.func261.trans<|congrArg some<|by kernel_rfl⟩
 f47:=Tryz.func262.trans (congrArg some<|by kernel_rfl)
 f48:=Tryz.func263.trans (congrArg some<|by kernel_rfl)
 f49:=⟨Tryz.f264.name,by decide,Tryz.func264.trans<|congrArg some<|by kernel_rfl⟩
 f50:=⟨Tryz.f265.name,by decide,Tryz.func265.trans<|congrArg some<|by kernel_rfl⟩
 f57:=⟨Tryz.f266.name,by decide,Tryz.func266.trans<|congrArg some<|by kernel_rfl⟩
 t0:=Tryz.underlying0
 a0:=Tryz.isAgg0
 z0:=Tryz.sizeOf0
 v0:=Tryz.zeroValue0
 t3:=Tryz.underlying3
 a3:=Tryz.isAgg3
 z3:=Tryz.sizeOf3
 v3:=Tryz.zeroValue3
 t4:=Tryz.underlying4
 a4:=Tryz.isAgg4
 z4:=Tryz.sizeOf4
 v4:=Tryz.zeroValue4
 t5:=Tryz.underlying5
 a5:=Tryz.isAgg5
 z5:=Tryz.sizeOf5
 v5:=Tryz.zeroValue5
 t9:=Tryz.underlying9
 a9:=Tryz.isAgg9
 z9:=Tryz.sizeOf9
 v9:=Tryz.zeroValue9
 t22:=Tryz.underlying80
 a22:=Tryz.isAgg80
 z22:=Tryz.sizeOf80
 v22:=Tryz.zeroValue80
 t25:=Tryz.underlying319
 a25:=Tryz.isAgg319
 z25:=Tryz.sizeOf319
 v25:=Tryz.zeroValue319
 t39:=Tryz.underlying239
 a39:=Tryz.isAgg239
 z39:=Tryz.sizeOf239
 v39:=Tryz.zeroValue239
 t45:=Tryz.underlying323
 a45:=Tryz.isAgg323
 z45:=Tryz.sizeOf323
 v45:=Tryz.zeroValue323
 t46:=Tryz.underlying324
 a46:=Tryz.isAgg324
 z46:=Tryz.sizeOf324
 v46:=Tryz.zeroValue324
 t50:=Tryz.underlying186
 a50:=Tryz.isAgg186
 z50:=Tryz.sizeOf186
 v50:=Tryz.zeroValue186
 t53:=Tryz.underlying307
 a53:=Tryz.isAgg307
 z53:=Tryz.sizeOf307
 v53:=Tryz.zeroValue307
 t55:=Tryz.underlying331
 a55:=Tryz.isAgg331
 z55:=Tryz.sizeOf331
 v55:=Tryz.zeroValue331
 t66:=Tryz.underlying332
 a66:=Tryz.isAgg332
 z66:=Tryz.sizeOf332
 v66:=Tryz.zeroValue332
 t70:=Tryz.underlying336
 a70:=Tryz.isAgg336
 z70:=Tryz.sizeOf336
 v70:=Tryz.zeroValue336
 t76:=Tryz.underlying338
 a76:=Tryz.isAgg338
 z76:=Tryz.sizeOf338
 v76:=Tryz.zeroValue338
 t77:=Tryz.underlying339
 a77:=Tryz.isAgg339
 z77:=Tryz.sizeOf339
 v77:=Tryz.zeroValue339
end Go.Proofs
end
section
namespace Go.Proofs.YtceipnkeijhebaaGreat
open Go Go.E
set_option maxRecDepth 100000
variable {e w:World} {R:List HP} {K:KV}
instance:Inhabited Msg:=⟨Msg.zero⟩
def cfM (x y:Msg):Int:=ZeU x.key y.key
theorem ltM {x y:Msg}:Go.Proofs.ltOf cfM x y=true↔Zv x.key y.key:=by
 unfold Go.Proofs.ltOf cfM;rw[decide_eq_true_eq];exact Zav
theorem Zph {x y:Msg}:Go.Proofs.ltOf cfM x y=false↔¬Zv x.key y.key:=by
 rw[<-ltM];cases Go.Proofs.ltOf cfM x y <;> simp
theorem ZHO:Go.Sort.SWO (Go.Proofs.ltOf cfM) where
 irrefl _:=Zph.2 (Zv.irrefl _)
 trans _ _ _ h1 h2:=ltM.2 ((ltM.1 h1).trans<|ltM.1 h2)
 ntrans _ _ _ h1 h2:=Zph.2<|ZbN (Zph.1 h1)<|Zph.1 h2
def Upk (l:List Msg):Prop:=l.Pairwise λa b=>Zv a.key b.key
theorem ZGc {l:List Msg} (hn:(l.map Msg.key).Nodup) (h:l.Pairwise λa b=>Go.Proofs.ltOf cfM b a=false):Upk l:=by
 rw[List.nodup_iff_pairwise_ne,List.pairwise_map] at hn;have:=List.pairwise_and_iff.2 ⟨hn,h⟩;refine this.imp λ{a b} ⟨h1,h2⟩=>?_;rcases Zv.tri a.key b.key with h3 | h3 | h3
 .exact h3
 .exact absurd h3 h1
 .exact absurd h3<|Zph.1 h2
theorem Zuy {a b:List Msg} (ha:Upk a) (hb:Upk b) (hp:a.Perm b):a=b:=
 List.Perm.eq_of_pairwise (le:=λx y:Msg=>Zv x.key y.key) (λ_ _ _ _ h k=>absurd k h.asymm) ha hb hp
theorem ZrH {m:List<|Key × Nat} {l:List Msg} (h:Znp m l):(l.map Msg.key).Nodup:=by
 rw[List.nodup_iff_pairwise_ne,List.pairwise_map,List.pairwise_iff_getElem];intro i j hi hj hij he;have:=h.inj (List.getElem?_eq_getElem hi) (List.getElem?_eq_getElem hj) he;omega
theorem ZA8 {A:Option Addr} {n c:Nat} {xo yo:Operand} (hk:K (.bool A.isNone) w):bO prog .eql 80 xo yo (.slice A n c) Sn w K:=by
 cases A with
 | none=>exact Yn (w':=w) (v:=Bt) (by kernel_rfl) hk
 | some a=>exact Yn (w':=w) (v:=Bf) (by kernel_rfl) hk
theorem ZyM {v:Value} {l:List Msg} {S:HP} (hl:l.length<=1000000) (hS:Sat e w<|S::R) (hr:∀g,S g->rdS 6 Msg.cs v l g)
  (hk:∀v' w',Sat e w' (Zz 85 6 Msg.cs v' l::S::R)->K v' w'):Cl prog 246 #[v] w K:=by
 refine ZaE ?_;unfold Zaw;obtain ⟨A,c,rfl,_⟩:=hS.shape 0 rfl hr;refine ZA8 ?_;cases A with
 | none=>
  have hl0:l=[]:=by
   obtain ⟨g,hg,_⟩:=hS.get 0 rfl;obtain ⟨A',c',h1,h2,h3⟩:=hr g hg;injection h1 with e1 e2 e3;by_cases h0:0<l.length
   .obtain ⟨a,ha,_⟩:=h3 h0;rw[<-e1] at ha;cases ha
   .exact List.length_eq_zero_iff.1 (by omega)
  subst hl0;exact Zi (hk _ _<|hS.own_nil 85 6 Msg.cs)
 | some a=>
  refine Zf<|Zw3 hS Msg.cs λv1 w2 h2=>Zeo ZYs ZYP (f:=Msg.cs) (λ_=>rfl) (λ_=>Zg _) h2 hr (by simp;omega) λv2 w3 h3=>?_;rw[List.nil_append] at h3;exact hk _ _ h3
theorem Zqn (ns:List Int):∀v∈Yi ns,v.oneCell'=true:=by
 intro v hv;simp only[Yi,List.mem_map] at hv;obtain ⟨n,_,rfl⟩:=hv;rfl
theorem Zyj {e W:World} {R:List HP} {K:KV} (x y:Msg) (hS:Sat e W R) (hk:∀w',Sat e w' R->K (Iw<|cfM x y) w'):Cl prog 248 (#[.agg x.cs.toArray,.agg y.cs.toArray]++#[]) W K:=by
 refine Zef (t0:=.agg x.cs.toArray) (t1:=.agg y.cs.toArray) ?_;unfold Zeb;refine Yp (cs:=x.cs) hS rfl λb2 w1 h1=>Yp (cs:=y.cs) h1 rfl λb3 w2 h2=>Za<|Zo h2 1 (vs:=x.key.cs) rfl (by rfl) rfl ?_;refine Za<|Zo h2 0 (vs:=y.key.cs) rfl (by rfl) rfl ?_;exact Zcr h2 λw3 h3=>hk _ h3.drop.drop
theorem ZAy {v:Value} {l:List Msg} (hl:l.length<=1000000) (hS:Sat e w<|Zz 85 6 Msg.cs v l::R)
  (hk:∀l' w',l'.Perm l->(l'.Pairwise λa b=>Go.Proofs.ltOf cfM b a=false)->Sat e w' (Zz 85 6 Msg.cs v l'::R)->K (.tuple #[]) w') :
  Cl prog 247 #[v,.func (.func 248) #[] #[]] w K:=
 ZyV (P:=prog) (size:=6) (f:=Msg.cs) Tryz.sortMsg (λw=>Tryz.isAgg85 w) (λw=>Tryz.sizeOf85 w) (λ_=>rfl) (λ_=>Zqn _) cfM ZHO (by kernel_rfl) (by kernel_rfl) (λ_ _ _ _ x y h hk=>Zyj x y h hk) (by omega) hS hk
theorem ZqP {q:Nat} {room:Int} {l:List Msg} (hl:l.length<=1000000) (hS:Sat e w<|Yc q room l::R)
  (hk:∀v l' w',l'.Perm l->Upk l'->Sat e w' (Zz 85 6 Msg.cs v l'::Yc q room l::R)->K v w'):Cl prog 245 #[pt q] w K:=by
 refine ZfL ?_;unfold Zfe;obtain ⟨v,b,m,ha,h1⟩:=Zcq hS;refine Zh<|Za<|Zb h1 0 rfl (v:=v) rfl<|ZyM hl (h1.pick 1 rfl) (λ_=>Zp) λv2 w2 h2=>ZAy hl h2 λl' w3 hp hs h3=>?_;have hnd:=(hp.map Msg.key).nodup_iff.2<|ZrH ha;exact hk _ l' _ hp (ZGc hnd hs)<|Sat.swap<|ZbP ha<|h3.sn 4 [2,1,3,0]
end Go.Proofs.YtceipnkeijhebaaGreat
end
section
namespace Go.Proofs.YtceipnkeijhebaaGreat
open Go Go.E
set_option maxRecDepth 100000
variable {e w:World} {R:List HP} {K:KV}
theorem Zmk {room:Int} {l:List Msg} {x:Msg} (h:∃y∈l,y.key=x.key):ZdT room l x=3:=by
 obtain ⟨y,hy,hk⟩:=h;exact if_pos<|List.any_eq_true.2 ⟨y,hy,by simpa using hk⟩
theorem Ze8 {room:Int} {l:List Msg} {x:Msg} (h:∀y∈l,y.key≠x.key):ZdT room l x=if room<=l.length then 2 else 0:=by
 unfold ZdT;rw[if_neg];intro ha;obtain ⟨y,hy,hk⟩:=List.any_eq_true.1 ha;exact h y hy (by simpa using hk)
theorem Znw {l l':List Msg} {x:Msg} (hh:Zb0 l l.length) (hx:l[0]?=some x) (hp:l'.Perm l) (hu:Upk l'):l'[0]?=some x/\∀y∈l',¬Zv y.key x.key:=by
 have hmin:∀y∈l',¬Zv y.key x.key:=λy hy=>by
  obtain ⟨i,hi⟩:=List.mem_iff_getElem?.1<|hp.mem_iff.1 hy;exact hh.min (Nat.le_refl _) hx i y (List.getElem?_eq_some_iff.1 hi).1 hi
 refine ⟨?_,hmin⟩;have hxl:x∈l':=hp.mem_iff.2<|List.mem_of_getElem? hx;cases l' with
 | nil=>cases hxl
 | cons y l'=>
  rcases List.mem_cons.1 hxl with rfl | h
  .rfl
  .exact absurd ((List.pairwise_cons.1 hu).1 x h)<|hmin y List.mem_cons_self
end Go.Proofs.YtceipnkeijhebaaGreat
namespace Go.Proofs.YtceipnkeijhebaaGreat
open Go Go.E
set_option maxRecDepth 100000
variable {e w:World} {R:List HP} {K:KV}
theorem ZpN {l:List Msg} {x:Msg} (hn:((l++[x]).map Msg.key).Nodup):without (l++[x]) x.key=l:=by
 unfold without;rw[List.map_append,List.nodup_append] at hn;rw[List.filter_append,List.filter_eq_self.2 (λy hy=>by
  have:=hn.2.2 y.key (List.mem_map.2 ⟨y,hy,rfl⟩) x.key (by simp)
  simpa using this)]
 simp
theorem Zqt {a l:List Msg} {x:Msg} {b:List Msg} (hb:(b.map Msg.key).Nodup) (hp:(l++[x]).Perm b) (ha:a.Perm b):(without a x.key).Perm l:=by
 have hn:((l++[x]).map Msg.key).Nodup:=(hp.map Msg.key).nodup_iff.2 hb;have h1:(without a x.key).Perm (without (l++[x]) x.key):=(ha.trans hp.symm).filter _;rwa [ZpN hn] at h1
theorem ZsO {l:List Msg} (h:Upk l) (k:Key):Upk (without l k):=h.sublist List.filter_sublist
end Go.Proofs.YtceipnkeijhebaaGreat
namespace Go.Proofs.YtceipnkeijhebaaGreat
open Go Go.E
set_option maxRecDepth 100000
variable {e w:World} {R:List HP} {K:KV}
def Zkj (m:Msg):List Msg->List Msg
 | []=>[m]
 | a::l=>if ZeU m.key a.key<0 then m::a::l else a::Zkj m l
theorem ZcW (m:Msg):∀l,(Zkj m l).Perm (m::l)
 | []=>.refl _
 | a::l=>by
  unfold Zkj;split
  .exact .refl _
  .exact ((ZcW m l).cons a).trans (.swap m a l)
theorem Zrl {m:Msg}:∀{l:List Msg},Upk l->(∀y∈l,y.key≠m.key)->Upk (Zkj m l)
 | [],_,_=>List.pairwise_singleton _ _
 | a::l,h,hn=>by
  obtain ⟨h1,h2⟩:=List.pairwise_cons.1 h;unfold Zkj;split
  .rename_i hc;have hlt:=Zav.1 hc;refine List.pairwise_cons.2 ⟨λy hy=>?_,h⟩;rcases List.mem_cons.1 hy with rfl | hy
   .exact hlt
   .exact hlt.trans<|h1 y hy
  .rename_i hc;refine List.pairwise_cons.2 ⟨λy hy=>?_,Zrl h2 λy hy=>hn y<|by simp[hy]⟩;rcases List.mem_cons.1 ((ZcW m l).mem_iff.1 hy) with rfl | hy
   .rcases Zv.tri a.key y.key with h3 | h3 | h3
    .exact h3
    .exact absurd h3<|hn a (by simp)
    .exact absurd (Zav.2 h3) hc
   .exact h1 y hy
def hdM (l:List Msg):Msg:=l.headD Msg.zero
def ZjD (l:List Msg):Bool:=!l.isEmpty
def ZfX (l:List Msg) (x:Msg):List Msg:=if ZdT 64 l x=0 then Zkj x l else l
structure QOk (l:List Msg):Prop where
 up:Upk l
 len:l.length<=64
theorem Upk.nodup {l:List Msg} (h:Upk l):(l.map Msg.key).Nodup:=by
 rw[List.nodup_iff_pairwise_ne,List.pairwise_map];refine List.Pairwise.imp ?_ (show l.Pairwise λa b=>Zv a.key b.key from h);intro a b hlt he;rw[he] at hlt;exact Zv.irrefl _ hlt
theorem Upk.tail {l:List Msg} (h:Upk l):Upk l.tail:=h.sublist<|List.tail_sublist l
theorem ZZn {x:Msg} {l:List Msg} (h:Upk<|x::l):without (x::l) x.key=l:=by
 obtain ⟨h1,_⟩:=List.pairwise_cons.1 h;unfold without;rw[List.filter_cons_of_neg (by simp),List.filter_eq_self.2];intro y hy;have:=h1 y hy;simp only[Bool.not_eq_true',decide_eq_false_iff_not];intro he;rw[he] at this;exact Zv.irrefl _ this
theorem QOk.nil:QOk []:=⟨.nil,by simp⟩
theorem QOk.tail {l:List Msg} (h:QOk l):QOk l.tail:=⟨h.up.tail,by have:=h.len;rw[List.length_tail];omega⟩
theorem QOk.without {l:List Msg} (h:QOk l) (k:Key):QOk (without l k):=by
 have hs:(Proofs.YtceipnkeijhebaaGreat.without l k).Sublist l:=List.filter_sublist;have:=hs.length_le;have:=h.len;exact ⟨ZsO h.up k,by omega⟩
theorem Zs0 {l l':List Msg} {x:Msg} (hp:l.Perm l'):ZdT 64 l x=ZdT 64 l' x:=by
 by_cases hin:∃y∈l,y.key=x.key
 .rw[Zmk hin,Zmk (by obtain ⟨y,hy,hk⟩:=hin;exact ⟨y,hp.mem_iff.1 hy,hk⟩)]
 .have hne:∀y∈l,y.key≠x.key:=λy hy hk=>hin ⟨y,hy,hk⟩;rw[Ze8 hne,Ze8 λy hy=>hne y<|hp.mem_iff.2 hy,hp.length_eq]
theorem ZsM {l:List Msg} {x:Msg} (h:ZdT 64 l x=0):(∀y∈l,y.key≠x.key)/\l.length<64:=by
 by_cases hin:∃y∈l,y.key=x.key
 .rw[Zmk hin] at h;cases h
 .have hne:∀y∈l,y.key≠x.key:=λy hy hk=>hin ⟨y,hy,hk⟩;rw[Ze8 hne] at h;split at h
  .cases h
  .exact ⟨hne,by omega⟩
theorem QOk.push {l:List Msg} (h:QOk l) (x:Msg):QOk (ZfX l x):=by
 unfold ZfX;split
 .rename_i h0;obtain ⟨h1,h2⟩:=ZsM h0;have:=(ZcW x l).length_eq;rw[List.length_cons] at this;exact ⟨Zrl h.up h1,by omega⟩
 .exact h
def IsQ (q:Nat) (l:List Msg):HP:=hex λlh:List Msg=>Yh [pur<|Zb0 lh lh.length/\l.Perm lh/\QOk l,Yc q 64 lh]
theorem ZBx {q:Nat} {l:List Msg} (h:Sat e w<|IsQ q l::R):∃lh,Zb0 lh lh.length/\l.Perm lh/\QOk l/\Sat e w (Yc q 64 lh::R):=by
 obtain ⟨pg,h0⟩:=h.ex;obtain ⟨⟨h1,h2,h3⟩,h4⟩:=Sat.pure h0.split;exact ⟨pg,h1,h2,h3,h4⟩
theorem Zwk {q:Nat} {l lh:List Msg} (h1:Zb0 lh lh.length) (h2:l.Perm lh) (h3:QOk l) (h:Sat e w<|Yc q 64 lh::R):Sat e w (IsQ q l::R):=
 .mk_ex lh (.join (l':=[_,_]) (.mk_pure ⟨h1,h2,h3⟩ h))
theorem ZoH (hS:Sat e w R) (hk:∀q w',Sat e w' (IsQ q []::R)->K (pt q) w'):Cl prog 73 #[Iw 64] w K:=
 Zts hS λq w' h=>hk q w'<|Zwk (λi _ _ hi1 hi2 _=>absurd hi2<|by simp) (.refl _) QOk.nil h
theorem Zun {q:Nat} {l:List Msg} (hS:Sat e w<|IsQ q l::R) (hk:K (Iw (l.length:Int)) w):Cl prog 307 #[pt q] w K:=by
 obtain ⟨lh,h1,h2,h3,h4⟩:=ZBx hS;refine Zs4 h4 ?_;rw[<-h2.length_eq];exact hk
theorem ZnW {q:Nat} {l:List Msg} {x:Msg} (hS:Sat e w<|IsQ q l::R) (hk:∀w',Sat e w' (IsQ q (ZfX l x)::R)->K (Iw<|ZdT 64 l x) w') :
  Cl prog 275 #[pt q,.agg x.cs.toArray] w K:=by
 obtain ⟨lh,h1,h2,h3,h4⟩:=ZBx hS;have hlen:=h2.length_eq;have h64:=h3.len;have e0:=Zs0 (x:=x) h2;refine ZrG (by omega) h4 (λhne w' h=>?_)<|λhe hne hr l' w' hp hh h=>?_
 .have:=hk w' (by
   unfold ZfX;rw[if_neg (by rw[e0];exact hne)];exact Zwk h1 h2 h3 h)
  rw[e0] at this;exact this
 .have:=hk w' (by
   have hq:=h3.push x;unfold ZfX at hq ⊢;rw[if_pos (by rw[e0];exact he)] at hq ⊢;refine Zwk (hh h1) ?_ hq h;exact (ZcW x l).trans<|(h2.cons x).trans<|(List.perm_append_comm (l₁:=[x]) (l₂:=lh)).trans hp.symm)
  rw[e0,he] at this;exact this
theorem Zlv {q:Nat} {l:List Msg} (hS:Sat e w<|IsQ q l::R) (hk:∀w',Sat e w' (IsQ q l::R)->K (.tuple #[.agg (hdM l).cs.toArray,.bool<|ZjD l]) w') :
  Cl prog 150 #[pt q] w K:=by
 obtain ⟨lh,h1,h2,h3,h4⟩:=ZBx hS;have hlen:=h2.length_eq;cases lh with
 | nil=>
  obtain rfl:l=[]:=List.length_eq_zero_iff.1 hlen;exact Zmh h4 λw' h=>hk _ (Zwk h1 h2 h3 h)
 | cons x lh=>
  obtain ⟨hf,hm⟩:=Znw (x:=x) h1 rfl h2 h3.up;refine ZpH (x:=x) rfl h4 λw' h=>?_;have:=hk _<|Zwk h1 h2 h3 h;cases l with
  | nil=>cases hf
  | cons y l=>
   cases hf;exact this
theorem Zvc {q:Nat} {l:List Msg} (hS:Sat e w<|IsQ q l::R) (hk:∀w',Sat e w' (IsQ q l.tail::R)->K (.tuple #[.agg (hdM l).cs.toArray,.bool<|ZjD l]) w') :
  Cl prog 277 #[pt q] w K:=by
 obtain ⟨lh,h1,h2,h3,h4⟩:=ZBx hS;have hlen:=h2.length_eq;have h64:=h3.len;cases lh with
 | nil=>
  obtain rfl:l=[]:=List.length_eq_zero_iff.1 hlen;exact Zn8 h4 λw' h=>hk _ (Zwk h1 h2 h3 h)
 | cons x lh=>
  obtain ⟨hf,hm⟩:=Znw (x:=x) h1 rfl h2 h3.up;refine ZsH (x:=x) rfl (by omega) h4 λl' w' hp hh h=>?_;cases l with
  | nil=>cases hf
  | cons y l=>
   cases hf;refine hk _<|Zwk (hh h1) ?_ h3.tail h;have h5:(x::l).Perm (x::l'):=h2.trans<|hp.symm.trans<|List.perm_append_comm (l₁:=l') (l₂:=[x]);exact (List.perm_cons x).1 h5
theorem ZoA {q:Nat} {l:List Msg} (hS:Sat e w<|IsQ q l::R) (hk:∀v w',Sat e w' (Zz 85 6 Msg.cs v l::IsQ q l::R)->K v w') :
  Cl prog 245 #[pt q] w K:=by
 obtain ⟨lh,h1,h2,h3,h4⟩:=ZBx hS;have hlen:=h2.length_eq;have h64:=h3.len;refine ZqP (by omega) h4 λv l' w' hp hu h=>?_;obtain rfl:l'=l:=Zuy hu h3.up<|hp.trans h2.symm;exact hk _ _<|Sat.swap<|Zwk h1 h2 h3<|Sat.swap h
theorem ZHn {q:Nat} {l:List Msg} (i:Nat) {L:List HP} (h:Sat e w L) (hi:L[i]?=some (IsQ q l)):QOk l:=by
 obtain ⟨_,_,_,h3,_⟩:=ZBx<|h.pick i hi;exact h3
def ZZf (q:Nat) (l:List Msg):HP:=Yh [pur<|QOk l,ZNs q 64 l]
theorem Z1k {r:Nat} {l:List Msg} (h:Sat e w<|ZZf r l::R):QOk l/\Sat e w (ZNs r 64 l::R):=Sat.pure<|Sat.split (l':=[_,_]) h
theorem ZZU {r:Nat} {l:List Msg} (h3:QOk l) (h:Sat e w<|ZNs r 64 l::R):Sat e w (ZZf r l::R):=.join (l':=[_,_]) (.mk_pure h3 h)
theorem Z1p (hS:Sat e w R) (hk:∀q w',Sat e w' (ZZf q []::R)->K (pt q) w'):Cl prog 82 #[Iw 64] w K:=
 ZM5 hS λq w' h=>hk q w'<|ZZU QOk.nil h
theorem Z0Q {r:Nat} {l:List Msg} {x:Msg} (hS:Sat e w<|ZZf r l::R) (hk:∀w',Sat e w' (ZZf r (ZfX l x)::R)->K (Iw<|ZdT 64 l x) w') :
  Cl prog 167 #[pt r,.agg x.cs.toArray] w K:=by
 obtain ⟨h3,h4⟩:=Z1k hS;have h64:=h3.len;have hsame:∀w' c,ZdT 64 l x=c->c≠0->Sat e w' (ZNs r 64 l::R)->K (Iw c) w':=λw' c hc hne h=>by
  have:=hk w' (by
   unfold ZfX;rw[if_neg (by rw[hc];exact hne)];exact ZZU h3 h)
  rw[hc] at this;exact this
 refine ZZZ (by omega) h4 (λhin w' h=>hsame w' 3 (Zmk hin) (by decide) h) (λhne hr w' h=>hsame w' 2 (by rw[Ze8 hne,if_pos (by omega)]) (by decide) h)<|λhne hr p w' hp h=>?_;have e1:ZdT 64 l x=0:=by rw[Ze8 hne,if_neg (by omega)]
 have hpm:(ZCz l x p).Perm (x::l):=(ZZj l x p).trans<|List.perm_append_comm (l₁:=l) (l₂:=[x]);have hu':Upk (ZCz l x p):=hp.up h3.up hne;have hq:=h3.push x;have:=hk w' (by
  unfold ZfX at hq ⊢;rw[if_pos e1] at hq ⊢;have he:ZCz l x p=Zkj x l:=Zuy hu' hq.up<|hpm.trans (ZcW x l).symm;rw[<-he] at hq ⊢;exact ZZU hq h)
 rw[e1] at this;exact this
theorem ZZl {r:Nat} {l:List Msg} (hS:Sat e w<|ZZf r l::R) (hk:∀w',Sat e w' (ZZf r l::R)->K (.tuple #[.agg (hdM l).cs.toArray,.bool<|ZjD l]) w') :
  Cl prog 160 #[pt r] w K:=by
 obtain ⟨h3,h4⟩:=Z1k hS;cases l with
 | nil=>exact ZXq h4 λw' h=>hk _ (ZZU h3 h)
 | cons x l=>exact ZYb (x:=x) rfl h4 λw' h=>hk _<|ZZU h3 h
theorem Z1i {r:Nat} {l:List Msg} (hS:Sat e w<|ZZf r l::R) (hk:∀w',Sat e w' (ZZf r l.tail::R)->K (.tuple #[.agg (hdM l).cs.toArray,.bool<|ZjD l]) w') :
  Cl prog 158 #[pt r] w K:=by
 obtain ⟨h3,h4⟩:=Z1k hS;have h64:=h3.len;cases l with
 | nil=>exact ZYo h4 λw' h=>hk _ (ZZU h3 h)
 | cons x l=>
  refine ZYY (x:=x) (by omega) rfl h4 λw' h=>?_;rw[ZZn h3.up] at h;exact hk _<|ZZU h3.tail h
theorem Z0R {r:Nat} {l:List Msg} (hS:Sat e w<|ZZf r l::R) (hk:∀v w',Sat e w' (Zz 85 6 Msg.cs v l::ZZf r l::R)->K v w') :
  Cl prog 127 #[pt r] w K:=by
 obtain ⟨h3,h4⟩:=Z1k hS;have h64:=h3.len;exact ZYG (by omega) h4 λv w' h=>hk _ _<|Sat.swap<|ZZU h3<|Sat.swap h
end Go.Proofs.YtceipnkeijhebaaGreat
end
section
namespace Go.Proofs.YtceipnkeijhebaaGreat
open Go Go.E
set_option maxRecDepth 100000
variable {e w:World} {L Q:List HP} {K:KV} {S S2:HP}
theorem Zkp {x:WdX} (i:Nat) (hi:L[i]?=some S) (hS:Sat e w L) (hr:∀g,S g->ZtG x g) (hs:x.short)
  (hk:∀(X:WdX) w',X.w=x.w->Sat e w' (Zag X::L)->K (.agg X.cs.toArray) w'):Cl prog 74 #[.agg x.cs.toArray] w K:=by
 refine ZkZ ?_;unfold ZnQ;have hflat:=ZoI i hi hS hr;refine Yp (cs:=x.cs) hS rfl λb w1 h1=>?_;rw[ZqI];refine Yp (cs:=[Sn,Sn,Iw 0]) h1 rfl λb2 w2 h2=>Za<|Zb h2 1 rfl (v:=x.pv) rfl<|ZbR (i+2) hi (by have:=hs.par;omega) (λ_ _ v h=>by simp[Ye] at h;subst h;rfl) h2 (λ_ h=>(hr _ h).par) λv1 w3 h3=>?_;have f1:=h3.own_cells 0 rfl;refine Za<|Zq h3 2 rfl (vs:=[v1]) f1.1 rfl (Nat.le_of_ble_eq_true rfl) (λc hc=>by rw[List.mem_singleton.1 hc];exact f1.2) (cs':=[v1,x.fv,Iw x.End]) (by rfl) λw4 h4=>?_;refine Za<|Zb h4 2 rfl (v:=x.fv) rfl<|ZkD (i+3) hi (by have:=hs.feds;omega) (λf hf=>Zc1 i hi hS λg hg=>(hr g hg).fed f hf) h4 (λ_ h=>(hr _ h).feds) λv2 w5 h5=>?_;have f2:=h5.own_cells 0 rfl;refine Za<|Zq h5 3 rfl (vs:=[v2]) f2.1 rfl (Nat.le_of_ble_eq_true rfl) (λc hc=>by rw[List.mem_singleton.1 hc];exact f2.2) (cs':=[v1,v2,Iw x.End]) (by rfl) λw6 h6=>?_;refine Za<|Zb h6 3 rfl (v:=v2) rfl<|Qln h6 0 rfl ?_;have hfl:=hs.feds;refine Zdk (λq t17 w=>∃(j:Nat) (dn:List Zao),j<=x.Feds.length/\t17=Iw j/\q=x.Feds.length - j/\dn.length=j/\dn.map Zao.f=(x.Feds.take j).map Zao.f/\
   Sat e w (Zz 52 7 Zao.cs v2 (dn++x.Feds.drop j)::Yh (dn.map Zea)::Zz 3 1 (Ye .i64) v1 x.Parents::blk b2 25 [Sn,Sn,Iw 0]::blk b 25 [v1,v2,Iw x.End]::L)) x.Feds.length
  ⟨0,[],Nat.zero_le _,rfl,rfl,rfl,rfl,?_⟩ ?_
 .have h7:Sat e w6 (Yh []::Zz 52 7 Zao.cs v2 x.Feds::Zz 3 1 (Ye .i64) v1 x.Parents::blk b2 25 [Sn,Sn,Iw 0]::blk b 25 [v1,v2,Iw x.End]::L):=Sat.join (l':=[])<|h6.sn 4 [0,1,2,3];exact h7.swap
 rintro q _ w g1 ⟨j,dn,hj,rfl,rfl,hdl,hdm,h7⟩ hg1;refine Za7 (λc0=>Zi ?_)<|λc0=>Zf ?_
 case refine_2=>
  have ej:j=x.Feds.length:=by omega
  rw[ej,List.drop_length,List.append_nil] at h7;rw[ej,List.take_length] at hdm;refine Zo h7 4 (vs:=[v1,v2,Iw x.End]) rfl (by rfl) rfl ?_;refine Zq h7 3 rfl (vs:=[v1,v2,Iw x.End]) rfl rfl (Nat.le_of_ble_eq_true rfl) (λc hc=>by
   simp only[List.mem_cons,List.not_mem_nil,or_false] at hc;rcases hc with rfl | rfl | rfl
   .exact f1.2
   .exact f2.2
   .rfl) (cs':=[v1,v2,Iw x.End]) (by rfl) λw8 h8=>?_
  refine Zo h8 3 (vs:=[v1,v2,Iw x.End]) rfl (by rfl) rfl ?_;exact hk ⟨v1,x.Parents,v2,dn,x.End⟩ _ (by simp only[WdX.w,hdm])<|Sat.join (l':=[_,_,_])<|h8.sn 5 [2,0,1]
 obtain ⟨fd,hf⟩:=Zk (l:=x.Feds) (j:=j) (by omega);have hfm:=List.mem_of_getElem? hf;have hsf:=hs.fed fd hfm;have hdr:x.Feds.drop j=fd::x.Feds.drop (j+1):=Zaq hf;have hget:(dn++x.Feds.drop j)[j]?=some fd:=by rw[hdr,List.getElem?_append_right (by omega),hdl,Nat.sub_self];rfl
 have hi7:(Zz 52 7 Zao.cs v2 (dn++x.Feds.drop j)::Yh (dn.map Zea)::Zz 3 1 (Ye .i64) v1 x.Parents::blk b2 25 [Sn,Sn,Iw 0]::blk b 25 [v1,v2,Iw x.End]::L)[i+5]?=some S:=hi;refine Za<|Zb h7 4 rfl (v:=v2) rfl<|ZjI h7 0 rfl hget λbb cc hv2=>ZaY h7 λw8 h8=>Zh<|Za<|Zaa h8 0 rfl (λ_=>rfl) hv2 hget (u:=fd.pv) rfl<|Zh<|Za<|Zaa h8 0 rfl (λ_=>rfl) hv2 hget (u:=fd.sv) rfl<|Zh<|Za<|Zaa h8 0 rfl (λ_=>rfl) hv2 hget (u:=fd.iv) rfl<|Zh<|Za<|Zaa h8 0 rfl (λ_=>rfl) hv2 hget (u:=fd.rv) rfl ?_;have hintf:∀(l:List Int),∀x∈l,∀v∈Ye .i64 x,flat v=true:=λ_ _ _ v h=>by simp[Ye] at h;subst h;rfl
 refine ZbR (i+5) hi7 (by have:=hsf.pubs;omega) (hintf _) h8 (λg hg=>((hr g hg).fed fd hfm).pubs) λa1 w9 h9=>⟨Zaa h9 1 rfl (λ_=>rfl) hv2 hget (u:=fd.rv) rfl ⟨rfl,rfl⟩,Zaa h9 1 rfl (λ_=>rfl) hv2 hget (u:=fd.iv) rfl ⟨rfl,rfl⟩,Zaa h9 1 rfl (λ_=>rfl) hv2 hget (u:=fd.sv) rfl ⟨rfl,rfl⟩,ZbR (i+6) hi (by have:=hsf.subs;omega) (hintf _) h9 (λg hg=>((hr g hg).fed fd hfm).subs) λa2 w10 h10=>⟨Zaa h10 2 rfl (λ_=>rfl) hv2 hget (u:=fd.rv) rfl ⟨rfl,rfl⟩,Zaa h10 2 rfl (λ_=>rfl) hv2 hget (u:=fd.iv) rfl ⟨rfl,rfl⟩,Zde (i+7) hi (by have:=hsf.init;omega) (λ_ _=>Zg _) h10 (λg hg=>((hr g hg).fed fd hfm).init) λa3 w11 h11=>⟨Zaa h11 3 rfl (λ_=>rfl) hv2 hget (u:=fd.rv) rfl ⟨rfl,rfl⟩,Zjh (i+8) hi (by have:=hsf.rules;omega) (Znr i hi hS λg hg=>((hr g hg).fed fd hfm).rules) h11 (λg hg=>((hr g hg).fed fd hfm).rules.s) λa4 w12 h12=>?_⟩⟩⟩;have q4:=h12.own_cells 0 rfl;have q3:=h12.own_cells 1 rfl;have q2:=h12.own_cells 2 rfl;have q1:=h12.own_cells 3 rfl;have hset:∀(a c:Zao),((dn++x.Feds.drop j).set j a).set j c=(dn++x.Feds.drop j).set j c:=λa c=>List.set_set _;have hjl:j<(dn++x.Feds.drop j).length:=(List.getElem?_eq_some_iff.1 hget).1;have hg1':∀a:Zao,((dn++x.Feds.drop j).set j a)[j]?=some a:=λa=>List.getElem?_set_self hjl;have hln:∀a:Zao,((dn++x.Feds.drop j).set j a).length=(dn++x.Feds.drop j).length:=λa=>List.length_set;refine Zh<|Za<|Zdz h12 4 rfl (λ_=>rfl) hv2 hget (x':={ fd with pv:=a1 }) q1.1 rfl (by decide) (λc hc=>by rw[List.mem_singleton.1 hc];exact q1.2) rfl λw13 h13=>?_;refine Zh<|Za<|Zdz h13 4 rfl (λ_=>rfl) (by rw[hln];exact hv2) (hg1' _) (x':={ fd with pv:=a1,sv:=a2 }) q2.1 rfl (by decide) (λc hc=>by rw[List.mem_singleton.1 hc];exact q2.2) rfl λw14 h14=>?_;rw[hset] at h14;refine Zh<|Za<|Zdz h14 4 rfl (λ_=>rfl) (by rw[hln];exact hv2) (hg1' _) (x':={ fd with pv:=a1,sv:=a2,iv:=a3 }) q3.1 rfl (by decide) (λc hc=>by rw[List.mem_singleton.1 hc];exact q3.2) rfl λw15 h15=>?_;rw[hset] at h15;refine Zh<|Za<|Zdz h15 4 rfl (λ_=>rfl) (by rw[hln];exact hv2) (hg1' _) (x':={ fd with pv:=a1,sv:=a2,iv:=a3,rv:=a4 }) q4.1 rfl (by decide) (λc hc=>by rw[List.mem_singleton.1 hc];exact q4.2) rfl λw16 h16=>?_;rw[hset] at h16;clear h8 h9 h10 h11 h12 h13 h14 h15;generalize hfd':({ fd with pv:=a1,sv:=a2,iv:=a3,rv:=a4 }:Zao)=fd' at h16;generalize hls:(dn++x.Feds.drop j).set j fd'=ls at h16;have hlsj:ls[j]?=some fd':=by rw[<-hls];exact hg1' _
 have hlsl:v2=.slice (some ⟨bb,0,none⟩) ls.length cc:=by rw[<-hls,hln];exact hv2
 have e4:fd'.rv=a4:=by rw[<-hfd']
 refine Zh<|Za<|Zaa h16 4 rfl (λ_=>rfl) hlsl hlsj (u:=a4) (by rw[<-hfd'];rfl) ?_;refine Qln h16 0 rfl ?_;have hrl:=hsf.rules;refine Zdk (λq t61 w=>∃(n:Nat) (rd:List Yg),n<=fd.Rules.length/\t61=Iw n/\q=fd.Rules.length - n/\rd.length=n/\rd.map Yg.r=(fd.Rules.take n).map Yg.r/\
   Sat e w (Zz 54 4 Yg.cs a4 (rd++fd.Rules.drop n)::Yh (rd.map ZfY)::Zz 133 3 Out.cs a3 fd.Init::Zz 3 1 (Ye .i64) a2 fd.Subs::Zz 3 1 (Ye .i64) a1 fd.Pubs::Zz 52 7 Zao.cs v2 ls::Yh (dn.map Zea)::Zz 3 1 (Ye .i64) v1 x.Parents::blk b2 25 [Sn,Sn,Iw 0]::blk b 25 [v1,v2,Iw x.End]::L)) fd.Rules.length
  ⟨0,[],Nat.zero_le _,rfl,rfl,rfl,rfl,?_⟩ ?_
 .exact (Sat.join (l':=[]) h16).swap
 rintro q _ w g2 ⟨n,rd,hn,rfl,rfl,hrdl,hrdm,h17⟩ hg2;refine Za7 (λc1=>Zi ?_)<|λc1=>Zf ?_
 case refine_2=>
  have en:n=fd.Rules.length:=by omega
  rw[en,List.drop_length,List.append_nil] at h17;rw[en,List.take_length] at hrdm;refine Qincs ?_;have h18:Sat e w (Zea { fd' with Rules:=rd }::Zz 52 7 Zao.cs v2 ls::Yh (dn.map Zea)::Zz 3 1 (Ye .i64) v1 x.Parents::blk b2 25 [Sn,Sn,Iw 0]::blk b 25 [v1,v2,Iw x.End]::L):=by
   refine Sat.join (l':=[_,_,_,_,_]) ?_;rw[<-hfd'];exact h17.sn 5 [4,3,2,0,1]
  have h19:=ZiX<|h18.sn 3 [0,2,1];refine hg1 _ _ _ (by omega) ⟨j+1,dn++[{ fd' with Rules:=rd }],by omega,rfl,rfl,by simp[hdl],?_,?_⟩
  .rw[Zx hf,List.map_append,List.map_append,hdm,List.map_singleton,List.map_singleton];congr 2;rw[<-hfd'];simp only[Zao.f,hrdm]
  .have h20:=(h19.swap).imp (Q:=Zz 52 7 Zao.cs v2<|dn++[{ fd' with Rules:=rd }]++x.Feds.drop (j+1)) λg hg=>ZoX (by
    rw[<-hls,hdr,List.set_append_right _ _ (by omega),hdl,Nat.sub_self,List.set_cons_zero];simp only[List.map_append,List.map_cons,List.append_assoc,List.singleton_append];rfl) hg
   rw[List.map_append];exact h20
 obtain ⟨r,hrn⟩:=Zk (l:=fd.Rules) (j:=n) (by omega);have hrm:=List.mem_of_getElem? hrn;have hdr2:fd.Rules.drop n=r::fd.Rules.drop (n+1):=Zaq hrn;have hget2:(rd++fd.Rules.drop n)[n]?=some r:=by rw[hdr2,List.getElem?_append_right (by omega),hrdl,Nat.sub_self];rfl
 refine ZaY h17 λw18 h18=>Zh<|Za<|Zaa h18 5 rfl (λ_=>rfl) hlsl hlsj (u:=a4) (by rw[<-hfd'];rfl) ?_;refine Zh<|Za<|Zaa h18 5 rfl (λ_=>rfl) hlsl hlsj (u:=a4) (by rw[<-hfd'];rfl) ?_;refine ZjI h18 0 rfl hget2 λbr cr ha4=>Za<|Zaa h18 0 rfl (λ_=>rfl) ha4 hget2 (u:=r.sv) rfl<|Zde (i+10) hi (by have:=hsf.sends r hrm;omega) (λ_ _=>Zg _) h18 (λg hg=>((hr g hg).fed fd hfm).rules.e r hrm) λa5 w19 h19=>?_;have q5:=h19.own_cells 0 rfl;refine ⟨Zaa h19 6 rfl (λ_=>rfl) hlsl hlsj (u:=a4) (by rw[<-hfd'];rfl) ⟨rfl,rfl⟩,?_⟩;refine ZjI h19 1 rfl hget2 λbr' cr' ha4'=>Za<|Zdz h19 1 rfl (λ_=>rfl) ha4' hget2 (x':={ r with sv:=a5 }) q5.1 rfl (by decide) (λc hc=>by rw[List.mem_singleton.1 hc];exact q5.2) rfl λw20 h20=>?_;refine Qincs ?_;have h21:=ZiX (A:=ZfY { r with sv:=a5 })<|h20.sn 3 [0,2,1];refine hg2 _ _ _ (by omega) ⟨n+1,rd++[{ r with sv:=a5 }],by omega,rfl,rfl,by simp[hrdl],?_,?_⟩
 .rw[Zx hrn,List.map_append,List.map_append,hrdm];rfl
 .rw[hdr2,List.set_append_right _ _ (by omega),hrdl,Nat.sub_self,List.set_cons_zero] at h21;rw[List.map_append,List.append_assoc];exact h21.swap
structure ND where
 clk:Clk
 q:List Msg
 st:Int
 sent:Int
 log:List Zak
structure Zn where
 Kind:Int
 m:Msg
 Colour:Int
def Zn.ns (i:Zn):List Int:=[i.Kind,i.m.key.T,i.m.key.From,i.m.key.Seq,i.m.To,i.m.Class,i.m.Body,i.Colour]
abbrev Zn.cs (i:Zn):List Value:=Yi i.ns
def hearE (N:ND) (j:Int) (i:Zn):Int:=if i.Kind=2 then N.clk.hearE j i.m.key.T else if i.Kind=0 then (if N.clk.at' j<0 then 1 else if i.m.key.T<N.clk.at' j then 110 else ZdT 64 N.q i.m) else 130
def Zd0 (N:ND) (j:Int) (i:Zn):ND:=if i.Kind=2 then ⟨N.clk.hear j i.m.key.T,N.q,N.st,N.sent,N.log⟩ else if i.Kind=0/\¬N.clk.at' j<0/\¬i.m.key.T<N.clk.at' j then ⟨N.clk,ZfX N.q i.m,N.st,N.sent,N.log⟩ else N
def Zh8 (wd:Wd) (N:ND):Bool:=ZjD N.q&&decide ((hdM N.q).key.T<min wd.End N.clk.bound)
def ZuU (fd:Fed) (N:ND):Int × List Out:=ZbY fd.Rules N.st (hdM N.q).Class
def ZmU (fd:Fed) (N:ND):Zak:=⟨hdM N.q,(ZuU fd N).1⟩
def Zo7 (wd:Wd) (f:Nat) (fd:Fed) (N:ND):List Msg:=Zau wd.Parents wd.Feds f N.sent (hdM N.q).key.T (hdM N.q).Body (ZuU fd N).2
def Zmn (fd:Fed) (N:ND):ND:=⟨N.clk,N.q.tail,(ZuU fd N).1,N.sent+(ZuU fd N).2.length,N.log++[ZmU fd N]⟩
def Zcd (N:ND):Int:=if ZjD N.q=true then (hdM N.q).key.T else Inf
def ZiG (fd:Fed) (N:ND):ND:=⟨N.clk.tell (Zcd N) fd.Look,N.q,N.st,N.sent,N.log⟩
def ZoV (n:Nat) (f:Nat) (fd:Fed):ND:=⟨⟨List.replicate n 0,f,0⟩,[],fd.Start,fd.Init.length,[]⟩
structure NOk (wd:Wd) (f:Nat) (N:ND) (k:Nat):Prop where
 may:ZoS wd
 hf:f<wd.Feds.length
 len:N.clk.L.length=wd.Feds.length
 self:N.clk.self=f
 sent:0<=N.sent/\N.sent<=4+3*k
 log:N.log.length<=k
structure NV where
 X:WdX
 g:Nat
 q:Nat
 lv:Value
def ncs (X:WdX) (f:Int) (N:ND) (g q:Nat) (lv:Value):List Value:=[pt g,pt q,X.pv,X.fv,Iw X.End,Iw f,Iw N.st,Iw N.sent,lv]
def Zbu (n:Nat) (wd:Wd) (f:Nat) (N:ND) (k:Nat):HP:=hex λp:NV=>Yh [pur<|p.X.w=wd/\p.X.short/\NOk wd f N k,blk n 155<|ncs p.X f N p.g p.q p.lv,Zbv p.g N.clk,IsQ p.q N.q,Zag p.X,Zz 129 7 Zak.cs p.lv N.log]
theorem ZhZ {n f k:Nat} {wd:Wd} {N:ND} (h:Sat e w<|Zbu n wd f N k::Q):∃X g q lv,(X.w=wd/\X.short/\NOk wd f N k)/\Sat e w (blk n 155 (ncs X f N g q lv)::Zbv g N.clk::IsQ q N.q::Zag X::Zz 129 7 Zak.cs lv N.log::Q):=by
 obtain ⟨p,h0⟩:=h.ex;exact ⟨p.X,p.g,p.q,p.lv,Sat.pure h0.split⟩
theorem Zer {n f k:Nat} {wd:Wd} {N:ND} {X:WdX} {g q:Nat} {lv:Value} (hp:X.w=wd/\X.short/\NOk wd f N k) (h:Sat e w<|blk n 155 (ncs X f N g q lv)::Zbv g N.clk::IsQ q N.q::Zag X::Zz 129 7 Zak.cs lv N.log::Q):Sat e w (Zbu n wd f N k::Q):=
 .mk_ex ⟨X,g,q,lv⟩ (.join (l':=[_,_,_,_,_,_]) (.mk_pure hp h))
theorem ZzP {n f k:Nat} {wd:Wd} {N:ND} (i:Nat) (h:Sat e w L) (hi:L[i]?=some (Zbu n wd f N k)):NOk wd f N k/\QOk N.q:=by
 obtain ⟨X,g,q,lv,hX,h1⟩:=ZhZ<|h.pick i hi;exact ⟨hX.2.2,ZHn 2 h1 rfl⟩
theorem ZxN {x X:WdX} (h:X.w=x.w) (hs:x.short):X.short:=by
 have h1:X.Parents=x.Parents:=congrArg Wd.Parents h;have h2:X.Feds.map Zao.f=x.Feds.map Zao.f:=congrArg Wd.Feds h;have hl:X.Feds.length=x.Feds.length:=by simpa using congrArg List.length h2
 refine ⟨by rw[hl];exact hs.feds,by rw[h1];exact hs.par,λf hf=>?_⟩;have h3:f.f∈x.Feds.map Zao.f:=by rw[<-h2];exact List.mem_map_of_mem hf
 obtain ⟨g,hg,he⟩:=List.mem_map.1 h3;have hsg:=hs.fed g hg;have e1:g.Pubs=f.Pubs:=congrArg Fed.Pubs he;have e2:g.Subs=f.Subs:=congrArg Fed.Subs he;have e3:g.Init=f.Init:=congrArg Fed.Init he;have e4:g.Rules.map Yg.r=f.Rules.map Yg.r:=congrArg Fed.Rules he;have e5:g.Rules.length=f.Rules.length:=by simpa using congrArg List.length e4
 refine ⟨by rw[<-e1];exact hsg.pubs,by rw[<-e2];exact hsg.subs,by rw[<-e3];exact hsg.init,by rw[<-e5];exact hsg.rules,λq hq=>?_⟩;have h5:q.r∈g.Rules.map Yg.r:=by rw[e4];exact List.mem_map_of_mem hq
 obtain ⟨q',hq',he'⟩:=List.mem_map.1 h5;have e6:q'.Sends=q.Sends:=congrArg Zsp.Sends he';rw[<-e6];exact hsg.sends q' hq'
theorem ZoL {l:List Msg} (h:ZjD l=true):∃m r,l=m::r:=by
 cases l with
 | nil=>cases h
 | cons a l=>exact ⟨a,l,rfl⟩
def Zh3 (wd:Wd) (f:Int):Option Fed:=if 0<=f then (wd.Feds[f.toNat]?).bind λfd=>if fd.Kind=0 then some fd else none else none
theorem ZsZ {x:WdX} {f:Int} (i:Nat) (hi:L[i]?=some S) (hS:Sat e w L) (hr:∀g,S g->ZtG x g) (hwf:x.wf) (hs:x.short)
  (hbad:(Za4 x.w).2≠0->∀w',Sat e w' L->K (.tuple #[Pn,Iw (Za4 x.w).2]) w')
  (harg:(Za4 x.w).2=0->Zh3 x.w f=none->∀w',Sat e w' L->K (.tuple #[Pn,Iw 1]) w')
  (hok:(Za4 x.w).2=0->∀(n:Nat) fd,f=n->x.w.Feds[n]?=some fd->Zh3 x.w f=some fd->∀r w',Sat e w' (Zbu r x.w n (ZoV x.w.Feds.length n fd) 0::L)->K (.tuple #[pt r,Iw 0]) w') :
  Cl prog 26 #[.agg x.cs.toArray,Iw f] w K:=by
 refine Zol ?_;unfold ZvA;refine Yp (cs:=x.cs) hS rfl λb w1 h1=>Zo h1 0 (vs:=x.cs) rfl (by rfl) rfl ?_;refine ZdI (x:=x) (i+1) hi h1 hr hwf hs λw2 h2=>Zam<|Zal<|ZrP (λc1=>Zi<|hbad c1 _ h2.drop)<|λc1=>Zf ?_;have hwd:=ZfI c1;have hi2:(blk b 25 x.cs::L)[i+1]?=some S:=hi;have hwl:x.w.Feds.length=x.Feds.length:=by simp[WdX.w]
 by_cases d1:f<0
 .exact Qltt<|Zd<|Zd<|Zd<|Zd<|Zd<|Yv<|Zd<|Zd<|Zd<|Zd<|Zd<|Zd<|Zd<|Yv<|Zi<|harg c1 (if_neg<|by omega) _ h2.drop
 refine Ze7 d1<|Zj<|Zj<|Za<|Zj<|Zb h2 0 rfl (v:=x.fv) rfl<|Zj<|Zt h2 (i+1) hi2 (λ_ h=>(hr _ h).feds) ?_;by_cases d2:(x.Feds.length:Int)<=f
 .refine Ze<|Qget<|Yd<|Zd<|Zd<|Zd<|Zd<|Zd<|Zd<|Zd<|Yv<|Zi<|harg c1 ?_ _ h2.drop;unfold Zh3;rw[if_pos (by omega),List.getElem?_eq_none (by omega)];rfl
 refine Zj<|Qgef<|Yd ?_;obtain ⟨n,rfl⟩:∃n:Nat,f=n:=⟨f.toNat,by omega⟩;obtain ⟨fd,hfd⟩:=Zk (l:=x.Feds) (j:=n) (by omega);have hfdm:=List.mem_of_getElem? hfd;have hwf':x.w.Feds[n]?=some fd.f:=by simp only[WdX.w];rw[List.getElem?_map,hfd];rfl
 have hmay:Zh3 x.w n=if fd.Kind=0 then some fd.f else none:=by
  unfold Zh3;rw[if_pos (by omega),Int.toNat_natCast,hwf'];rfl
 refine Zj<|Za<|Zj<|Zb h2 0 rfl (v:=x.fv) rfl<|Zj<|Zj<|Zw h2 (i+1) hi2 (λ_ h=>(hr _ h).feds) (λ_=>rfl) hfd λp hp=>Zj<|Zbd hp λp1 hp1=>Zj<|Yt h2 (i+1) hi2 hp1 (v:=Iw fd.Kind) rfl<|Zj<|ZrP (λd3=>Yd<|Zi<|harg c1 (by rw[hmay,if_neg d3]) _ h2.drop)<|λd3=>Yd<|Zf ?_;rw[if_pos d3] at hmay;refine Za<|Zb h2 0 rfl (v:=x.fv) rfl<|Zt h2 (i+1) hi2 (λ_ h=>(hr _ h).feds) ?_;have hn:=hwd.n;refine ZqU (n:=x.Feds.length) (self:=n) (by omega) (by omega) (by omega) (by omega) h2 λg w3 h3=>?_;refine Zam<|Zal<|ZoP rfl<|Zf<|ZaY h3 λw4 h4=>?_;have hi4:(Zbv g ⟨List.replicate x.Feds.length 0,n,0⟩::blk b 25 x.cs::L)[i+2]?=some S:=hi;refine Zo h4 1 (vs:=x.cs) rfl (by rfl) rfl ?_;refine Za<|Zb h4 1 rfl (v:=x.fv) rfl<|Zw h4 (i+2) hi4 (λ_ h=>(hr _ h).feds) (λ_=>rfl) hfd λp2 hp2=>Zbd hp2 λp3 hp3=>Yt h4 (i+2) hi4 hp3 (v:=Iw fd.Start) rfl<|Za<|Zb h4 1 rfl (v:=x.fv) rfl<|Zw h4 (i+2) hi4 (λ_ h=>(hr _ h).feds) (λ_=>rfl) hfd λp4 hp4=>Zbd hp4 λp5 hp5=>Yt h4 (i+2) hi4 hp5 (v:=fd.iv) rfl<|Zt h4 (i+2) hi4 (λg hg=>((hr g hg).fed fd hfdm).init)<|ZoH h4 λq w5 h5=>?_;have hi5:(IsQ q []::Zbv g ⟨List.replicate x.Feds.length 0,n,0⟩::blk b 25 x.cs::L)[i+3]?=some S:=hi;have fin:∀(X:WdX) w',X.w=x.w->Sat e w' (Zag X::IsQ q []::Zbv g ⟨List.replicate x.Feds.length 0,n,0⟩::blk b 25 x.cs::L)->
   bld (Zl prog 155) #[(0,1),(1,1),(2,3),(5,1),(6,1),(7,1),(8,1)] [(0,pt g),(1,.agg #[pt q]),(2,.agg X.cs.toArray),(3,Iw n),(4,Iw fd.Start),(5,Iw (fd.Init.length:Int))] w' λt66 w=>al (Value.cells t66) 155 w λt67 w=>K (.tuple #[t67,Iw 0]) w:=by
  intro X w' hX h';refine Zaf (ncs X n (ZoV x.w.Feds.length n fd.f) g q Sn) (by kernel_rfl) ?_;refine Yp (cs:=ncs X n (ZoV x.w.Feds.length n fd.f) g q Sn) h' rfl λr w6 h6=>?_;have hinit:=hwd.init fd.f<|List.mem_of_getElem? hwf';have hil:fd.Init.length<=4:=hinit.1;refine hok c1 n fd.f rfl hwf' hmay r _<|Zer (X:=X) (g:=g) (q:=q) (lv:=Sn) ⟨hX,ZxN hX hs,hwd,by omega,by simp[ZoV],rfl,⟨by simp[ZoV],by show (fd.Init.length:Int)<=_;omega⟩,Nat.le_refl _⟩ ?_;have h7:=h6.own_nil 129 7 Zak.cs;rw[hwl];exact h7.sn 6 [1,4,3,2,0]
 have o1:∀{l':List HP} {w'} (j:Nat),Sat e w' l'->l'[j]?=some S->ld1 (.pointer<|some p5) w' (λv' w''=>v'=fd.iv/\w''=w'):=λj h' hj=>Yt h' j hj hp5 (v:=fd.iv) rfl ⟨rfl,rfl⟩;have o3:∀{l':List HP} {w'} (j:Nat),Sat e w' l'->l'[j]?=some S->ld1 (.pointer<|some p3) w' (λv' w''=>v'=Iw fd.Start/\w''=w'):=λj h' hj=>Yt h' j hj hp3 (v:=Iw fd.Start) rfl ⟨rfl,rfl⟩;have o2:∀{l':List HP} {w'} (j:Nat),Sat e w' l'->l'[j]?=some (blk b 25 x.cs)->ld1 (.pointer<|some ⟨b,0+1,none⟩) w' (λv' w''=>v'=x.fv/\w''=w'):=λj h' hj=>Zb h' j hj (v:=x.fv) rfl ⟨rfl,rfl⟩;have oN:∀{l':List HP} {w'} (j:Nat),Sat e w' l'->l'[j]?=some (blk b 25 x.cs)->ldN 3 (pt b) w' (λv' w''=>v'=.agg x.cs.toArray/\w''=w'):=λj h' hj=>Zo h' j hj (vs:=x.cs) rfl (by rfl) ⟨rfl,rfl⟩;have hq5:∀K:KV,K (.agg #[pt q]) w5->bld (Zl prog 152) #[(0,1)] [(0,pt q)] w5 K:=λK h=>Zaf [pt q] (by kernel_rfl) h;refine ⟨o1 _ h5 hi5,o2 2 h5 rfl,o3 _ h5 hi5,o2 2 h5 rfl,oN 2 h5 rfl,?_,?_⟩
 .refine Zaf [pt q] (by kernel_rfl) ⟨o1 _ h5 hi5,o2 2 h5 rfl,o3 _ h5 hi5,o2 2 h5 rfl,oN 2 h5 rfl,?_⟩;refine Zkp (x:=x) (i+3) hi5 h5 hr hs λX w6 hX h6=>?_;have hi6:(Zag X::IsQ q []::Zbv g ⟨List.replicate x.Feds.length 0,n,0⟩::blk b 25 x.cs::L)[i+4]?=some S:=hi;exact ⟨o1 _ h6 hi6,o2 3 h6 rfl,o3 _ h6 hi6,o2 3 h6 rfl,fin X _ hX h6⟩
 .refine Zkp (x:=x) (i+3) hi5 h5 hr hs λX w6 hX h6=>?_;have hi6:(Zag X::IsQ q []::Zbv g ⟨List.replicate x.Feds.length 0,n,0⟩::blk b 25 x.cs::L)[i+4]?=some S:=hi;refine ⟨o1 _ h6 hi6,o2 3 h6 rfl,o3 _ h6 hi6,o2 3 h6 rfl,Zaf [pt q] (by kernel_rfl) ⟨o1 _ h6 hi6,o2 3 h6 rfl,o3 _ h6 hi6,o2 3 h6 rfl,oN 3 h6 rfl,?_⟩⟩;exact fin X _ hX h6
end Go.Proofs.YtceipnkeijhebaaGreat
end
section
namespace Go.Proofs.YtceipnkeijhebaaGreat
open Go Go.E
set_option maxRecDepth 100000
structure WN where
 old:List Msg
 ms:List Msg
 q:List Msg
 fl:Int
 clk:List Int
def Zhz (fd:Fed) (b:Int × Int) (m:Msg):Int × Int:=((ZbY fd.Rules b.1 m.Class).1,b.2+(ZbY fd.Rules b.1 m.Class).2.length)
def ZoQ (wd:Wd) (f:Nat) (fd:Fed) (b:Int × Int) (m:Msg):En:=⟨m,b.1,b.2,(ZbY fd.Rules b.1 m.Class).1,Zau wd.Parents wd.Feds f b.2 m.key.T m.Body (ZbY fd.Rules b.1 m.Class).2⟩
def Zc8 (wd:Wd) (f:Nat) (fd:Fed):Int × Int->List Msg->List En
 | _,[]=>[]
 | b,m::l=>ZoQ wd f fd b m::Zc8 wd f fd (Zhz fd b m) l
def ZjE (fd:Fed):Int × Int->List Msg->Int × Int
 | b,[]=>b
 | b,m::l=>ZjE fd (Zhz fd b m) l
def ZxV (fd:Fed):Int × Int:=(fd.Start,fd.Init.length)
theorem Zi8 (fd:Fed):∀(a l:List Msg) (b:Int × Int),ZjE fd b (a++l)=ZjE fd (ZjE fd b a) l
 | [],_,_=>rfl
 | m::a,l,b=>Zi8 fd a l<|Zhz fd b m
theorem Zi3 (wd:Wd) (f:Nat) (fd:Fed):∀(a l:List Msg) (b:Int × Int),Zc8 wd f fd b (a++l)=Zc8 wd f fd b a++Zc8 wd f fd (ZjE fd b a) l
 | [],_,_=>rfl
 | m::a,l,b=>by
  show ZoQ wd f fd b m::Zc8 wd f fd (Zhz fd b m) (a++l)=_;rw[Zi3 wd f fd a l];rfl
theorem Zlh (wd:Wd) (f:Nat) (fd:Fed):∀(l:List Msg) (b:Int × Int),(Zc8 wd f fd b l).map En.m=l
 | [],_=>rfl
 | m::l,b=>by
  show m::(Zc8 wd f fd (Zhz fd b m) l).map En.m=_;rw[Zlh wd f fd l]
theorem ZbA (wd:Wd) (f:Nat) (fd:Fed) (l:List Msg) (b:Int × Int):(Zc8 wd f fd b l).length=l.length:=by
 have:=congrArg List.length<|Zlh wd f fd l b;rwa [List.length_map] at this
theorem ZpZ (wd:Wd) (f:Nat) (fd:Fed) (l:List Msg) (b:Int × Int) (n:Nat):(Zc8 wd f fd b l).take n=Zc8 wd f fd b (l.take n):=by
 by_cases h:n<=l.length
 .have e:=Zi3 wd f fd (l.take n) (l.drop n) b;rw[List.take_append_drop] at e;rw[e,List.take_append_of_le_length (by rw[ZbA,List.length_take];omega),List.take_of_length_le (by rw[ZbA,List.length_take];omega)]
 .rw[List.take_of_length_le (by rw[ZbA];omega),List.take_of_length_le (by omega)]
theorem Zpl (wd:Wd) (f:Nat) (fd:Fed) (l:List Msg) (b:Int × Int) (n:Nat):(Zc8 wd f fd b l).drop n=Zc8 wd f fd (ZjE fd b<|l.take n) (l.drop n):=by
 by_cases h:n<=l.length
 .have e:=Zi3 wd f fd (l.take n) (l.drop n) b;rw[List.take_append_drop] at e;rw[e,List.drop_append_of_le_length (by rw[ZbA,List.length_take];omega),List.drop_of_length_le (by rw[ZbA,List.length_take];omega)];rfl
 .rw[List.drop_of_length_le (by rw[ZbA];omega),List.drop_of_length_le (by omega)];rfl
theorem Zdm {wd:Wd} {f:Nat} {fd:Fed}:∀{l:List Msg} {b:Int × Int} {x:En},x∈Zc8 wd f fd b l->x.m∈l/\∃b',x=ZoQ wd f fd b' x.m
 | [],_,_,h=>by cases h
 | m::l,b,x,h=>by
  rcases List.mem_cons.1 h with rfl | h
  .exact ⟨List.mem_cons_self ..,b,rfl⟩
  .obtain ⟨h1,h2⟩:=Zdm h;exact ⟨List.mem_cons_of_mem _ h1,h2⟩
def WN.base (N:WN) (fd:Fed):Int × Int:=ZjE fd (ZxV fd) N.old
def WN.now (N:WN) (fd:Fed):Int × Int:=ZjE fd (N.base fd) N.ms
def WN.past (N:WN) (wd:Wd) (f:Nat) (fd:Fed):List En:=Zc8 wd f fd (N.base fd) N.ms
def ZfV (x:En):Zak:=⟨x.m,x.st⟩
def WN.log (N:WN) (wd:Wd) (f:Nat) (fd:Fed):List Zak:=(Zc8 wd f fd (ZxV fd) N.old).map ZfV
def Zci (wd:Wd) (j:Int):Bool:=if 0<=j then ((wd.Feds[j.toNat]?).map λf=>decide<|f.Kind=1).getD false else false
def ZmR (wd:Wd) (x:En):List Yz:=(x.outs.filter λm=>!Zci wd m.To).map λm=>⟨x.m.key,m⟩
def Yq (wd:Wd) (l:List En):List Yz:=l.flatMap<|ZmR wd
def ZbF (k:Key) (l:List Msg):List Msg:=l.filter λm=>decide<|Zv m.key k
def Yj (k:Key) (l:List Msg):List Msg:=l.filter λm=>!decide (Zv m.key k)
def Zae (m:Msg):Zn:=⟨0,m,0⟩
def Zs1 (m:Msg):Zn:=⟨1,m,0⟩
def ZiU (wd:Wd) (f:Nat) (fd:Fed) (N:WN) (k:Key):List En:=Zc8 wd f fd (ZjE fd (N.base fd)<|ZbF k N.ms)<|Yj k N.ms
def Zjg (wd:Wd) (x:En):List Zn:=(x.outs.filter λm=>Zci wd m.To).map Zs1
def Zk4 (wd:Wd) (l:List En):List Zn:=l.reverse.flatMap<|Zjg wd
def WN.at' (N:WN) (j:Int):Int:=if 0<=j then N.clk.getD j.toNat (-1) else -1
def ZeQ (k:Key) (l:List Msg):Bool:=l.any λm=>decide<|m.key=k
structure HR where
 e:Int
 out:List Zn
 N:WN
def ZbE (wd:Wd) (f:Nat) (fd:Fed) (N:WN) (j:Int) (i:Zn):HR:=
  if ¬(0<=j/\j<wd.Feds.length/\j≠f) then ⟨1,[],N⟩
  else if i.Kind=2 then
    (if N.at' j<0\/Yu i.m.key.T=false then ⟨1,[],N⟩ else if i.m.key.T<N.at' j then ⟨110,[],N⟩ else ⟨0,[],⟨N.old,N.ms,N.q,N.fl,N.clk.set j.toNat i.m.key.T⟩⟩)
  else if i.Kind=0 then
    (if i.m.key.T<N.fl\/(0<=N.at' j/\i.m.key.T<N.at' j) then ⟨110,[],N⟩
     else if ZeQ i.m.key (N.ms++N.q)=true then ⟨3,[],N⟩
     else if 64<=N.q.length+(Yj i.m.key N.ms).length then ⟨2,[],N⟩
     else ⟨0,Zk4 wd<|ZiU wd f fd N i.m.key,⟨N.old,ZbF i.m.key N.ms,Zkj i.m<|Yj i.m.key N.ms++N.q,N.fl,N.clk⟩⟩)
  else if i.Kind=1 then
    (if 0<=N.at' j then ⟨1,[],N⟩
     else if i.m.key.T<N.fl then ⟨110,[],N⟩
     else if ZeQ i.m.key N.q=true then ⟨0,[],⟨N.old,N.ms,without N.q i.m.key,N.fl,N.clk⟩⟩
     else if ZeQ i.m.key N.ms=false then ⟨4,[],N⟩
     else if 65<N.q.length+(Yj i.m.key N.ms).length then ⟨2,[],N⟩
     else ⟨0,Zk4 wd<|ZiU wd f fd N i.m.key,⟨N.old,ZbF i.m.key N.ms,without (Yj i.m.key N.ms++N.q) i.m.key,N.fl,N.clk⟩⟩)
  else ⟨130,[],N⟩
def Zcl (wd:Wd) (f:Nat) (fd:Fed) (N:WN):Int:=if ¬(ZjD N.q=true/\(hdM N.q).key.T<wd.End) then 150 else if 64<=N.ms.length\/192<(Yq wd<|N.past wd f fd).length then 2 else 0
def Zin (wd:Wd) (f:Nat) (fd:Fed) (N:WN):En:=ZoQ wd f fd (N.now fd)<|hdM N.q
def ZqQ (wd:Wd) (x:En):List Zn:=(x.outs.filter λm=>Zci wd m.To).map Zae
def Zcv (N:WN):WN:=⟨N.old,N.ms++[hdM N.q],N.q.tail,N.fl,N.clk⟩
def ZcM (N:WN):Int:=ZaP<|(if ZjD N.q=true then [(hdM N.q).key.T] else [])++N.clk.filter λt=>decide<|0<=t
def Zc6 (t:Int) (l:List Msg):List Msg:=l.filter λm=>decide<|m.key.T<t
def ZmO (t:Int) (l:List Msg):List Msg:=l.filter λm=>!decide (m.key.T<t)
def ZaB (N:WN) (t:Int):Int:=if t<N.fl then 110 else if ZcM N<t then 130 else 0
def ZaC (wd:Wd) (f:Nat) (fd:Fed) (N:WN) (t:Int):List En:=Zc8 wd f fd (N.base fd)<|Zc6 t N.ms
def Ys (N:WN) (t:Int):WN:=⟨N.old++Zc6 t N.ms,ZmO t N.ms,N.q,t,N.clk⟩
def Za6 (fd:Fed) (N:WN):Int:=ZvS N.fl fd.Look
def ZiQ (wd:Wd):WN:=⟨[],[],[],0,wd.Feds.map λg=>if g.Kind=0 then 0 else -1⟩
structure WOk (wd:Wd) (f:Nat) (fd:Fed) (N:WN) (k:Nat):Prop where
 may:ZoS wd
 hfd:wd.Feds[f]?=some fd
 kind:fd.Kind=1
 clen:N.clk.length=wd.Feds.length
 clk:∀(j:Nat) (g:Fed),wd.Feds[j]?=some g->∃t,N.clk[j]?=some t/\((g.Kind=0/\0<=t/\t<=Inf)\/(g.Kind≠0/\t=-1))
 up:Upk (N.old++(N.ms++N.q))
 lo:∀m∈N.old,m.key.T<N.fl
 hi:∀m∈N.ms++N.q,N.fl<=m.key.T\/wd.End<=m.key.T
 fl:0<=N.fl
 ql:N.q.length<=64
 ml:N.ms.length<=64
 cnt:N.old.length+N.ms.length<=k
 en:∀m∈N.old++N.ms,m.key.T<wd.End
theorem ZvC {α:Type} {p:α->Bool} {l:List α} {n:Nat} (h1:∀x∈l.take n,p x=true) (h2:∀x∈l.drop n,p x=false):l.filter p=l.take n/\(l.filter λx=>!p x)=l.drop n:=by
 constructor
 .conv=>lhs;rw[<-List.take_append_drop n l]
  rw[List.filter_append,List.filter_eq_self.2 h1,List.filter_eq_nil_iff.2 (λx hx=>by rw[h2 x hx];decide),List.append_nil]
 .conv=>lhs;rw[<-List.take_append_drop n l]
  rw[List.filter_append,List.filter_eq_nil_iff.2 (λx hx=>by rw[h1 x hx];decide),List.filter_eq_self.2 (λx hx=>by rw[h2 x hx];rfl),List.nil_append]
theorem ZvD {p:Msg->Bool}:∀{l:List Msg},(l.Pairwise λa b=>p b=true->p a=true)->∃n,n<=l.length/\(∀x∈l.take n,p x=true)/\∀x∈l.drop n,p x=false
 | [],_=>⟨0,Nat.le_refl _,by simp,by simp⟩
 | a::l,h=>by
  obtain ⟨h1,h2⟩:=List.pairwise_cons.1 h;cases hp:p a with
  | false=>
   refine ⟨0,Nat.zero_le _,by simp,λx hx=>?_⟩;rcases List.mem_cons.1 hx with rfl | hx
   .exact hp
   .cases hx':p x with
    | false=>rfl
    | true=>rw[h1 x hx hx'] at hp;cases hp
  | true=>
   obtain ⟨n,hn,h3,h4⟩:=ZvD h2;refine ⟨n+1,by simp;omega,λx hx=>?_,h4⟩;rcases List.mem_cons.1 hx with rfl | hx
   .exact hp
   .exact h3 x hx
theorem ZkC {p:Msg->Bool} {l:List Msg} (h:l.Pairwise λa b=>p b=true->p a=true):l.filter p++(l.filter λx=>!p x)=l:=by
 obtain ⟨n,_,h1,h2⟩:=ZvD h;obtain ⟨e1,e2⟩:=ZvC h1 h2;rw[e1,e2,List.take_append_drop]
theorem Zgf {l:List Msg} (h:Upk l) (k:Key):ZbF k l++Yj k l=l:=
 ZkC (h.imp λ{a b} hab hb=>by
  rw[decide_eq_true_iff] at*;exact hab.trans hb)
theorem ZnE {l:List Msg} (h:Upk l) (t:Int):Zc6 t l++ZmO t l=l:=
 ZkC (h.imp λ{a b} hab hb=>by
  rw[decide_eq_true_iff] at*;unfold Zv at hab;omega)
theorem Upk.left {a b:List Msg} (h:Upk<|a++b):Upk a:=(List.pairwise_append.1 h).1
theorem Upk.right {a b:List Msg} (h:Upk<|a++b):Upk b:=(List.pairwise_append.1 h).2.1
theorem Upk.mid {a b:List Msg} (h:Upk<|a++b) {x y:Msg} (hx:x∈a) (hy:y∈b):Zv x.key y.key:=(List.pairwise_append.1 h).2.2 x hx y hy
theorem Zwv {m:Msg} {l:List Msg} (h:∀y∈l,Zv m.key y.key):Zkj m l=m::l:=by
 cases l with
 | nil=>rfl
 | cons a l=>
  unfold Zkj;rw[if_pos<|Zav.2<|h a<|List.mem_cons_self ..]
theorem Zve (m x:Msg) (l:List Msg):Zkj m (x::l)=if ZeU m.key x.key<0 then m::x::l else x::Zkj m l:=rfl
theorem Zo8 {m:Msg}:∀{a b:List Msg},(∀y∈a,Zv y.key m.key)->Zkj m (a++b)=a++Zkj m b
 | [],_,_=>rfl
 | x::a,b,h=>by
  have h1:=h x<|List.mem_cons_self ..;rw[List.cons_append,Zve,if_neg<|λhc=>h1.asymm<|Zav.1 hc,Zo8 λy hy=>h y<|List.mem_cons_of_mem _ hy,List.cons_append]
theorem Zkv {l:List Msg} {k:Key} (h:∀y∈l,y.key≠k):without l k=l:=List.filter_eq_self.2 λx hx=>by rw[decide_eq_false<|h x hx];rfl
theorem ZlU (a b:List Msg) (k:Key):without (a++b) k=without a k++without b k:=List.filter_append ..
theorem Zgl {k:Key} {l:List Msg}:ZeQ k l=true↔∃m∈l,m.key=k:=by
 unfold ZeQ;rw[List.any_eq_true];constructor
 .rintro ⟨m,h1,h2⟩;exact ⟨m,h1,of_decide_eq_true h2⟩
 .rintro ⟨m,h1,h2⟩;exact ⟨m,h1,decide_eq_true h2⟩
theorem ZuS {k:Key} {l:List Msg}:ZeQ k l=false↔∀m∈l,m.key≠k:=by
 rw[<-Bool.not_eq_true,Zgl];constructor
 .intro h m h1 h2;exact h ⟨m,h1,h2⟩
 .rintro h ⟨m,h1,h2⟩;exact h m h1 h2
section
variable {wd:Wd} {f:Nat} {fd:Fed} {N:WN} {k:Nat}
theorem WOk.ups (h:WOk wd f fd N k):Upk N.ms:=h.up.right.left
theorem WOk.upq (h:WOk wd f fd N k):Upk N.q:=h.up.right.right
theorem WOk.mono (h:WOk wd f fd N k) {k':Nat} (hk:k<=k'):WOk wd f fd N k':=⟨h.may,h.hfd,h.kind,h.clen,h.clk,h.up,h.lo,h.hi,h.fl,h.ql,h.ml,Nat.le_trans h.cnt hk,h.en⟩
theorem WOk.hf (h:WOk wd f fd N k):f<wd.Feds.length:=(List.getElem?_eq_some_iff.1 h.hfd).1
theorem Zoj (h:ZoS wd) (hfd:wd.Feds[f]?=some fd) (s c:Int):(ZbY fd.Rules s c).2.length<=3:=(ZlA h (List.mem_of_getElem? hfd) s c).1
theorem ZoB (h:ZoS wd) (hfd:wd.Feds[f]?=some fd):∀(l:List Msg) (b:Int × Int),b.2<=(ZjE fd b l).2/\(ZjE fd b l).2<=b.2+3*l.length
 | [],b=>by simp[ZjE]
 | m::l,b=>by
  have h1:=ZoB h hfd l<|Zhz fd b m;have h2:=Zoj h hfd b.1 m.Class;simp only[List.length_cons];show b.2<=(ZjE fd (Zhz fd b m) l).2/\(ZjE fd (Zhz fd b m) l).2<=_;have h3:(Zhz fd b m).2=b.2+(ZbY fd.Rules b.1 m.Class).2.length:=rfl;omega
theorem Zwf (h:ZoS wd) (hfd:wd.Feds[f]?=some fd):0<=(ZxV fd).2/\(ZxV fd).2<=4:=by
 have h1:=(h.init fd<|List.mem_of_getElem? hfd).1;show 0<=(fd.Init.length:Int)/\(fd.Init.length:Int)<=4;omega
theorem WOk.sent (h:WOk wd f fd N k):0<=(N.base fd).2/\(N.base fd).2<=(N.now fd).2/\(N.now fd).2<=4+3*k:=by
 have h1:=Zwf h.may h.hfd;have h2:=ZoB h.may h.hfd N.old<|ZxV fd;have h3:=ZoB h.may h.hfd N.ms<|N.base fd;have h4:=h.cnt;have h5:N.base fd=ZjE fd (ZxV fd) N.old:=rfl;have h6:N.now fd=ZjE fd (N.base fd) N.ms:=rfl;rw[<-h5] at h2;rw[<-h6] at h3;omega
theorem ZnV (h:ZoS wd) (hfd:wd.Feds[f]?=some fd) (b:Int × Int) (m:Msg):(ZoQ wd f fd b m).outs.length<=24/\∀x∈(ZoQ wd f fd b m).outs,0<=x.To/\x.To<wd.Feds.length/\x.To≠f:=by
 constructor
 .have h1:=ZcU wd.Parents wd.Feds f b.2 m.key.T m.Body (ZbY fd.Rules b.1 m.Class).2;have h2:=Zoj h hfd b.1 m.Class;have h3:=h.n.2;have h4:(ZbY fd.Rules b.1 m.Class).2.length*wd.Feds.length<=3*8:=Nat.mul_le_mul h2 h3;exact Nat.le_trans h1 h4
 .intro x hx;have h1:=Zpu hx;exact h1.to
end
end Go.Proofs.YtceipnkeijhebaaGreat
end
section
namespace Go.Proofs.YtceipnkeijhebaaGreat
open Go Go.E
set_option maxRecDepth 100000
structure CL where
 begun:Int
 over:Int
 T:List Int
 Rp:List Int
 on0:Int
 on1:Int
 least:Int
 value:Int
def CL.zero (n:Nat):CL:=⟨0,0,List.replicate n 0,List.replicate n 0,0,0,0,0⟩
def CL.on (c:CL) (k:Int):Int:=if k=0 then c.on0 else c.on1
def CL.setOn (c:CL) (k x:Int):CL:=if k=0 then { c with on0:=x } else { c with on1:=x }
def CL.t (c:CL) (i:Nat):Int:=c.T.getD i 0
def CL.sent (c:CL) (i:Nat) (t:Int):CL:=if c.over<c.begun/\c.t i=c.begun then { c.setOn (c.t i % 2) (c.on (c.t i % 2)+1) with least:=min c.least t } else c.setOn (c.t i % 2) (c.on (c.t i % 2)+1)
def CL.got (c:CL) (k:Int):CL:=if ¬(0<=k/\k<=1)\/c.on k=0 then c else c.setOn k (c.on k - 1)
inductive Nd where
 | slow (N:ND)
 | bold (N:WN) (rank:Nat) (told:Int)
def Nd.isBold:Nd->Bool
 | .slow _=>false
 | .bold _ _ _=>true
def Nd.rank:Nd->Nat
 | .slow _=>0
 | .bold _ r _=>r
structure KS where
 nodes:List Nd
 boxes:List (List Zn)
 net:List (List<|List Zn)
 room:Nat
 cut:Option CL
section
variable (wd:Wd)
def KS.node (k:KS) (a:Nat):Nd:=k.nodes.getD a (.slow ⟨⟨[],0,0⟩,[],0,0,[]⟩)
def KS.box (k:KS) (a:Nat):List Zn:=k.boxes.getD a []
def KS.put (k:KS) (a:Nat) (l:List Zn):KS:={ k with boxes:=k.boxes.set a (k.box a++l) }
def KS.q (k:KS) (a b:Nat):List Zn:=(k.net.getD a []).getD b []
def KS.setQ (k:KS) (a b:Nat) (l:List Zn):KS:={ k with net:=k.net.set a ((k.net.getD a []).set b l) }
def KS.setN (k:KS) (a:Nat) (n:Nd):KS:={ k with nodes:=k.nodes.set a n }
def Zs (a:Nat):Fed:=wd.Feds.getD a ⟨0,0,0,[],[],[],[]⟩
def KS.counted (k:KS) (a b:Nat) (i:Zn):Bool:=!decide (i.Kind=2)&&(k.node a).isBold&&(k.node b).isBold
def KS.roomAt (k:KS) (a b:Int):Nat:=if 0<=b/\a<k.nodes.length/\b<k.nodes.length/\a≠b then k.room - (k.q a.toNat b.toNat).length else 0
def KS.step (k:KS) (a:Nat):Int × KS:=
 if k.box a≠[] then (2,k) else
 match k.node a with
 | .slow N=>if Zh8 wd N then (0,(k.setN a (.slow<|Zmn (Zs wd a) N)).put a<|(Zo7 wd a (Zs wd a) N).map Zae) else (150,k)
 | .bold N r t=>if Zcl wd a (Zs wd a) N=0 then (0,(k.setN a (.bold (Zcv N) r t)).put a<|ZqQ wd<|Zin wd a (Zs wd a) N) else (Zcl wd a (Zs wd a) N,k)
def KS.flush (k:KS) (a:Nat):Int × KS:=
 match k.box a with
 | []=>(150,k)
 | i::r=>
  if k.roomAt a i.m.To=0 then (2,k) else
  let b:=i.m.To.toNat
  match k.counted a b i,k.cut with
  | true,some c=>(0,({ k with boxes:=k.boxes.set a r,cut:=some (c.sent (k.node a).rank i.m.key.T) }).setQ a b<|k.q a b++([⟨i.Kind,i.m,c.t (k.node a).rank % 2⟩]:List Zn))
  | _,_=>(0,({ k with boxes:=k.boxes.set a r }).setQ a b<|k.q a b++[i])
def KS.hears (k:KS) (a b:Nat) (i:Zn):Int × List Zn × Nd:=
 match k.node b with
 | .slow N=>(hearE N a i,[],.slow<|Zd0 N a i)
 | .bold N rk t=>((ZbE wd b (Zs wd b) N a i).e,(ZbE wd b (Zs wd b) N a i).out,.bold (ZbE wd b (Zs wd b) N a i).N rk t)
def KS.deliver (k:KS) (a b:Nat):Int × KS:=
 match k.q a b with
 | []=>(150,k)
 | i::r=>
  let res:=k.hears wd a b i
  if res.1≠0 then (res.1,k) else
  let k1:=((k.setN b res.2.2).setQ a b r).put b res.2.1
  match k.counted a b i,k.cut with
  | true,some c=>(0,{ k1 with cut:=some (c.got i.Colour) })
  | _,_=>(0,k1)
def ZaW (k:KS) (a:Nat) (t:Int):List Zn:=((List.range k.nodes.length).filter λf=>!decide (f=a)&&!((k.node a).isBold&&(k.node f).isBold)).map λ(f:Nat)=>(⟨2,⟨⟨t,0,0⟩,(f:Int),0,0⟩,0⟩:Zn)
def KS.tell (k:KS) (a:Nat):Int × KS:=
 if k.box a≠[] then (2,k) else
 match k.node a with
 | .slow N=>if N.clk.tellB (Zcd N) (Zs wd a).Look then (0,(k.setN a (.slow<|ZiG (Zs wd a) N)).put a<|ZaW k a<|N.clk.tellT (Zcd N) (Zs wd a).Look) else (150,k)
 | .bold N r t=>if Za6 (Zs wd a) N<=t then (150,k) else (0,(k.setN a (.bold N r<|Za6 (Zs wd a) N)).put a<|ZaW k a<|Za6 (Zs wd a) N)
def KS.settle (k:KS) (t:Int):KS:=
 (List.range k.nodes.length).foldl (λk f=>match k.node f with
  | .slow _=>k
  | .bold N r told=>if ZaB N t=0 then (k.setN f (.bold (Ys N t) r told)).put f (((Yq wd<|ZaC wd f (Zs wd f) N t).map Yz.m).map Zae) else k) k
def KS.report (k:KS) (a:Nat):Int × KS:=
 match k.node a,k.cut with
 | .bold N r _,some c=>
  if ¬c.over<c.begun\/(c.T.all λt=>decide<|t=c.begun)=false\/c.Rp.getD r 0=c.begun then (130,k) else
  if c.on (c.over % 2)≠0 then (150,k) else
  let x:=ZaP<|ZcM N::((k.box a).filter λi=>k.counted a i.m.To.toNat i).map λi=>i.m.key.T;let c1:CL:={ c with Rp:=c.Rp.set r c.begun,least:=min c.least x }
  if (c1.Rp.all λt=>decide<|t=c1.begun)=true then
   let c2:CL:={ c1 with over:=c1.begun,value:=max c1.value c1.least }
   (0,({ k with cut:=some c2 }).settle wd c2.value)
  else (0,{ k with cut:=some c1 })
 | _,_=>(1,k)
def KS.begin' (k:KS):Int × KS:=
 match k.cut with
 | none=>(150,k)
 | some c=>if c.over<c.begun then (130,k) else (0,{ k with cut:=some { c with begun:=c.begun+1,least:=Inf } })
def KS.turn (k:KS) (a:Nat):Int × KS:=
 match k.node a,k.cut with
 | .bold _ r _,some c=>if ¬c.over<c.begun\/c.t r=c.begun then (130,k) else (0,{ k with cut:=some { c with T:=c.T.set r c.begun } })
 | _,_=>(1,k)
def KS.do' (k:KS) (kind a b:Nat):Int × KS:=
 match kind with
 | 0=>k.step wd a
 | 1=>k.flush a
 | 2=>k.deliver wd a b
 | 3=>k.tell wd a
 | 4=>k.begin'
 | 5=>k.turn a
 | _=>k.report wd a
def rep {α:Type} (f:α->α):Nat->α->α
 | 0,x=>x
 | n+1,x=>rep f n<|f x
def ZpY (n a:Nat) (fd:Fed) (rk:Nat):Nd:=if fd.Kind=0 then .slow (ZoV n a fd) else .bold (ZiQ wd) rk 0
def Zjo:List Fed->Nat->List Nat
 | [],_=>[]
 | f::l,n=>n::Zjo l (if f.Kind=0 then n else n+1)
def KS.init (room:Nat):KS:=
 let n:=wd.Feds.length;let bs:=(wd.Feds.filter λf=>!decide (f.Kind=0)).length;let k:KS:=⟨((wd.Feds.zip<|Zjo wd.Feds 0).zipIdx).map λp=>ZpY wd n p.2 p.1.1 p.1.2,List.replicate n [],List.replicate n<|List.replicate n [],room,if bs=0 then none else some (CL.zero bs)⟩
 (Zaz wd.Parents wd.Feds wd.Feds).foldl (λk m=>k.put m.key.From.toNat [Zae m]) k
def Nd.log (k:Nd) (a:Nat):List Zak:=match k with
 | .slow N=>N.log
 | .bold N _ _=>N.log wd a<|Zs wd a
def KS.quiet (k:KS):Bool:=
 (k.net.all λr=>r.all λl=>l.all λi=>decide<|i.Kind=2)&&(List.range k.nodes.length).all λf=>((k.box f).all λi=>decide<|i.Kind=2)&&match k.node f with
  | .slow N=>!(ZjD N.q&&decide ((hdM N.q).key.T<wd.End))
  | .bold N _ _=>!(ZjD N.q&&decide ((hdM N.q).key.T<wd.End))&&N.ms.isEmpty
end
def Zv3:List Zsp:=[⟨0,0,1,[⟨0,2,1⟩]⟩,⟨1,0,0,[⟨0,3,1⟩]⟩]
def Zb2 (a b:Int):Wd:=⟨[-1],[⟨a,2,0,Zv3,[0],[0],[⟨0,3,0⟩]⟩,⟨b,2,0,Zv3,[0],[0],[]⟩],20⟩
end Go.Proofs.YtceipnkeijhebaaGreat
end
section
namespace Go.Proofs.YtceipnkeijhebaaGreat
open Go Go.E
set_option maxRecDepth 100000
variable {wd:Wd}
theorem ZaX {α:Type} (l:List α) (a f:Nat) (x d:α):(l.set a x).getD f d=if a=f/\a<l.length then x else l.getD f d:=by
 rw[List.getD_eq_getElem?_getD,List.getD_eq_getElem?_getD,List.getElem?_set];by_cases h:a=f
 .subst h;by_cases h2:a<l.length
  .rw[if_pos rfl,if_pos h2,if_pos ⟨rfl,h2⟩];rfl
  .rw[if_pos rfl,if_neg h2,if_neg<|λh=>h2 h.2,List.getElem?_eq_none (by omega)]
 .rw[if_neg h,if_neg<|λh'=>h h'.1]
def Zrm (wd:Wd) (q:List Msg):Prop:=¬(ZjD q=true/\(hdM q).key.T<wd.End)
def ZEx (wd:Wd):Nd->Prop
 | .slow N=>Zrm wd N.q
 | .bold N _ _=>Zrm wd N.q/\N.ms=[]
structure ZgS (wd:Wd) (k:KS):Prop where
 boxes:∀f,∀i∈k.box f,i.Kind=2
 net:∀a b,∀i∈k.q a b,i.Kind=2
 node:∀f,ZEx wd<|k.node f
def Zb5 (wd:Wd) (k k':KS):Prop:=∀f,(k'.node f).log wd f=(k.node f).log wd f
theorem ZaK (k:KS) (a f:Nat) (n:Nd):(k.setN a n).node f=if a=f/\a<k.nodes.length then n else k.node f:=ZaX ..
theorem Zmr (k:KS) (a f:Nat) (l:List Zn):(k.put a l).box f=if a=f/\a<k.boxes.length then k.box a++l else k.box f:=ZaX ..
theorem ZDa (k:KS) (a b c d:Nat) (l:List Zn):∀i∈(k.setQ a b l).q c d,i∈l\/i∈k.q c d:=by
 intro i hi;unfold KS.setQ KS.q at hi;dsimp only at hi;rw[ZaX] at hi;split at hi
 .rename_i h;rw[ZaX] at hi;split at hi
  .exact .inl hi
  .right;unfold KS.q;rw[<-h.1];exact hi
 .exact .inr hi
theorem ZgS.setN {k:KS} (h:ZgS wd k) {a:Nat} {n:Nd} (hn:ZEx wd n) (hl:n.log wd a=(k.node a).log wd a):ZgS wd (k.setN a n)/\Zb5 wd k (k.setN a n):=by
 refine ⟨⟨h.boxes,h.net,λf=>?_⟩,λf=>?_⟩
 .rw[ZaK];split
  .exact hn
  .exact h.node f
 .rw[ZaK];split
  .rename_i hf;rw[<-hf.1];exact hl
  .rfl
theorem ZgS.put {k:KS} (h:ZgS wd k) {a:Nat} {l:List Zn} (hl:∀i∈l,i.Kind=2):ZgS wd (k.put a l)/\Zb5 wd k (k.put a l):=by
 refine ⟨⟨λf i hi=>?_,h.net,h.node⟩,λ_=>rfl⟩;rw[Zmr] at hi;split at hi
 .rcases List.mem_append.1 hi with hi | hi
  .exact h.boxes a i hi
  .exact hl i hi
 .exact h.boxes f i hi
theorem ZgS.setQ {k:KS} (h:ZgS wd k) {a b:Nat} {l:List Zn} (hl:∀i∈l,i.Kind=2):ZgS wd (k.setQ a b l)/\Zb5 wd k (k.setQ a b l):=by
 refine ⟨⟨h.boxes,λc d i hi=>?_,h.node⟩,λ_=>rfl⟩;rcases ZDa k a b c d l i hi with hi | hi
 .exact hl i hi
 .exact h.net c d i hi
theorem ZgS.cut {k:KS} (h:ZgS wd k) (c:Option CL):ZgS wd { k with cut:=c }:=⟨h.boxes,h.net,h.node⟩
theorem ZuY {N:ND} (h:Zrm wd N.q):Zh8 wd N=false:=by
 unfold Zh8;cases hh:ZjD N.q with
 | false=>rfl
 | true=>
  have:¬(hdM N.q).key.T<wd.End:=λhl=>h ⟨hh,hl⟩;rw[decide_eq_false (by omega)];rfl
theorem ZuZ {N:WN} {f:Nat} {fd:Fed} (h:Zrm wd N.q):Zcl wd f fd N≠0:=by
 unfold Zcl;unfold Zrm at h;rw[if_pos h];decide
theorem ZgS.settle1 {k:KS} (h:ZgS wd k) (t:Int) (f:Nat):ZgS wd (match k.node f with
  | .slow _=>k
  | .bold N r told=>if ZaB N t=0 then (k.setN f (.bold (Ys N t) r told)).put f (((Yq wd<|ZaC wd f (Zs wd f) N t).map Yz.m).map Zae) else k)/\
  Zb5 wd k (match k.node f with
  | .slow _=>k
  | .bold N r told=>if ZaB N t=0 then (k.setN f (.bold (Ys N t) r told)).put f (((Yq wd<|ZaC wd f (Zs wd f) N t).map Yz.m).map Zae) else k):=by
 cases hn:k.node f with
 | slow N=>exact ⟨h,λ_=>rfl⟩
 | bold N r told=>
  have hr:=h.node f;rw[hn] at hr;obtain ⟨h1,h2⟩:=hr;dsimp only;split
  .have he:Zc6 t N.ms=[]:=by rw[h2];rfl
   have hl:ZmO t N.ms=[]:=by rw[h2];rfl
   have hs:ZaC wd f (Zs wd f) N t=[]:=by unfold ZaC;rw[he];rfl
   have hc:Ys N t=⟨N.old,[],N.q,t,N.clk⟩:=by unfold Ys;rw[he,hl,List.append_nil]
   obtain ⟨g1,g2⟩:=h.setN (a:=f) (n:=.bold (Ys N t) r told) (by rw[hc];exact ⟨h1,rfl⟩) (by rw[hn,hc];rfl);obtain ⟨g3,g4⟩:=g1.put (a:=f) (l:=((Yq wd<|ZaC wd f (Zs wd f) N t).map Yz.m).map Zae) (by rw[hs];simp[Yq]);exact ⟨g3,λx=>(g4 x).trans<|g2 x⟩
  .exact ⟨h,λ_=>rfl⟩
theorem ZgS.settle {k:KS} (h:ZgS wd k) (t:Int):ZgS wd (k.settle wd t)/\Zb5 wd k (k.settle wd t):=by
 unfold KS.settle;generalize List.range k.nodes.length=l;induction l generalizing k with
 | nil=>exact ⟨h,λ_=>rfl⟩
 | cons f l ih=>
  obtain ⟨h1,h2⟩:=h.settle1 t f;obtain ⟨h3,h4⟩:=ih h1;exact ⟨h3,λx=>(h4 x).trans<|h2 x⟩
theorem Znj (k:KS) (a:Nat) (t:Int):∀i∈ZaW k a t,i.Kind=2:=λi hi=>by
 obtain ⟨f,_,rfl⟩:=List.mem_map.1 hi;rfl
theorem ZgS.do' {k:KS} (h:ZgS wd k) (kind a b:Nat):ZgS wd (k.do' wd kind a b).2/\Zb5 wd k (k.do' wd kind a b).2:=by
 have same:ZgS wd k/\Zb5 wd k k:=⟨h,λ_=>rfl⟩;have hna:=h.node a;have hnb:=h.node b;unfold KS.do';split
 .unfold KS.step;split
  .exact same
  .split
   .rename_i N hn;rw[hn] at hna;rw[ZuY hna];exact same
   .rename_i N r t hn;rw[hn] at hna;rw[if_neg<|ZuZ hna.1];exact same
 .unfold KS.flush;split
  .exact same
  .rename_i i r hb;have hbx:∀j∈i::r,j.Kind=2:=by rw[<-hb];exact h.boxes a
   have hi:=hbx i<|List.mem_cons_self ..;split
   .exact same
   .have hc:k.counted a i.m.To.toNat i=false:=by unfold KS.counted;rw[decide_eq_true hi];rfl
    have h1:ZgS wd { k with boxes:=k.boxes.set a r }:=⟨λf j hj=>by
     unfold KS.box at hj;dsimp only at hj;rw[ZaX] at hj;split at hj
     .exact hbx j<|List.mem_cons_of_mem _ hj
     .exact h.boxes f j hj,h.net,h.node⟩
    dsimp only;rw[hc];dsimp only;exact h1.setQ λj hj=>by
     rcases List.mem_append.1 hj with hj | hj
     .exact h.net _ _ j hj
     .rw[List.mem_singleton.1 hj];exact hi
 .unfold KS.deliver;split
  .exact same
  .rename_i i r hb;have hbx:∀j∈i::r,j.Kind=2:=by rw[<-hb];exact h.net a b
   have hi:=hbx i<|List.mem_cons_self ..;have hc:k.counted a b i=false:=by unfold KS.counted;rw[decide_eq_true hi];rfl
   rw[hc];unfold KS.hears;cases hn:k.node b with
   | slow N=>
    rw[hn] at hnb;dsimp only;split
    .exact same
    .have hN:Zd0 N a i=⟨N.clk.hear a i.m.key.T,N.q,N.st,N.sent,N.log⟩:=by unfold Zd0;rw[if_pos hi]
     rw[hN];obtain ⟨g1,g2⟩:=h.setN (a:=b) (n:=.slow ⟨N.clk.hear a i.m.key.T,N.q,N.st,N.sent,N.log⟩) hnb (by rw[hn];rfl);obtain ⟨g3,g4⟩:=g1.setQ (a:=a) (b:=b) (l:=r) λj hj=>hbx j<|List.mem_cons_of_mem _ hj;obtain ⟨g5,g6⟩:=g3.put (a:=b) (l:=[]) (by simp);exact ⟨g5,λx=>((g6 x).trans<|g4 x).trans<|g2 x⟩
   | bold N rk t=>
    rw[hn] at hnb;dsimp only;split
    .exact same
    .have hH:(ZbE wd b (Zs wd b) N a i).out=[]/\(ZbE wd b (Zs wd b) N a i).N.q=N.q/\(ZbE wd b (Zs wd b) N a i).N.ms=N.ms/\(ZbE wd b (Zs wd b) N a i).N.old=N.old:=by
      unfold ZbE;rw[if_pos hi];split
      .exact ⟨rfl,rfl,rfl,rfl⟩
      .split
       .exact ⟨rfl,rfl,rfl,rfl⟩
       .split
        .exact ⟨rfl,rfl,rfl,rfl⟩
        .exact ⟨rfl,rfl,rfl,rfl⟩
     obtain ⟨e1,e2,e3,e4⟩:=hH;obtain ⟨g1,g2⟩:=h.setN (a:=b) (n:=.bold (ZbE wd b (Zs wd b) N a i).N rk t) ⟨by rw[e2];exact hnb.1,by rw[e3];exact hnb.2⟩ (by rw[hn];unfold Nd.log WN.log;dsimp only;rw[e4]);obtain ⟨g3,g4⟩:=g1.setQ (a:=a) (b:=b) (l:=r) λj hj=>hbx j<|List.mem_cons_of_mem _ hj;obtain ⟨g5,g6⟩:=g3.put (a:=b) (l:=(ZbE wd b (Zs wd b) N a i).out) (by rw[e1];simp);exact ⟨g5,λx=>((g6 x).trans<|g4 x).trans<|g2 x⟩
 .unfold KS.tell;split
  .exact same
  .split
   .rename_i N hn;rw[hn] at hna;split
    .obtain ⟨g1,g2⟩:=h.setN (a:=a) (n:=.slow<|ZiG (Zs wd a) N) hna (by rw[hn];rfl);obtain ⟨g3,g4⟩:=g1.put (a:=a) (l:=ZaW k a<|N.clk.tellT (Zcd N) (Zs wd a).Look)<|Znj _ _ _;exact ⟨g3,λx=>(g4 x).trans<|g2 x⟩
    .exact same
   .rename_i N r t hn;rw[hn] at hna;split
    .exact same
    .obtain ⟨g1,g2⟩:=h.setN (a:=a) (n:=.bold N r<|Za6 (Zs wd a) N) hna (by rw[hn];rfl);obtain ⟨g3,g4⟩:=g1.put (a:=a) (l:=ZaW k a<|Za6 (Zs wd a) N)<|Znj _ _ _;exact ⟨g3,λx=>(g4 x).trans<|g2 x⟩
 .unfold KS.begin';split
  .exact same
  .split
   .exact same
   .exact ⟨h.cut _,λ_=>rfl⟩
 .unfold KS.turn;split
  .split
   .exact same
   .exact ⟨h.cut _,λ_=>rfl⟩
  .exact same
 .unfold KS.report;split
  .split
   .exact same
   .split
    .exact same
    .dsimp only;split
     .exact (h.cut _).settle _
     .exact ⟨h.cut _,λ_=>rfl⟩
  .exact same
def KS.value (k:KS):Int:=match k.cut with
 | none=>0
 | some c=>c.value
variable {e w:World} {L Q:List HP} {K:KV} {S S2:HP}
variable {n f k:Nat} {N:ND}
theorem ZrC {j:Int} {i:Zn} (ht:ZmY i.m.key.T) (hS:Sat e w<|Zbu n wd f N k::Q) (hk:∀w',Sat e w' (Zbu n wd f (Zd0 N j i) k::Q)->K (Iw<|hearE N j i) w') :
  Cl prog 270 #[pt n,Iw j,.agg i.cs.toArray] w K:=by
 refine Zhw ?_;unfold Zil;refine Yp (cs:=i.cs) hS rfl λb w1 h1=>Za<|Za<|Za<|Zb h1 0 rfl (v:=Iw i.m.key.T) rfl<|Za<|Zb h1 0 rfl (v:=Iw i.Kind) rfl ?_;obtain ⟨X,g,q,lv,hX,h2⟩:=ZhZ h1.swap;refine ZoR (λc1=>Zi ?_)<|λc1=>Zf ?_
 .refine Zh<|Za<|Zb h2 0 rfl (v:=pt g) rfl<|ZpD ht h2.swap λw3 h3=>?_;have e1:hearE N j i=N.clk.hearE j i.m.key.T:=if_pos c1;have e2:Zd0 N j i=⟨N.clk.hear j i.m.key.T,N.q,N.st,N.sent,N.log⟩:=if_pos c1;rw[e1,e2] at hk;exact hk _<|Zer (X:=X) (g:=g) (q:=q) (lv:=lv) ⟨hX.1,hX.2.1,hX.2.2.may,hX.2.2.hf,by show (N.clk.hear j i.m.key.T).L.length=_;rw[Clk.hear_len];exact hX.2.2.len,by show (N.clk.hear j i.m.key.T).self=_;rw[Clk.hear_self];exact hX.2.2.self,hX.2.2.sent,hX.2.2.log⟩<|h3.sn 6 [1,0,2,3,4]
 have e1:hearE N j i=if i.Kind=0 then (if N.clk.at' j<0 then 1 else if i.m.key.T<N.clk.at' j then 110 else ZdT 64 N.q i.m) else 130:=if_neg c1
 have e2:Zd0 N j i=if i.Kind=0/\¬N.clk.at' j<0/\¬i.m.key.T<N.clk.at' j then ⟨N.clk,ZfX N.q i.m,N.st,N.sent,N.log⟩ else N:=if_neg c1
 have hsame:∀w',Sat e w' (blk n 155 (ncs X f N g q lv)::Zbv g N.clk::IsQ q N.q::Zag X::Zz 129 7 Zak.cs lv N.log::blk b 88 i.cs::Q)->Sat e w' (Zbu n wd f N k::Q):=λw' h'=>(Zer hX h').swap.drop;refine ZoR (λc2=>Zi ?_)<|λc2=>Zf ?_
 .refine Zh<|Za<|Zb h2 0 rfl (v:=pt g) rfl<|ZsP h2.swap<|Za7 (λc3=>Zi ?_)<|λc3=>Zf ?_
  .rw[e1,e2,if_pos c2,if_pos c3,if_neg<|λh=>h.2.1 c3] at hk;exact hk _<|hsame _ h2
  refine Za7 (λc4=>Zi ?_)<|λc4=>Zf ?_
  .rw[e1,e2,if_pos c2,if_neg c3,if_pos c4,if_neg<|λh=>h.2.2 c4] at hk;exact hk _<|hsame _ h2
  rw[e1,e2,if_pos c2,if_neg c3,if_neg c4,if_pos ⟨c2,c3,c4⟩] at hk;refine ZaY h2 λw3 h3=>Zh<|Za<|Za<|Zb h3 0 rfl (v:=pt q) rfl<|Za<|Zo h3 5 (vs:=i.m.cs) rfl (by rfl) rfl ?_;refine ZnW (x:=i.m) (h3.pick 2 rfl) λw4 h4=>?_;have h5:=Zer (N:=⟨N.clk,ZfX N.q i.m,N.st,N.sent,N.log⟩) (X:=X) (g:=g) (q:=q) (lv:=lv) ⟨hX.1,hX.2.1,hX.2.2.may,hX.2.2.hf,hX.2.2.len,hX.2.2.self,hX.2.2.sent,hX.2.2.log⟩<|h4.sn 5 [1,2,0,3,4];exact hk _ h5.swap.drop
 .rw[e1,e2,if_neg c2,if_neg<|λh=>c2 h.1] at hk;exact hk _<|hsame _ h2
theorem Zss {q:Nat} {l:List Msg} (hS:Sat e w<|IsQ q l::Q) (hk:∀w',Sat e w' (IsQ q l::Q)->K (.tuple #[.agg (hdM l).cs.toArray,.bool<|ZjD l]) w'):Cl prog 279 #[.agg #[pt q]] w K:=by
 refine Zf1 ?_;unfold ZfW;refine Yp (cs:=[pt q]) hS rfl λb w1 h1=>?_;rw[ZOc];refine Yp (cs:=Msg.zero.cs) h1 rfl λb2 w2 h2=>Za<|Zb h2 1 rfl (v:=pt q) rfl<|Zlv (h2.pick 2 rfl) λw3 h3=>Zam<|Zal<|Zq h3 1 rfl (vs:=(hdM l).cs) rfl rfl (by decide) (Zg _) (cs':=(hdM l).cs) (by rfl) λw4 h4=>?_;refine Zo h4 1 (vs:=(hdM l).cs) rfl (by rfl) rfl ?_;exact hk _<|h4.sn 3 [0]
theorem ZtX {q:Nat} {l:List Msg} (hS:Sat e w<|IsQ q l::Q) (hk:∀v w',Sat e w' (Zz 85 6 Msg.cs v l::IsQ q l::Q)->K v w'):Cl prog 243 #[.agg #[pt q]] w K:=by
 refine Zej ?_;unfold Zd6;exact Yp (cs:=[pt q]) hS rfl λb w1 h1=>Za<|Zb h1 0 rfl (v:=pt q) rfl<|ZoA (h1.swap) λv w3 h3=>hk _ _<|h3.sn 3 [0,1]
theorem Zuz (hS:Sat e w<|Zbu n wd f N k::Q):∃q:Nat,(∀K:KV,K (.agg #[pt q]) w->ldN 1 (.pointer<|some ⟨n,1,none⟩) w K)/\
  ∀K:KV,(∀v w',Sat e w' (Zz 85 6 Msg.cs v N.q::Zbu n wd f N k::Q)->K v w')->Cl prog 243 #[.agg #[pt q]] w K:=by
 obtain ⟨X,g,q,lv,hX,h2⟩:=ZhZ hS;refine ⟨q,λK hK=>Zo h2 0 (vs:=[pt q]) rfl (by rfl) rfl hK,λK hK=>?_⟩;refine ZtX (h2.pick 2 rfl) λv w3 h3=>?_;have h4:=Zer hX<|h3.sn 6 [2,3,1,4,5,0];exact hK _ _ h4.swap
theorem ZrA (hS:Sat e w<|Zbu n wd f N k::Q) (hk:∀w',Sat e w' (Zbu n wd f N k::Q)->K (.bool<|Zh8 wd N) w'):Cl prog 276 #[pt n] w K:=by
 refine ZhL ?_;unfold Zjp;obtain ⟨X,g,q,lv,hX,h2⟩:=ZhZ hS;have hEnd:X.End=wd.End:=congrArg Wd.End hX.1;refine Zh<|Za<|Zo h2 0 (vs:=[pt q]) rfl (by rfl) rfl ?_;refine Zss (h2.pick 2 rfl) λw3 h3=>Zam<|Zal ?_;rw[ZOc];refine Yp (cs:=Msg.zero.cs) h3 rfl λb2 w4 h4=>Zq h4 0 rfl (vs:=(hdM N.q).cs) rfl rfl (by decide) (Zg _) (cs':=(hdM N.q).cs) (by rfl) λw5 h5=>?_
 replace h5:Sat e w5 (blk b2 85 (hdM N.q).cs::IsQ q N.q::blk n 155 (ncs X f N g q lv)::Zbv g N.clk::Zag X::Zz 129 7 Zak.cs lv N.log::Q):=h5
 refine ZaY h5 λw6 h6=>?_;have hback:∀w',Sat e w' (Zbv g N.clk::blk b2 85 (hdM N.q).cs::IsQ q N.q::blk n 155 (ncs X f N g q lv)::Zag X::Zz 129 7 Zak.cs lv N.log::Q)->Sat e w' (Zbu n wd f N k::Q):=λw' h'=>
  Zer hX (h'.sn 6 [3,0,2,4,5])
 cases hq:ZjD N.q with
 | false=>
  have hs:Zh8 wd N=false:=by unfold Zh8;rw[hq];rfl
  rw[hs] at hk;exact Zu (Zu<|Zu<|Zu<|Zu<|Zu<|Zu<|Zu<|Zu<|Zu<|Zu<|Zu<|Zu<|⟨Zu ⟨rfl,rfl⟩,Zu ⟨rfl,rfl⟩,Zu ⟨Zu ⟨rfl,rfl⟩,Zu<|Yd<|hk _<|hback _<|h6.pick 3 rfl⟩⟩)
 | true=>
  have hs:Zh8 wd N=decide ((hdM N.q).key.T<min wd.End N.clk.bound):=by unfold Zh8;rw[hq];rfl
  rw[hs] at hk;refine Ze<|Za<|Ze<|Za<|Ze<|Zb h6 0 rfl (v:=Iw (hdM N.q).key.T) rfl<|Ze<|Ze<|Zwz<|Ze<|Za<|Ze<|Za<|Ze<|Zb h6 2 rfl (v:=Iw X.End) rfl<|Ze<|Ze<|Zwz<|Ze<|Za<|Ze<|Zb h6 2 rfl (v:=pt g) rfl<|Ze<|Zjs (h6.pick 3 rfl) λw7 h7=>⟨Ze<|Zb h7 3 rfl (v:=Iw X.End) rfl ⟨rfl,rfl⟩,Ze<|Zb h7 1 rfl (v:=Iw (hdM N.q).key.T) rfl ⟨rfl,rfl⟩,Ze<|Zty<|⟨Ze<|Zb h7 1 rfl (v:=Iw (hdM N.q).key.T) rfl ⟨rfl,rfl⟩,Ze<|ZwL<|Yv ?_⟩⟩;rw[hEnd];exact hk _<|hback _ h7
theorem Zrz {fd:Fed} (hk0:k<=1000) (hfd:wd.Feds[f]?=some fd) (hS:Sat e w<|Zbu n wd f N k::Q)
  (hno:Zh8 wd N=false->∀w',Sat e w' (Zbu n wd f N k::Q)->K (.tuple #[.agg Zak.zero.cs.toArray,Sn,Iw 150]) w')
  (hyes:Zh8 wd N=true->∀v w',Sat e w' (Zz 85 6 Msg.cs v (Zo7 wd f fd N)::Zbu n wd f (Zmn fd N) (k+1)::Q)->K (.tuple #[.agg (ZmU fd N).cs.toArray,v,Iw 0]) w') :
  Cl prog 271 #[pt n] w K:=by
 refine ZhJ ?_;unfold ZiC;rw[ZYc,ZOc];refine Yp (cs:=Zak.zero.cs) hS rfl λt2 w1 h1=>ZrA h1.swap λw2 h2=>?_;cases hs:Zh8 wd N with
 | false=>
  refine Zch<|Zi<|Zaf Zak.zero.cs (by kernel_rfl) ?_;refine Zq h2 1 rfl (vs:=Zak.zero.cs) rfl rfl (by decide) (Zg _) (cs':=Zak.zero.cs) (by kernel_rfl) λw3 h3=>?_;refine Zo h3 1 (vs:=Zak.zero.cs) rfl (by rfl) rfl ?_;exact hno hs _ h3.swap.drop
 | true=>
  refine ZaJ<|Zf ?_;obtain ⟨X,g,q,lv,hX,h3⟩:=ZhZ h2;have hN:=hX.2.2;have hXf:X.Feds.map Zao.f=wd.Feds:=congrArg Wd.Feds hX.1;have hXp:X.Parents=wd.Parents:=congrArg Wd.Parents hX.1;have hXl:X.Feds.length=wd.Feds.length:=by rw[<-hXf,List.length_map]
  have hf:=hN.hf;obtain ⟨fx,hfx⟩:=Zk (l:=X.Feds) (j:=f) (by omega);have hfxm:=List.mem_of_getElem? hfx;obtain rfl:fd=fx.f:=by
   rw[<-hXf,List.getElem?_map,hfx] at hfd;exact (Option.some.inj hfd).symm
  have hsf:=hX.2.1.fed fx hfxm;refine Zh<|Za<|Za<|Zb h3 0 rfl (v:=pt q) rfl<|Zvc (h3.pick 2 rfl) λw4 h4=>Zam<|Zal<|Yp (cs:=Msg.zero.cs) h4 rfl λt5 w5 h5=>?_;obtain ⟨m,hm⟩:∃m,m=hdM N.q:=⟨_,rfl⟩;rw[<-hm];refine Zq h5 0 rfl (vs:=m.cs) rfl rfl (by decide) (Zg _) (cs':=m.cs) (by rfl) λw6 h6=>?_
  replace h6:Sat e w6 (blk t5 85 m.cs::IsQ q N.q.tail::blk n 155 (ncs X f N g q lv)::Zbv g N.clk::Zag X::Zz 129 7 Zak.cs lv N.log::blk t2 129 Zak.zero.cs::Q):=h6
  refine ZaY h6 λw7 h7=>Zh<|Za<|Za<|Zb h7 2 rfl (v:=X.fv) rfl<|Zh<|Za<|Zb h7 2 rfl (v:=Iw f) rfl<|Zw h7 4 rfl (λg hg=>(Zct hg).feds) (λ_=>rfl) hfx λp hp=>Zbd hp λp1 hp1=>Yt h7 4 rfl hp1 (v:=fx.rv) rfl<|Zh<|Za<|Zb h7 2 rfl (v:=Iw N.st) rfl<|Za<|Zb h7 0 rfl (v:=Iw m.Class) rfl<|Zkr (l:=fx.Rules) (s:=N.st) (c:=m.Class) (h7.pick 4 rfl) (λg hg=>((Zct hg).fed fx hfxm).rules) hsf.rules hsf.sends λov w8 h8=>?_;obtain ⟨so,hso⟩:∃so,so=ZuU fx.f N:=⟨_,rfl⟩;have hso2:ZbY (fx.Rules.map Yg.r) N.st m.Class=so:=by rw[hso,hm];rfl
  rw[hso2] at h8 ⊢;have houts:=ZlA hN.may (List.mem_of_getElem? hfd) N.st m.Class;rw[show ZbY fx.f.Rules N.st m.Class=so from hso2] at houts;refine Zam (Zal ?_)
  replace h8:Sat e w8 (Zz 133 3 Out.cs ov so.2::Zag X::blk t5 85 m.cs::IsQ q N.q.tail::blk n 155 (ncs X f N g q lv)::Zbv g N.clk::Zz 129 7 Zak.cs lv N.log::blk t2 129 Zak.zero.cs::Q):=h8
  refine ZaY h8 λw9 h9=>Zh<|Za<|Zo h9 4 (vs:=X.cs) rfl (by rfl) rfl ?_;refine Zh<|Za<|Zb h9 4 rfl (v:=Iw f) rfl<|Zh<|Za<|Zb h9 4 rfl (v:=Iw N.sent) rfl<|Za<|Za<|Zb h9 2 rfl (v:=Iw m.key.T) rfl<|Za<|Zb h9 2 rfl (v:=Iw m.Body) rfl ?_;have hsu:=hN.sent;refine Zog (x:=X) (outs:=so.2) 1 0 rfl rfl h9 (λg hg=>Zct hg) (λ_=>Zp) hX.2.1 (by rw[hXp];exact hN.may.tree) (λo ho=>by rw[hXp];exact (houts.2 o ho).1) (by omega) ⟨hsu.1,by omega⟩ λmv w10 h10=>?_;have hsp:Zau X.w.Parents X.w.Feds f N.sent m.key.T m.Body so.2=Zo7 wd f fx.f N:=by rw[hX.1,hso,hm];rfl
  rw[hsp] at h10;generalize hout:Zo7 wd f fx.f N=ms at h10 hyes;refine Zh<|Za<|Zb h10 5 rfl (v:=Iw N.sent) rfl<|Qln h10 1 rfl<|Qadds<|Zh<|Za<|Zq h10 5 rfl (vs:=Yi [so.1]) rfl rfl (Nat.le_of_ble_eq_true rfl) (Zg _) (cs':=ncs X f ⟨N.clk,N.q,so.1,N.sent,N.log⟩ g q lv) (by rfl) λw11 h11=>?_;refine Zh<|Za<|Zq h11 5 rfl (vs:=Yi [N.sent+so.2.length]) rfl rfl (Nat.le_of_ble_eq_true rfl) (Zg _) (cs':=ncs X f ⟨N.clk,N.q,so.1,N.sent+so.2.length,N.log⟩ g q lv) (by rfl) λw12 h12=>?_;refine Zo h12 3 (vs:=m.cs) rfl (by rfl) rfl ?_;refine Zaf (⟨m,so.1⟩:Zak).cs (by kernel_rfl) ?_;refine Yp (cs:=Zak.zero.cs) h12 rfl λt10 w13 h13=>Zq h13 0 rfl (vs:=(⟨m,so.1⟩:Zak).cs) rfl rfl (Nat.le_of_ble_eq_true rfl) (Zg _) (cs':=(⟨m,so.1⟩:Zak).cs) (by rfl) λw14 h14=>?_
  replace h14:Sat e w14 (blk t10 129 (⟨m,so.1⟩:Zak).cs::Zz 85 6 Msg.cs mv ms::Zz 133 3 Out.cs ov so.2::Zag X::blk t5 85 m.cs::IsQ q N.q.tail::blk n 155 (ncs X f ⟨N.clk,N.q,so.1,N.sent+so.2.length,N.log⟩ g q lv)::Zbv g N.clk::Zz 129 7 Zak.cs lv N.log::blk t2 129 Zak.zero.cs::Q):=h14
  refine ZaY h14 λw15 h15=>Zh<|Za<|Zb h15 6 rfl (v:=lv) rfl<|Zo h15 0 (vs:=(⟨m,so.1⟩:Zak).cs) rfl (by rfl) rfl ?_;refine ZwC (vs:=(⟨m,so.1⟩:Zak).cs) rfl rfl h15 λbb w16 h16=>⟨Zb h16 7 rfl (v:=lv) rfl ⟨rfl,rfl⟩,?_⟩;have hlog:=hN.log;refine Zeo ZVt ZVt.und (f:=Zak.cs) (l:=N.log) (m:=[⟨m,so.1⟩]) (λ_=>rfl) (λ_=>Zg _) (h16.sn 11 [9,0,1,2,3,4,5,6,7,8,10]) (Zfu (f:=Zak.cs) (x:=⟨m,so.1⟩)<|Nat.le_refl _) (by simp;omega) λlv' w17 h17=>?_;have q2:=h17.own_cells 0 rfl;refine Zh<|Za<|Zq h17 8 rfl (vs:=[lv']) q2.1 rfl (Nat.le_of_ble_eq_true rfl) (λc hc=>by rw[List.mem_singleton.1 hc];exact q2.2) (cs':=ncs X f ⟨N.clk,N.q,so.1,N.sent+so.2.length,N.log⟩ g q lv') (by rfl) λw18 h18=>?_;refine Zo h18 2 (vs:=(⟨m,so.1⟩:Zak).cs) rfl (by rfl) rfl ?_;refine Zq h18 10 rfl (vs:=(⟨m,so.1⟩:Zak).cs) rfl rfl (Nat.le_of_ble_eq_true rfl) (Zg _) (cs':=(⟨m,so.1⟩:Zak).cs) (by rfl) λw19 h19=>?_;refine Zo h19 10 (vs:=(⟨m,so.1⟩:Zak).cs) rfl (by rfl) rfl ?_;have hd:ZmU fx.f N=⟨m,so.1⟩:=by unfold ZmU;rw[<-hso,<-hm]
  have hst:Zmn fx.f N=⟨N.clk,N.q.tail,so.1,N.sent+so.2.length,N.log++[⟨m,so.1⟩]⟩:=by unfold Zmn;rw[hd,<-hso]
  rw[hd,hst] at hyes;have h20:=Zer (n:=n) (f:=f) (k:=k+1) (wd:=wd) (N:=⟨N.clk,N.q.tail,so.1,N.sent+so.2.length,N.log++[⟨m,so.1⟩]⟩) (X:=X) (g:=g) (q:=q) (lv:=lv') ⟨hX.1,hX.2.1,hN.may,hN.hf,hN.len,hN.self,⟨by show 0<=N.sent+_;omega,by show N.sent+(so.2.length:Int)<=_;omega⟩,by show (N.log++[_]).length<=_;rw[List.length_append,List.length_singleton];omega⟩
   (h19.sn 10 [8,9,7,5,0,3])
  exact hyes hs mv _<|h20.sn 3 [1,0]
theorem Ztw (hk0:k<=1000) (hS:Sat e w<|Zbu n wd f N k::Q) (hk:∀v w',Sat e w' (Zz 129 7 Zak.cs v N.log::Zbu n wd f N k::Q)->K v w'):Cl prog 241 #[pt n] w K:=by
 refine Zji ?_;unfold ZkO;obtain ⟨X,g,q,lv,hX,h2⟩:=ZhZ hS;have hlog:=hX.2.2.log;refine Zh<|Za<|Zb h2 0 rfl (v:=lv) rfl<|ZiJ (l:=N.log) (by omega) (λ_ _=>Zg _) (h2.pick 4 rfl) (λ_=>Zp) λv w3 h3=>?_;have h4:=Zer hX<|h3.sn 6 [2,3,4,5,1,0];exact hk _ _ h4.swap
theorem Clk.tell_len (c:Clk) (a b:Int):(c.tell a b).L=c.L/\(c.tell a b).self=c.self:=by
 unfold Clk.tell;split <;> exact ⟨rfl,rfl⟩
theorem ZqE {fd:Fed} (hfd:wd.Feds[f]?=some fd) (hS:Sat e w<|Zbu n wd f N k::Q)
  (hk:∀w',Sat e w' (Zbu n wd f (ZiG fd N) k::Q)->K (.tuple #[Iw (ZiG fd N).clk.told,.bool<|N.clk.tellB (Zcd N) fd.Look]) w') :
  Cl prog 272 #[pt n] w K:=by
 refine Zhs ?_;unfold ZiS;obtain ⟨X,g,q,lv,hX,h2⟩:=ZhZ hS;have hN:=hX.2.2;have hXf:X.Feds.map Zao.f=wd.Feds:=congrArg Wd.Feds hX.1;have hXl:X.Feds.length=wd.Feds.length:=by rw[<-hXf,List.length_map]
 have hf:=hN.hf;obtain ⟨fx,hfx⟩:=Zk (l:=X.Feds) (j:=f) (by omega);have hfxm:=List.mem_of_getElem? hfx;obtain rfl:fd=fx.f:=by
  rw[<-hXf,List.getElem?_map,hfx] at hfd;exact (Option.some.inj hfd).symm
 refine Zh<|Za<|Zo h2 0 (vs:=[pt q]) rfl (by rfl) rfl ?_;refine Zss (h2.pick 2 rfl) λw3 h3=>Zam<|Zal ?_;rw[ZOc];refine Yp (cs:=Msg.zero.cs) h3 rfl λb2 w4 h4=>Zq h4 0 rfl (vs:=(hdM N.q).cs) rfl rfl (by decide) (Zg _) (cs':=(hdM N.q).cs) (by rfl) λw5 h5=>?_;refine J1.cut (λt4 w=>t4=Iw (Zcd N)/\Sat e w (blk b2 85 (hdM N.q).cs::IsQ q N.q::blk n 155 (ncs X f N g q lv)::Zbv g N.clk::Zag X::Zz 129 7 Zak.cs lv N.log::Q)) (λk1 hcut=>?_) ?_
 .cases hq:ZjD N.q with
  | false=>
   refine Zf<|hcut _ _ ⟨?_,h5⟩;unfold Zcd;rw[if_neg (by rw[hq];simp)];rfl
  | true=>
   refine Zi<|Za<|Za<|Zb h5 0 rfl (v:=Iw (hdM N.q).key.T) rfl<|hcut _ _ ⟨?_,h5⟩;unfold Zcd;rw[if_pos hq]
 .rintro _ w6 ⟨rfl,h6⟩;refine ZaY h6 λw7 h7=>Zh<|Za<|Zb h7 2 rfl (v:=pt g) rfl<|Zh<|Za<|Za<|Zb h7 2 rfl (v:=X.fv) rfl<|Zh<|Za<|Zb h7 2 rfl (v:=Iw f) rfl<|Zw h7 4 rfl (λg hg=>(Zct hg).feds) (λ_=>rfl) hfx λp hp=>Zbd hp λp1 hp1=>Yt h7 4 rfl hp1 (v:=Iw fx.Look) rfl<|Zp8 (h7.pick 3 rfl) λw8 h8=>Zam<|Zal ?_;have ht:=Clk.tell_len N.clk (Zcd N) fx.f.Look;exact hk _<|Zer (N:=ZiG fx.f N) (X:=X) (g:=g) (q:=q) (lv:=lv) ⟨hX.1,hX.2.1,hN.may,hN.hf,by show (N.clk.tell (Zcd N) fx.f.Look).L.length=_;rw[ht.1];exact hN.len,by show (N.clk.tell (Zcd N) fx.f.Look).self=_;rw[ht.2];exact hN.self,hN.sent,hN.log⟩<|h8.sn 6 [3,0,2,4,5]
structure OpX where
 Kind:Int
 From:Int
 I:Zn
def OpX.ns (o:OpX):List Int:=[o.Kind,o.From,o.I.Kind,o.I.m.key.T,o.I.m.key.From,o.I.m.key.Seq,o.I.m.To,o.I.m.Class,o.I.m.Body,o.I.Colour]
abbrev OpX.cs (o:OpX):List Value:=Yi o.ns
def OpX.of (l:List Int):OpX:=⟨l.getD 0 0,l.getD 1 0,⟨l.getD 2 0,⟨⟨l.getD 3 0,l.getD 4 0,l.getD 5 0⟩,l.getD 6 0,l.getD 7 0,l.getD 8 0⟩,l.getD 9 0⟩⟩
theorem OpX.of_ns {l:List Int} (h:l.length=10):(OpX.of l).ns=l:=by
 match l,h with
 | [_,_,_,_,_,_,_,_,_,_],_=>rfl
theorem OpX.of_cs {l:List Int} (h:l.length=10):(OpX.of l).cs=Yi l:=congrArg Yi<|OpX.of_ns h
theorem OpX.t64 {l:List OpX} (h:∀x∈l,∀m∈x.ns,(Lit.int .i64 m).wf=true) {o:OpX} (ho:o∈l):ZmY o.I.m.key.T:=ZmY.of_wf<|h o ho _ (by simp[OpX.ns])
theorem Clk.bound_le_get {c:Clk} {j:Int} (h:c.okJ j):c.bound<=c.get j:=c.bound_is.2.1 j h
theorem Clk.bound_hear (c:Clk) (j t:Int):c.bound<=(c.hear j t).bound:=by
 rcases Clk.hear_cases c j t with ⟨_,h⟩ | ⟨h1,_,h3,_,h⟩
 .rw[h];exact Int.le_refl _
 .have hb:=(c.hear j t).bound_is;have hlen:∀i,(c.hear j t).okJ i↔c.okJ i:=λi=>by unfold Clk.okJ;rw[Clk.hear_len,Clk.hear_self]
  rcases hb.2.2 with hi | ⟨i,hi1,hi2⟩
  .rw[hi];exact c.bound_is.1
  .rw[hi2];have hic:=(hlen i).1 hi1;have hgi:=Clk.bound_le_get hic;have hgj:=Clk.bound_le_get h1;unfold Clk.okJ at hic h1;have:(c.hear j t).get i=if i=j then t else c.get i:=by
    rw[h];unfold Clk.get;by_cases hij:i=j
    .subst hij;rw[if_pos rfl,List.getD_eq_getElem?_getD,List.getElem?_set_self (by omega)];rfl
    .rw[if_neg hij,List.getD_eq_getElem?_getD,List.getD_eq_getElem?_getD,List.getElem?_set_ne (by omega)]
   rw[this];split <;> omega
theorem Zv6 {c:Clk} {j:Int} (h:¬c.at' j<0):c.bound<=c.at' j:=by
 unfold Clk.at' at h ⊢;split
 .rename_i h1;exact Clk.bound_le_get h1
 .rename_i h1;rw[if_neg h1] at h;omega
theorem Zmf (N:ND) (j:Int) (i:Zn):((Zd0 N j i).log=N.log/\(Zd0 N j i).st=N.st/\(Zd0 N j i).sent=N.sent/\N.clk.bound<=(Zd0 N j i).clk.bound/\(Zd0 N j i).clk.told=N.clk.told)/\
  ∀m∈(Zd0 N j i).q,m∈N.q\/(m=i.m/\N.clk.bound<=i.m.key.T):=by
 unfold Zd0;split
 .refine ⟨⟨rfl,rfl,rfl,Clk.bound_hear _ _ _,Clk.hear_told _ _ _⟩,λm hm=>.inl hm⟩
 .split
  .rename_i h1 h2;refine ⟨⟨rfl,rfl,rfl,Int.le_refl _,rfl⟩,λm hm=>?_⟩;have hm':m∈ZfX N.q i.m:=hm;unfold ZfX at hm';split at hm'
   .rcases List.mem_cons.1 ((ZcW i.m N.q).mem_iff.1 hm') with h | h
    .exact .inr ⟨h,by have:=Zv6 h2.2.1;omega⟩
    .exact .inl h
   .exact .inl hm'
  .exact ⟨⟨rfl,rfl,rfl,Int.le_refl _,rfl⟩,λm hm=>.inl hm⟩
structure Zzg (N:ND):Prop where
 up:N.log.Pairwise λa b=>Zv a.m.key b.m.key
 ahead:∀d∈N.log,(∀m∈N.q,Zv d.m.key m.key)/\d.m.key.T<N.clk.bound
theorem Zpb {N:ND} (h:Zzg N) (j:Int) (i:Zn):Zzg (Zd0 N j i):=by
 obtain ⟨⟨h1,h2,h3,h4,h5⟩,h6⟩:=Zmf N j i;refine ⟨by rw[h1];exact h.up,λd hd=>?_⟩;rw[h1] at hd;obtain ⟨k1,k2⟩:=h.ahead d hd;refine ⟨λm hm=>?_,by omega⟩;rcases h6 m hm with h | ⟨rfl,h⟩
 .exact k1 m h
 .exact .inl (by omega)
theorem Ztp {wd:Wd} {N:ND} (h:Zh8 wd N=true):∃m r,N.q=m::r/\hdM N.q=m/\m.key.T<wd.End/\m.key.T<N.clk.bound:=by
 unfold Zh8 at h;rw[Bool.and_eq_true] at h;obtain ⟨m,r,hq⟩:=ZoL h.1;have h2:=of_decide_eq_true h.2;rw[hq] at h2;have h3:m.key.T<min wd.End N.clk.bound:=h2;exact ⟨m,r,hq,by rw[hq];rfl,by omega,by omega⟩
theorem Zps {wd:Wd} {fd:Fed} {N:ND} (h:Zzg N) (hq:QOk N.q) (hs:Zh8 wd N=true):Zzg (Zmn fd N):=by
 obtain ⟨m,r,h1,h2,h3,h4⟩:=Ztp hs;have hd:(ZmU fd N).m=m:=h2;have hup:=hq.up;rw[h1] at hup;obtain ⟨u1,u2⟩:=List.pairwise_cons.1 hup;refine ⟨?_,λd hd'=>?_⟩
 .show (N.log++[ZmU fd N]).Pairwise _;rw[List.pairwise_append];refine ⟨h.up,List.pairwise_singleton _ _,λa ha b hb=>?_⟩;rw[List.mem_singleton.1 hb,hd];exact (h.ahead a ha).1 m (by rw[h1];simp)
 .have htl:(Zmn fd N).q=r:=by show N.q.tail=r;rw[h1];rfl
  have hb:(Zmn fd N).clk.bound=N.clk.bound:=rfl;rw[htl,hb];have hd2:d∈N.log++[ZmU fd N]:=hd';rcases List.mem_append.1 hd2 with hd2 | hd2
  .obtain ⟨k1,k2⟩:=h.ahead d hd2;exact ⟨λy hy=>k1 y (by rw[h1];simp[hy]),k2⟩
  .rw[List.mem_singleton.1 hd2,hd];exact ⟨λy hy=>u1 y hy,h4⟩
variable {fd:Fed} {N:WN}
theorem Zr9 {m y:Msg} {l:List Msg}:y∈Zkj m l↔y=m\/y∈l:=by rw[(ZcW m l).mem_iff,List.mem_cons]
theorem Zxp (m:Msg) (l:List Msg):(Zkj m l).length=l.length+1:=by rw[(ZcW m l).length_eq,List.length_cons]
theorem Zld {y:Msg} {k:Key} {l:List Msg}:y∈ZbF k l↔y∈l/\Zv y.key k:=by unfold ZbF;rw[List.mem_filter,decide_eq_true_iff]
theorem Zit {y:Msg} {k:Key} {l:List Msg}:y∈Yj k l↔y∈l/\¬Zv y.key k:=by unfold Yj;rw[List.mem_filter,Bool.not_eq_true',decide_eq_false_iff_not]
theorem ZTD {y:Msg} {k:Key} {l:List Msg}:y∈without l k↔y∈l/\y.key≠k:=by unfold without;rw[List.mem_filter,Bool.not_eq_true',decide_eq_false_iff_not]
theorem Ztg {l:List Msg} {k:Key} (h:ZeQ k l=true):(without l k).length<l.length:=by
 obtain ⟨m,h1,h2⟩:=Zgl.1 h;unfold without;rcases Nat.lt_or_eq_of_le (List.length_filter_le (λx:Msg=>!decide (x.key=k)) l) with h3 | h3
 .exact h3
 .rw[List.length_filter_eq_length_iff] at h3;have:=h3 m h1;rw[decide_eq_true h2] at this;cases this
theorem Zr1 (h:Upk<|N.ms++N.q) (m:Msg):ZbF m.key N.ms++Zkj m (Yj m.key N.ms++N.q)=Zkj m (N.ms++N.q):=by
 rw[<-Zo8 (λy hy=>(Zld.1 hy).2),<-List.append_assoc,Zgf h.left]
theorem ZrJ (h:Upk<|N.ms++N.q) (k:Key):ZbF k N.ms++without (Yj k N.ms++N.q) k=without (N.ms++N.q) k:=by
 have e:without (ZbF k N.ms) k=ZbF k N.ms:=Zkv λy hy he=>Zv.irrefl k (by have:=(Zld.1 hy).2;rwa [he] at this)
 conv=>lhs;rw[<-e]
 rw[<-ZlU,<-List.append_assoc,Zgf h.left]
theorem ZBV (h:WOk wd f fd N k) {j:Int} (h0:0<=j) (h1:j<wd.Feds.length):∃(n:Nat) (g:Fed) (t:Int),j=n/\wd.Feds[n]?=some g/\N.clk[n]?=some t/\N.at' j=t/\((g.Kind=0/\0<=t/\t<=Inf)\/(g.Kind≠0/\t=-1)):=by
 obtain ⟨n,rfl⟩:∃n:Nat,j=n:=⟨j.toNat,by omega⟩;obtain ⟨g,hg⟩:=Zk (l:=wd.Feds) (j:=n) (by omega);obtain ⟨t,ht,hc⟩:=h.clk n g hg;refine ⟨n,g,t,rfl,hg,ht,?_,hc⟩;unfold WN.at';rw[if_pos h0,Int.toNat_natCast,List.getD_eq_getElem?_getD,ht];rfl
theorem WOk.line (h:WOk wd f fd N k):Upk (N.ms++N.q):=h.up.right
theorem WOk.hear (h:WOk wd f fd N k) (j:Int) (i:Zn):WOk wd f fd (ZbE wd f fd N j i).N k:=by
 unfold ZbE;split
 .exact h
 .rename_i hj;have hj:=Classical.not_not.1 hj;obtain ⟨n,g,t,rfl,hg,ht,hat,hc⟩:=ZBV h hj.1 hj.2.1;split
  .split
   .exact h
   .rename_i hb;split
    .exact h
    .have hv:Yu i.m.key.T=true:=by
      cases hv:Yu i.m.key.T with
      | true=>rfl
      | false=>exact absurd (.inr hv) hb
     have hb0:¬N.at' n<0:=λh0=>hb (.inl h0);have hvb:=ZlM hv;refine ⟨h.may,h.hfd,h.kind,by show (N.clk.set _ _).length=_;rw[List.length_set];exact h.clen,λj g' hg'=>?_,h.up,h.lo,h.hi,h.fl,h.ql,h.ml,h.cnt,h.en⟩;by_cases hjn:n=j
     .subst hjn;refine ⟨i.m.key.T,?_,.inl ⟨?_,hvb⟩⟩
      .show (N.clk.set _ _)[_]?=_;rw[Int.toNat_natCast];exact List.getElem?_set_self (List.getElem?_eq_some_iff.1 ht).1
      .rw[hg] at hg';cases hg';rcases hc with hc | hc
       .exact hc.1
       .omega
     .obtain ⟨t',h1,h2⟩:=h.clk j g' hg';refine ⟨t',?_,h2⟩;show (N.clk.set _ _)[_]?=_;rw[Int.toNat_natCast,List.getElem?_set_ne hjn];exact h1
  .split
   .split
    .exact h
    .rename_i h1;split
     .exact h
     .rename_i h2;have h2:=ZuS.1<|Bool.not_eq_true _▸h2;split
      .exact h
      .rename_i h3;have hlt:N.fl<=i.m.key.T:=by
        have:¬i.m.key.T<N.fl:=λh0=>h1 (.inl h0);omega
       have hll:(ZbF i.m.key N.ms).length<=N.ms.length:=List.length_filter_le ..;have hhi:∀y∈Zkj i.m (N.ms++N.q),N.fl<=y.key.T\/wd.End<=y.key.T:=λy hy=>by
        rcases Zr9.1 hy with rfl | hy
        .exact .inl hlt
        .exact h.hi y hy
       have hjo:∀x∈N.old,∀y∈Zkj i.m (N.ms++N.q),Zv x.key y.key:=λx hx y hy=>by
        rcases Zr9.1 hy with rfl | hy
        .have:=h.lo x hx;unfold Zv;omega
        .exact h.up.mid hx hy
       refine ⟨h.may,h.hfd,h.kind,h.clen,h.clk,?_,h.lo,?_,h.fl,?_,?_,?_,λy hy=>?_⟩
       .show Upk (N.old++(ZbF i.m.key N.ms++Zkj i.m (Yj i.m.key N.ms++N.q)));rw[Zr1 h.line];exact List.pairwise_append.2 ⟨h.up.left,Zrl h.line h2,hjo⟩
       .show ∀y∈ZbF i.m.key N.ms++Zkj i.m (Yj i.m.key N.ms++N.q),_;rw[Zr1 h.line];exact hhi
       .show (Zkj i.m<|Yj i.m.key N.ms++N.q).length<=64;rw[Zxp,List.length_append];omega
       .exact Nat.le_trans hll h.ml
       .have:=h.cnt;show N.old.length+(ZbF i.m.key N.ms).length<=k;omega
       .rcases List.mem_append.1 hy with hy | hy
        .exact h.en y<|List.mem_append_left _ hy
        .exact h.en y<|List.mem_append_right _ (Zld.1 hy).1
   .split
    .split
     .exact h
     .split
      .exact h
      .split
       .have hsub:(without N.q i.m.key).Sublist N.q:=List.filter_sublist;have hs2:(N.ms++without N.q i.m.key).Sublist (N.ms++N.q):=(List.Sublist.refl _).append hsub;exact ⟨h.may,h.hfd,h.kind,h.clen,h.clk,h.up.sublist<|(List.Sublist.refl _).append hs2,h.lo,λy hy=>h.hi y<|hs2.subset hy,h.fl,Nat.le_trans hsub.length_le h.ql,h.ml,h.cnt,h.en⟩
       .split
        .exact h
        .rename_i h3 h4;have h4:ZeQ i.m.key N.ms=true:=by
          cases h5:ZeQ i.m.key N.ms with
          | true=>rfl
          | false=>exact absurd h5 h4
         split
         .exact h
         .rename_i h5;have hll:(ZbF i.m.key N.ms).length<=N.ms.length:=List.length_filter_le ..;have hs2:(without (N.ms++N.q) i.m.key).Sublist (N.ms++N.q):=List.filter_sublist;refine ⟨h.may,h.hfd,h.kind,h.clen,h.clk,?_,h.lo,?_,h.fl,?_,?_,?_,λy hy=>?_⟩
          .show Upk (N.old++(ZbF i.m.key N.ms++without (Yj i.m.key N.ms++N.q) i.m.key));rw[ZrJ h.line];exact h.up.sublist<|(List.Sublist.refl _).append hs2
          .show ∀y∈ZbF i.m.key N.ms++without (Yj i.m.key N.ms++N.q) i.m.key,_;rw[ZrJ h.line];exact λy hy=>h.hi y<|hs2.subset hy
          .show (without (Yj i.m.key N.ms++N.q) i.m.key).length<=64;obtain ⟨x,hx1,hx2⟩:=Zgl.1 h4;have hin:ZeQ i.m.key (Yj i.m.key N.ms++N.q)=true:=Zgl.2 ⟨x,List.mem_append_left _<|Zit.2 ⟨hx1,λhl=>Zv.irrefl _<|by rwa [hx2] at hl⟩,hx2⟩;have:=Ztg hin;rw[List.length_append] at this;omega
          .exact Nat.le_trans hll h.ml
          .have:=h.cnt;show N.old.length+(ZbF i.m.key N.ms).length<=k;omega
          .rcases List.mem_append.1 hy with hy | hy
           .exact h.en y<|List.mem_append_left _ hy
           .exact h.en y<|List.mem_append_right _ (Zld.1 hy).1
    .exact h
theorem Zr5 (h:Zcl wd f fd N=0):(∃m r,N.q=m::r/\m.key.T<wd.End)/\N.ms.length<64/\(Yq wd<|N.past wd f fd).length<=192:=by
 unfold Zcl at h;split at h
 .cases h
 .rename_i h1;have h1:=Classical.not_not.1 h1;split at h
  .cases h
  .rename_i h2;obtain ⟨m,r,e⟩:=ZoL h1.1;rw[e] at h1;exact ⟨⟨m,r,e,h1.2⟩,by omega,by omega⟩
theorem ZiD {m:Msg} {r:List Msg} (e:N.q=m::r):Zcv N=⟨N.old,N.ms++[m],r,N.fl,N.clk⟩:=by
 unfold Zcv;rw[e];rfl
theorem WOk.step (h:WOk wd f fd N k) (he:Zcl wd f fd N=0):WOk wd f fd (Zcv N) (k+1):=by
 obtain ⟨⟨m,r,e,ht⟩,h2,h3⟩:=Zr5 he;rw[ZiD e];have hup:=h.up;have hhi:=h.hi;have hql:=h.ql;have hcnt:=h.cnt;rw[e] at hup hhi hql;rw[List.length_cons] at hql;have e2:(N.ms++[m])++r=N.ms++m::r:=by simp
 refine ⟨h.may,h.hfd,h.kind,h.clen,h.clk,?_,h.lo,?_,h.fl,?_,?_,?_,λy hy=>?_⟩
 .show Upk (N.old++((N.ms++[m])++r));rw[e2];exact hup
 .show ∀y∈(N.ms++[m])++r,_;rw[e2];exact hhi
 .show r.length<=64;omega
 .show (N.ms++[m]).length<=64;rw[List.length_append,List.length_singleton];omega
 .show N.old.length+(N.ms++[m]).length<=k+1;rw[List.length_append,List.length_singleton];omega
 .rcases List.mem_append.1 hy with hy | hy
  .exact h.en y<|List.mem_append_left _ hy
  .rcases List.mem_append.1 hy with hy | hy
   .exact h.en y<|List.mem_append_right _ hy
   .rw[List.mem_singleton.1 hy];exact ht
theorem ZoZ {l:List Int} {x:Int} (h:x∈l):ZaP l<=ZaD x:=by
 unfold ZaP;have key:∀(l:List Int) (n:Int),l.foldl (λn t=>min n<|ZaD t) n<=n/\∀x∈l,l.foldl (λn t=>min n<|ZaD t) n<=ZaD x:=by
  intro l;induction l with
  | nil=>exact λn=>⟨Int.le_refl _,λx hx=>by cases hx⟩
  | cons a l ih=>
   intro n;obtain ⟨h1,h2⟩:=ih<|min n<|ZaD a;refine ⟨by rw[List.foldl_cons];omega,λx hx=>?_⟩;rw[List.foldl_cons];rcases List.mem_cons.1 hx with rfl | hx
   .omega
   .exact h2 x hx
 exact (key l Inf).2 x h
theorem ZsY (l:List Int):ZaP l<=Inf:=by
 unfold ZaP;have key:∀(l:List Int) (n:Int),l.foldl (λn t=>min n<|ZaD t) n<=n:=by
  intro l;induction l with
  | nil=>exact λn=>Int.le_refl _
  | cons a l ih=>
   intro n;have:=ih<|min n<|ZaD a;rw[List.foldl_cons];omega
 exact key l Inf
theorem ZqD {m:Msg} {r:List Msg} (e:N.q=m::r):ZcM N<=ZaD m.key.T:=by
 unfold ZcM;rw[e];exact ZoZ (x:=m.key.T) (by simp[ZjD,hdM])
theorem Zqu {y:Msg} {t:Int} {l:List Msg}:y∈Zc6 t l↔y∈l/\y.key.T<t:=by unfold Zc6;rw[List.mem_filter,decide_eq_true_iff]
theorem Zsi {y:Msg} {t:Int} {l:List Msg}:y∈ZmO t l↔y∈l/\t<=y.key.T:=by unfold ZmO;rw[List.mem_filter,Bool.not_eq_true',decide_eq_false_iff_not,Int.not_lt]
theorem Zkb {t:Int} (h:ZaB N t=0):N.fl<=t/\t<=ZcM N:=by
 unfold ZaB at h;split at h
 .cases h
 .split at h
  .cases h
  .omega
theorem WOk.first_hi (h:WOk wd f fd N k) {t:Int} (he:ZaB N t=0):∀y∈N.q,t<=y.key.T\/wd.End<=y.key.T:=by
 obtain ⟨h1,h2⟩:=Zkb he;have hen:=h.may.en;cases e:N.q with
 | nil=>intro y hy;cases hy
 | cons m r=>
  have h3:=ZqD e;have h4:0<=m.key.T:=by
   have:=h.hi m (by rw[e];simp);have:=h.fl;omega
  have h6:t<=m.key.T\/wd.End<=m.key.T:=by
   by_cases hm:m.key.T<=Zsq
   .rw[ZtS h4 hm] at h3;omega
   .unfold Zsq at hm;omega
  intro y hy;rcases List.mem_cons.1 hy with rfl | hy
  .exact h6
  .have hu:=h.upq;rw[e] at hu;have:=(List.pairwise_cons.1 hu).1 y hy;unfold Zv at this;omega
theorem WOk.commit (h:WOk wd f fd N k) {t:Int} (he:ZaB N t=0):WOk wd f fd (Ys N t) k:=by
 obtain ⟨h1,h2⟩:=Zkb he;have hq:=h.first_hi he;have hel:=ZnE h.ups t;have hll:(ZmO t N.ms).length<=N.ms.length:=List.length_filter_le ..;have hln:(Zc6 t N.ms).length+(ZmO t N.ms).length=N.ms.length:=by rw[<-List.length_append,hel]
 have hfl:=h.fl;refine ⟨h.may,h.hfd,h.kind,h.clen,h.clk,?_,λy hy=>?_,λy hy=>?_,?_,h.ql,Nat.le_trans hll h.ml,?_,λy hy=>?_⟩
 .show Upk ((N.old++Zc6 t N.ms)++(ZmO t N.ms++N.q));rw[List.append_assoc,<-List.append_assoc (Zc6 t N.ms),hel];exact h.up
 .show y.key.T<t;rcases List.mem_append.1 hy with hy | hy
  .have:=h.lo y hy;omega
  .exact (Zqu.1 hy).2
 .show t<=_\/_;rcases List.mem_append.1 hy with hy | hy
  .exact .inl (Zsi.1 hy).2
  .exact hq y hy
 .show 0<=t;omega
 .have:=h.cnt;show (N.old++Zc6 t N.ms).length+(ZmO t N.ms).length<=k;rw[List.length_append];omega
 .refine h.en y ?_;rcases List.mem_append.1 hy with hy | hy
  .rcases List.mem_append.1 hy with hy | hy
   .exact List.mem_append_left _ hy
   .exact List.mem_append_right _ (Zqu.1 hy).1
  .exact List.mem_append_right _ (Zsi.1 hy).1
theorem WOk.init (h:ZoS wd) (hfd:wd.Feds[f]?=some fd) (hk:fd.Kind=1):WOk wd f fd (ZiQ wd) 0:=by
 refine ⟨h,hfd,hk,by simp[ZiQ],λj g hg=>?_,.nil,λy hy=>(by cases hy),λy hy=>(by cases hy),Int.le_refl 0,Nat.zero_le _,Nat.zero_le _,Nat.le_refl _,λy hy=>by cases hy⟩;refine ⟨if g.Kind=0 then 0 else -1,by simp[ZiQ,hg],?_⟩;by_cases hg0:g.Kind=0
 .rw[if_pos hg0];exact .inl ⟨hg0,Int.le_refl _,by decide⟩
 .rw[if_neg hg0];exact .inr ⟨hg0,rfl⟩
theorem ZaU {α β:Type} (g:α->List β) (p:β->Bool) (q:α->Bool) (h:∀a,∀b∈g a,p b=q a):∀l:List α,(l.flatMap g).filter p=(l.filter q).flatMap g
 | []=>rfl
 | a::l=>by
  rw[List.flatMap_cons,List.filter_append,ZaU g p q h l,List.filter_cons];cases hq:q a with
  | true=>
   rw[if_pos rfl,List.flatMap_cons,List.filter_eq_self.2 λb hb=>by rw[h a b hb,hq]]
  | false=>
   rw[if_neg (by decide),List.filter_eq_nil_iff.2 λb hb=>by rw[h a b hb,hq];decide,List.nil_append]
theorem ZbU {x:En} {y:Yz} (h:y∈ZmR wd x):y.cause=x.m.key/\y.m∈x.outs/\Zci wd y.m.To=false:=by
 unfold ZmR at h;obtain ⟨m,hm,rfl⟩:=List.mem_map.1 h;rw[List.mem_filter,Bool.not_eq_true'] at hm;exact ⟨rfl,hm⟩
theorem ZtW (l:List En) (k:Key):((Yq wd l).filter λx=>!Zqc k x)=Yq wd (l.filter λx=>decide<|Zv x.m.key k):=
 ZaU _ _ _ (λa b hb=>by
  rw[(show Zqc k b=!decide (Zv a.m.key k) from ?_),Bool.not_not];unfold Zqc;rw[(ZbU hb).1];by_cases hl:Zv a.m.key k
  .rw[decide_eq_true hl,decide_eq_false (by have:=Zav.2 hl;omega)];rfl
  .rw[decide_eq_false hl,decide_eq_true (by have:=mt Zav.1 hl;omega)];rfl) l
theorem Zuc (l:List En) (t:Int):(Yq wd l).filter (Zo4 t)=Yq wd (l.filter λx=>decide<|x.m.key.T<t):=
 ZaU _ _ _ (λa b hb=>by unfold Zo4;rw[(ZbU hb).1]) l
theorem Zuu (l:List En) (t:Int):ZwV (Yq wd l) t=Yq wd (l.filter λx=>!decide (x.m.key.T<t)):=
 ZaU _ _ _ (λa b hb=>by unfold Zo4;rw[(ZbU hb).1]) l
theorem ZyT {α:Type} {lt:α->α->Bool} {x:α} {l:List α} (h:∀y∈l,lt y x=false):mg lt [x] l=x::l:=by
 cases l with
 | nil=>rw[ZbO]
 | cons y l=>rw[ZiN<|h y<|List.mem_cons_self ..,ZcI]
theorem ZpW {α:Type} {lt:α->α->Bool}:∀{l:List α},Asc lt l->ZeY lt l=l
 | [],_=>by rw[ZeY]
 | x::l,h=>by
  obtain ⟨h1,h2⟩:=List.pairwise_cons.1 h;rw[ZeY,ZpW h2,ZyT h1]
theorem Zxi {l:List En} (h:l.Pairwise λa b=>Zv a.m.key b.m.key):Asc (ltC cfK) (Yq wd l):=by
 induction l with
 | nil=>exact .nil
 | cons x l ih=>
  obtain ⟨h1,h2⟩:=List.pairwise_cons.1 h;refine List.pairwise_append.2 ⟨?_,ih h2,λa ha b hb=>?_⟩
  .refine List.Pairwise.imp_of_mem (R:=λ_ _=>True) (λ{a b} ha hb _=>?_)<|List.pairwise_of_forall λ_ _=>trivial;rw[ZrW,(ZbU ha).1,(ZbU hb).1];exact Zv.irrefl _
  .obtain ⟨y,hy,hb⟩:=List.mem_flatMap.1 hb;rw[ZrW,(ZbU ha).1,(ZbU hb).1];exact (h1 y hy).asymm
theorem ZrI {l:List En} (h:l.Pairwise λa b=>Zv a.m.key b.m.key) (t:Int):Zs6 (Yq wd l) t=Yq wd (l.filter λx=>decide<|x.m.key.T<t):=by
 unfold Zs6;rw[Zuc];exact ZpW<|Zxi<|h.sublist List.filter_sublist
theorem ZvE:∀{l:List Msg} {b:Int × Int},Upk l->(Zc8 wd f fd b l).Pairwise λa b=>Zv a.m.key b.m.key
 | [],_,_=>.nil
 | m::l,b,h=>by
  obtain ⟨h1,h2⟩:=List.pairwise_cons.1 h;exact List.pairwise_cons.2 ⟨λy hy=>h1 _ (Zdm hy).1,ZvE h2⟩
theorem Zlk {p:Msg->Bool} {l:List Msg} {b:Int × Int} (h:l.Pairwise λa b=>p b=true->p a=true) :
  ((Zc8 wd f fd b l).filter λx=>p x.m)=Zc8 wd f fd b (l.filter p)/\((Zc8 wd f fd b l).filter λx=>!p x.m)=Zc8 wd f fd (ZjE fd b<|l.filter p) (l.filter λm=>!p m):=by
 obtain ⟨n,_,h1,h2⟩:=ZvD h;obtain ⟨e1,e2⟩:=ZvC h1 h2;have hm:=Zlh wd f fd l b;have k1:∀x∈(Zc8 wd f fd b l).take n,p x.m=true:=λx hx=>by
  rw[ZpZ] at hx;exact h1 _ (Zdm hx).1
 have k2:∀x∈(Zc8 wd f fd b l).drop n,p x.m=false:=λx hx=>by
  rw[Zpl] at hx;exact h2 _ (Zdm hx).1
 obtain ⟨e3,e4⟩:=ZvC (p:=λx:En=>p x.m) k1 k2;rw[e3,e4,e1,e2];exact ⟨ZpZ ..,Zpl ..⟩
theorem ZrN {l:List Msg} (h:Upk l) (k:Key):l.Pairwise λa b=>decide (Zv b.key k)=true->decide (Zv a.key k)=true:=
 h.imp λ{a b} hab hb=>by
  rw[decide_eq_true_iff] at*;exact hab.trans hb
theorem ZpI {l:List Msg} (h:Upk l) (t:Int):l.Pairwise λa b=>decide (b.key.T<t)=true->decide (a.key.T<t)=true:=
 h.imp λ{a b} hab hb=>by
  rw[decide_eq_true_iff] at*;unfold Zv at hab;omega
theorem Zuo (h:ZoS wd) (hfd:wd.Feds[f]?=some fd) (b:Int × Int) (m:Msg):(ZmR wd<|ZoQ wd f fd b m).length<=24:=by
 have h1:=(ZnV h hfd b m).1;unfold ZmR;rw[List.length_map];exact Nat.le_trans (List.length_filter_le _ _) h1
theorem Zw5 (a b:List En):Yq wd (a++b)=Yq wd a++Yq wd b:=List.flatMap_append
theorem Zu1 (h:ZoS wd) (hfd:wd.Feds[f]?=some fd):∀(l:List Msg) (b:Int × Int),(Yq wd<|Zc8 wd f fd b l).length<=24*l.length
 | [],_=>Nat.le_refl _
 | m::l,b=>by
  have h1:=Zu1 h hfd l<|Zhz fd b m;have h2:=Zuo h hfd b m;show (ZmR wd (ZoQ wd f fd b m)++Yq wd (Zc8 wd f fd (Zhz fd b m) l)).length<=_;rw[List.length_append,List.length_cons];omega
variable {R:List HP}
abbrev DI (v:Value) (l:List Zn):HP:=Zz 88 8 Zn.cs v l
def wcs (X:WdX) (f st sent:Int) (q p g b:Nat) (lv:Value):List Value:=[X.pv,X.fv,Iw X.End,Iw f,Iw st,Iw sent,pt q,pt p,pt g,.map<|some b,lv]
abbrev BW (n:Nat) (X:WdX) (f st sent:Int) (q p g b:Nat) (lv:Value):HP:=blk n 162<|wcs X f st sent q p g b lv
theorem Zxw {xs:List EnX} {x:EnX} (hx:x∈xs):∀g,Yh (xs.map ZcP) g->rdS 6 Msg.cs x.ov x.outs g:=λg hg=>by
 obtain ⟨j,hj⟩:=List.getElem?_of_mem hx;obtain ⟨g',k1,k2⟩:=Yy (i:=j) (P:=ZcP x) hg (by rw[List.getElem?_map,hj];rfl);exact Zbl k2<|Zp k1
theorem ZxA {n:Nat} {X:WdX} {f st sent:Int} {q p g b:Nat} {lv:Value} {j:Int} (hj:0<=j/\j<X.Feds.length) (i i2:Nat) (hi:L[i]?=some (BW n X f st sent q p g b lv)) (hi2:L[i2]?=some (Zag X)) (hS:Sat e w L)
  (hk:K (.bool<|Zci X.w j) w):Cl prog 303 #[pt n,Iw j] w K:=by
 refine ZgP ?_;unfold Zhg;obtain ⟨m,rfl⟩:∃m:Nat,j=m:=⟨j.toNat,by omega⟩;obtain ⟨fd,hfd⟩:=Zk (l:=X.Feds) (j:=m) (by omega);refine Zh<|Za<|Za<|Zb hS i hi (v:=X.fv) rfl<|Zw hS i2 hi2 (λg hg=>(Zct hg).feds) (λ_=>rfl) hfd λa ha=>Zbd ha λa1 ha1=>Yt hS i2 hi2 ha1 (v:=Iw fd.Kind) rfl<|ZBD ?_;have e1:Zci X.w m=decide (fd.Kind=1):=by
  unfold Zci;rw[if_pos (by omega),Int.toNat_natCast];simp only[WdX.w];rw[List.getElem?_map,hfd];rfl
 rw[e1] at hk;exact hk
def ZmN (b:Int × Int) (r:List En):Int × Int:=r.foldl (λ_ x=>(x.ahead,x.sent)) b
def ZgD (but:Bool) (k:Key) (q:List Msg) (r:List En):List Msg:=r.foldl (λq x=>if (but&&decide (x.m.key=k))=true then q else ZfX q x.m) q
theorem ZnD (b:Int × Int) (r:List En) (x:En):ZmN b (r++[x])=(x.ahead,x.sent):=by unfold ZmN;rw[List.foldl_append];rfl
theorem Zkc (but:Bool) (k:Key) (q:List Msg) (r:List En) (x:En):ZgD but k q (r++[x])=if (but&&decide (x.m.key=k))=true then ZgD but k q r else ZfX (ZgD but k q r) x.m:=by unfold ZgD;rw[List.foldl_append];rfl
theorem Zdw {α:Type} {p:α->Bool} {l:List α} {j:Nat} {x:α} (hx:l[j]?=some x):(l.take<|j+1).filter p=(l.take j).filter p++if p x then [x] else []:=by
 rw[Zx hx,List.filter_append,List.filter_cons,List.filter_nil]
theorem ZuN (wd:Wd) (x:En):(Zjg wd x).length<=x.outs.length:=by unfold Zjg;rw[List.length_map];exact List.length_filter_le _ _
theorem Zt7 {α β:Type} (g:α->List β) (c:Nat):∀l:List α,(∀x∈l,(g x).length<=c)->(l.flatMap g).length<=c*l.length
 | [],_=>Nat.le_refl _
 | a::l,h=>by
  have h1:=Zt7 g c l λx hx=>h x<|List.mem_cons_of_mem _ hx;have h2:=h a<|List.mem_cons_self ..;rw[List.flatMap_cons,List.length_append,List.length_cons,Nat.mul_add];omega
theorem ZxH {n f:Nat} {X:WdX} {st sent fl:Int} {q p g b:Nat} {lv:Value} {ql:List Msg} {l:List En} {gl:List Yz} {k:Key} {but:Bool} (hto:∀x∈l,∀m∈x.outs,0<=m.To/\m.To<X.Feds.length) (hgl:gl.length<=1000000)
  (hS:Sat e w<|BW n X f st sent q p g b lv::IsQ q ql::Yf p fl l::Yo g fl gl::Zag X::Q)
  (hk:∀v w',Sat e w' (DI v (Zk4 X.w<|Zqh k l)::BW n X f (ZmN (st,sent) (Zqh k l).reverse).1 (ZmN (st,sent) (Zqh k l).reverse).2 q p g b lv::IsQ q (ZgD but k ql (Zqh k l).reverse)::Yf p fl (Zmb k l)::Yo g fl (gl.filter λx=>!Zqc k x)::Zag X::Q)->K v w') :
  Cl prog 308 #[pt n,.agg k.cs.toArray,.bool but] w K:=by
 refine ZgL ?_;unfold ZgR;have hpo:ZkM l:=by
  obtain ⟨_,_,hp,_⟩:=Zfr<|hS.pick 2 rfl;exact hp.2
 refine Yp (cs:=k.cs) hS rfl λt4 w1 h1=>ZaY h1 λw2 h2=>Zh<|Za<|Zb h2 1 rfl (v:=pt p) rfl<|Zo h2 0 (vs:=k.cs) rfl (by rfl) rfl ?_;refine Zq7 (h2.pick 3 rfl) λv w3 h3=>?_;obtain ⟨xs,hxs,h4⟩:=ZxO h3;generalize hr:(Zqh k l).reverse=r at hxs;have hrm:∀x∈r,x∈l:=λx hx=>by rw[<-hr,List.mem_reverse] at hx;exact (List.mem_filter.1 hx).1
 have hrl:r.length<=64:=by rw[<-hr,List.length_reverse];exact Nat.le_trans (List.length_filter_le _ _) hpo.len
 have hxl:xs.length=r.length:=by rw[<-hxs,List.length_map]
 have hgx:∀{j:Nat} {x:EnX},xs[j]?=some x->r[j]?=some x.e:=λhx=>by rw[<-hxs,List.getElem?_map,hx];rfl
 have hlen:∀j,((r.take j).flatMap<|Zjg X.w).length<=64000:=λj=>by
  have h0:=Zt7 (Zjg X.w) 1000 (r.take j) λx hx=>Nat.le_trans (ZuN X.w x)<|hpo.outs x<|hrm x<|List.mem_of_mem_take hx;have h1:(r.take j).length<=64:=by rw[List.length_take];omega
  omega
 refine Qln h4 0 rfl ?_;rw[Zxk,ZOc]
 replace h4:Sat e w3 (DE v xs::Yh (xs.map ZcP)::Yf p fl (Zmb k l)::blk t4 83 k.cs::BW n X f st sent q p g b lv::IsQ q ql::Yo g fl gl::Zag X::Q):=h4
 refine ZjF (λmm t7 t19 w=>∃j:Nat,j<=r.length/\t19=Iw j/\mm=r.length - j/\Sat e w (DI t7 ((r.take j).flatMap<|Zjg X.w)::BW n X f (ZmN (st,sent)<|r.take j).1 (ZmN (st,sent)<|r.take j).2 q p g b lv::IsQ q (ZgD but k ql<|r.take j)::DE v xs::Yh (xs.map ZcP)::Yf p fl (Zmb k l)::Yo g fl gl::Zag X::blk t4 83 k.cs::Q)) r.length
  ⟨0,Nat.zero_le _,rfl,rfl,?_⟩ ?_
 .have h5:=h4.own_nil 88 8 Zn.cs;exact h5.sn 9 [0,5,6,1,2,3,7,8,4]
 rintro mm t7 _ w g1 ⟨j,hj,rfl,rfl,h5⟩ hg1;rw[hxl];refine Za7 (λc=>Zi ?_)<|λc=>Zf ?_
 .obtain ⟨x,hx⟩:=Zk (l:=xs) (j:=j) (by omega);have hxm:=List.mem_of_getElem? hx;have hxe:=hgx hx;have hxl':=hrm x.e<|List.mem_of_getElem? hxe;have hol:x.outs.length<=1000:=hpo.outs x.e hxl';have hxt:∀m∈x.outs,0<=m.To/\m.To<X.Feds.length:=hto x.e hxl';have hts:=Zx hxe;refine Qix h5 3 rfl hx λa ha=>Ym h5 3 rfl ha rfl<|Yp (cs:=EnX.zero.cs) h5 rfl λt9 w6 h6=>Zq h6 0 rfl (vs:=x.cs) rfl rfl (by simp[EnX.zero,EnX.cs]) (EnX.flat<|ZlV 5 h6 rfl hxm) (cs':=x.cs) (by rfl) λw7 h7=>?_;refine ZaY h7 λw8 h8=>Za<|Zb h8 0 rfl (v:=Iw x.ahead) rfl<|Za<|Zb h8 0 rfl (v:=Iw x.sent) rfl<|Zh<|Za<|Zq h8 2 rfl (vs:=Yi [x.ahead]) rfl rfl (Nat.le_of_ble_eq_true rfl) (Zg _) (cs':=wcs X f x.ahead (ZmN (st,sent)<|r.take j).2 q p g b lv) (by rfl) λw9 h9=>?_;refine ⟨Zb h9 0 rfl (v:=Iw x.sent) rfl ⟨rfl,rfl⟩,Zh<|Za<|Zq h9 2 rfl (vs:=Yi [x.sent]) rfl rfl (Nat.le_of_ble_eq_true rfl) (Zg _) (cs':=wcs X f x.ahead x.sent q p g b lv) (by rfl) λw10 h10=>?_⟩
  replace h10:Sat e w10 (blk t9 246 x.cs::DI t7 ((r.take j).flatMap<|Zjg X.w)::BW n X f x.ahead x.sent q p g b lv::IsQ q (ZgD but k ql<|r.take j)::DE v xs::Yh (xs.map ZcP)::Yf p fl (Zmb k l)::Yo g fl gl::Zag X::blk t4 83 k.cs::Q):=h10
  have key:∀(t41:Bool) (w':World),t41=!(but&&decide (x.m.key=k))->Sat e w' (blk t9 246 x.cs::DI t7 ((r.take j).flatMap<|Zjg X.w)::BW n X f x.ahead x.sent q p g b lv::IsQ q (ZgD but k ql<|r.take j)::DE v xs::Yh (xs.map ZcP)::Yf p fl (Zmb k l)::Yo g fl gl::Zag X::blk t4 83 k.cs::Q)->
    J0 (λw=>fld 9 (pt t9) w λt49 w=>ld1 t49 w λt50 w=>lnS t50 w λt51 w=>lp [t7,Iw 0] w<|b2 λt7_1 t52 w g3=>bi .lss .i64 t52 t51 w λt53 w=>Zr t53
     (J1 (λt7_2 w=>bi .add .i64 t52 (Iw 1) w λt65 w=>g3 [t7_2,t65] w) λk4=>ixS 6 t50 t52 w λt54 w=>ldN 6 t54 w λt55 w=>al Msg.zero.cs.toArray 85 w λt11 w=>stN 6 t11 t55 w λ_ w=>fld 3 t11 w λt57 w=>ld1 t57 w λt58 w=>
      Cl prog 303 #[pt n,t58] w λt59 w=>Zr t59
      (ldN 6 t11 w λt61 w=>bld (Zl prog 88) #[(0,1),(1,6),(7,1)] [(0,(Iw 1)),(1,t61)] w λt62 w=>bsl 88 8 1 (Zl prog 88) [(0,t62)] w λt63 w=>apS prog #[46,46] 46 t7_1 t63 w λt64 w=>k4 t64 w)
      (k4 t7_1 w))
     (bi .add .i64 (Iw j) (Iw 1) w λt66 w=>g1 [t7_1,t66] w)) λk2=>
    Zr (.bool t41) (dr w' λw=>ncP (pt n)<|fld 6 (pt n) w λt44 _=>ld1 t44 w λt45 _=>fld 0 (pt t9) w λt46 _=>ldN 6 t46 w λt47 _=>Cl prog 275 #[t45,t47] w λ_ w=>k2 w) (k2 w'):=by
   intro t41 w' ht h11;refine J0.cut (λw=>Sat e w<|blk t9 246 x.cs::DI t7 ((r.take j).flatMap<|Zjg X.w)::BW n X f x.ahead x.sent q p g b lv::IsQ q (ZgD but k ql<|r.take<|j+1)::DE v xs::Yh (xs.map ZcP)::Yf p fl (Zmb k l)::Yo g fl gl::Zag X::blk t4 83 k.cs::Q) (λk2 hcut=>?_) ?_
   .rw[hts,Zkc] at hcut;cases t41 with
    | false=>
     have hb:(but&&decide (x.e.m.key=k))=true:=by
      cases hb:(but&&decide (x.e.m.key=k)) with
      | true=>rfl
      | false=>rw[show x.m=x.e.m from rfl,hb] at ht;cases ht
     rw[if_pos hb] at hcut;exact Zf (hcut _ h11)
    | true=>
     have hb:(but&&decide (x.e.m.key=k))=false:=by
      cases hb:(but&&decide (x.e.m.key=k)) with
      | false=>rfl
      | true=>rw[show x.m=x.e.m from rfl,hb] at ht;cases ht
     rw[if_neg (by rw[hb];decide)] at hcut;refine Zi<|ZaY h11 λw12 h12=>Zh<|Za<|Zb h12 2 rfl (v:=pt q) rfl<|Za<|Zo h12 0 (vs:=x.m.cs) rfl (by rfl) rfl ?_;exact ZnW (x:=x.m) (h12.pick 3 rfl) λw13 h13=>hcut _<|h13.sn 10 [1,2,3,0,4,5,6,7,8,9]
   .intro w12 h12;refine Za<|Zb h12 0 rfl (v:=x.ov) rfl<|Zt h12 5 rfl (Zxw hxm) ?_;refine ZjF (λmm t7' t52 w=>∃i:Nat,i<=x.outs.length/\t52=Iw i/\mm=x.outs.length - i/\Sat e w (DI t7' ((r.take j).flatMap (Zjg X.w)++((x.outs.take i).filter λm=>Zci X.w m.To).map Zs1)::blk t9 246 x.cs::BW n X f x.ahead x.sent q p g b lv::IsQ q (ZgD but k ql<|r.take<|j+1)::DE v xs::Yh (xs.map ZcP)::Yf p fl (Zmb k l)::Yo g fl gl::Zag X::blk t4 83 k.cs::Q)) x.outs.length
     ⟨0,Nat.zero_le _,rfl,rfl,?_⟩ ?_
    .rw[List.take_zero,List.filter_nil,List.map_nil,List.append_nil];exact h12.swap
    rintro mm t7' _ w g3 ⟨i,hi,rfl,rfl,h13⟩ hg3;refine Za7 (λc2=>Zi ?_)<|λc2=>Zf ?_
    .obtain ⟨m,hm⟩:=Zk (l:=x.outs) (j:=i) (by omega);have hmt:=hxt m<|List.mem_of_getElem? hm;have hfs:=Zdw (p:=λm=>Zci X.w m.To) hm;refine J1.cut (λt7'' w=>Sat e w<|DI t7'' ((r.take j).flatMap (Zjg X.w)++((x.outs.take<|i+1).filter λm=>Zci X.w m.To).map Zs1)::blk t9 246 x.cs::BW n X f x.ahead x.sent q p g b lv::IsQ q (ZgD but k ql<|r.take<|j+1)::DE v xs::Yh (xs.map ZcP)::Yf p fl (Zmb k l)::Yo g fl gl::Zag X::blk t4 83 k.cs::Q) (λk4 hcut=>?_) ?_
     .refine Zw h13 5 rfl (Zxw hxm) (λ_=>rfl) hm λa ha=>Ym h13 5 rfl ha rfl<|Yp (cs:=Msg.zero.cs) h13 rfl λt11 w14 h14=>Zq h14 0 rfl (vs:=m.cs) rfl rfl (by decide) (Zg _) (cs':=m.cs) (by rfl) λw15 h15=>?_;refine Za<|Zb h15 0 rfl (v:=Iw m.To) rfl<|ZxA hmt 3 9 rfl rfl h15 ?_;cases hb:Zci X.w m.To with
      | false=>
       refine Zf<|hcut _ _ ?_;rw[hfs,hb];simp only[Bool.false_eq_true,if_false,List.append_nil];exact h15.drop
      | true=>
       refine Zi<|Zo h15 0 (vs:=m.cs) rfl (by rfl) rfl ?_;refine Zaf (Zs1 m).cs (by kernel_rfl) ?_;refine Zj7 ZW8 (f:=Zn.cs) (λ_=>rfl) (λ_=>Zg _) (h15.pick 1 rfl) (x:=Zs1 m) rfl ?_ λv' w16 h16=>?_
       .have h0:=hlen j;have h2:=List.length_filter_le (λm=>Zci X.w m.To)<|x.outs.take i;rw[List.length_take] at h2;rw[List.length_append,List.length_map];omega
       .refine hcut _ _ ?_;rw[hfs,hb];simp only[if_true,List.map_append,List.map_singleton];rw[<-List.append_assoc];exact h16.sn 11 [0,2,3,4,5,6,7,8,9,10]
     .intro t7'' w14 h14;exact Qincs<|hg3 _ _ _ _ (by omega) ⟨i+1,by omega,rfl,rfl,h14⟩
    .have ei:i=x.outs.length:=by omega
     rw[ei,List.take_length] at h13;refine Qincs<|hg1 _ _ _ _ (by omega) ⟨j+1,by omega,rfl,rfl,?_⟩;rw[hts,ZnD,List.flatMap_append,List.flatMap_singleton];rw[hts] at h13;exact h13.sn 10 [0,2,3,4,5,6,7,8,9]
  cases but with
  | false=>
   exact Zch (Zd<|Zd<|Zd<|Zd<|Zd<|Yv<|key true w10 rfl h10)
  | true=>
   refine ZaJ<|Zj<|Za<|Zj<|Za<|Zj<|Zo h10 0 (vs:=x.m.key.cs) rfl (by rfl) rfl<|Zj<|Zo h10 9 (vs:=k.cs) rfl (by rfl) rfl<|Zj<|ZDr (ns:=x.m.key.ns) (ms:=k.ns) ZYS ZYT ZZi (by decide) rfl ?_;rw[Key.eq_ns];exact Yd<|key _ w10 rfl h10
 .have ej:j=r.length:=by omega
  rw[ej,List.take_length] at h5;refine ZaY h5 λw6 h6=>Zh<|Za<|Zb h6 1 rfl (v:=pt g) rfl<|Zo h6 8 (vs:=k.cs) rfl (by rfl) rfl ?_;refine Zq2 k (h6.pick 6 rfl) hgl λv8 w8 h8=>?_;subst hr;exact hk _ _<|h8.sn 10 [2,3,4,7,1,8]
end Go.Proofs.YtceipnkeijhebaaGreat
end
section
namespace Go.Proofs.YtceipnkeijhebaaGreat
open Go Go.E
set_option maxRecDepth 100000
variable {e w:World} {L Q R:List HP} {K:KV} {S S2:HP}
section
variable {wd:Wd} {f:Nat} {fd:Fed} {N:WN} {k:Nat}
theorem Zub (b:Int × Int) (l:List Msg):ZmN (ZjE fd b l) (Zc8 wd f fd b l).reverse=b:=by
 cases l with
 | nil=>rfl
 | cons m l=>
  show ZmN _ (ZoQ wd f fd b m::Zc8 wd f fd (Zhz fd b m) l).reverse=b;rw[List.reverse_cons,ZnD];rfl
theorem Zu7 {m:Msg} {q:List Msg} (h:∀y∈q,Zv m.key y.key) (hl:q.length<64):ZfX q m=m::q:=by
 unfold ZfX;have hne:∀y∈q,y.key≠m.key:=λy hy he=>Zv.irrefl m.key (by have:=h y hy;rwa [he] at this);have he:ZdT 64 q m=0:=by rw[Ze8 hne,if_neg (by omega)]
 rw[if_pos he,Zwv h]
theorem ZmH {k:Key} (q:List Msg):∀(l:List Msg) (b:Int × Int),Upk (l++q)->l.length+q.length<=64->(but:Bool)->(but=true->∀m∈l,m.key≠k)->ZgD but k q (Zc8 wd f fd b l).reverse=l++q
 | [],_,_,_,_,_=>rfl
 | m::l,b,hu,hl,but,hn=>by
  show ZgD but k q (ZoQ wd f fd b m::Zc8 wd f fd (Zhz fd b m) l).reverse=_;obtain ⟨h1,h2⟩:=List.pairwise_cons.1 hu;rw[List.length_cons] at hl;have hb:(but&&decide ((ZoQ wd f fd b m).m.key=k))=false:=by
   show (but&&decide (m.key=k))=false;cases but with
   | false=>rfl
   | true=>rw[decide_eq_false<|hn rfl m<|List.mem_cons_self ..];rfl
  rw[List.reverse_cons,Zkc,if_neg (by rw[hb];decide),ZmH q l _ h2 (by omega) but λh y hy=>hn h y<|List.mem_cons_of_mem _ hy];exact Zu7 h1 (by rw[List.length_append];omega)
theorem Znt (h:WOk wd f fd N k) (key:Key):Zqh key (N.past wd f fd)=ZiU wd f fd N key:=(Zlk<|ZrN h.ups key).2
theorem ZjY (h:WOk wd f fd N k) (key:Key):Zmb key (N.past wd f fd)=Zc8 wd f fd (N.base fd) (ZbF key N.ms):=(Zlk<|ZrN h.ups key).1
theorem ZBs (h:WOk wd f fd N k) (key:Key):N.now fd=ZjE fd (ZjE fd (N.base fd)<|ZbF key N.ms) (Yj key N.ms):=by
 rw[<-Zi8,Zgf h.ups];rfl
theorem ZpX (h:WOk wd f fd N k) (key:Key):ZmN (N.now fd) (ZiU wd f fd N key).reverse=ZjE fd (N.base fd) (ZbF key N.ms):=by
 rw[ZBs h key];exact Zub _ _
theorem ZnK (h:WOk wd f fd N k) (key:Key):Upk (Yj key N.ms++N.q):=by
 have:=h.line;rw[<-Zgf h.ups key,List.append_assoc] at this;exact this.right
theorem ZqF (h:WOk wd f fd N k) (key:Key) (hl:N.q.length+(Yj key N.ms).length<=64):ZgD false key N.q (ZiU wd f fd N key).reverse=Yj key N.ms++N.q:=
 ZmH N.q _ _ (ZnK h key) (by omega) false λh=>by cases h
theorem Zs5 (h:WOk wd f fd N k) (key:Key) (hd:ZeQ key N.ms=true) (hl:N.q.length+(Yj key N.ms).length<=65):ZgD true key N.q (ZiU wd f fd N key).reverse=without (Yj key N.ms++N.q) key:=by
 obtain ⟨x,hx1,hx2⟩:=Zgl.1 hd;have hin:x∈Yj key N.ms:=Zit.2 ⟨hx1,λhl=>Zv.irrefl _<|by rwa [hx2] at hl⟩;have hu:=ZnK h key;unfold ZiU;have hhi:∀y∈Yj key N.ms,¬Zv y.key key:=λy hy=>(Zit.1 hy).2;cases hh:Yj key N.ms with
 | nil=>rw[hh] at hin;cases hin
 | cons m l=>
  rw[hh] at hin hu hl hhi;rw[List.length_cons] at hl;obtain ⟨h1,h2⟩:=List.pairwise_cons.1 (show Upk (m::(l++N.q)) from hu);have hm:m.key=key:=by
   rcases List.mem_cons.1 hin with rfl | hin
   .exact hx2
   .have:=h1 x<|List.mem_append_left _ hin;rw[hx2] at this;exact absurd this<|hhi m<|List.mem_cons_self ..
  have hne:∀y∈l++N.q,y.key≠key:=λy hy he=>by
   have:=h1 y hy;rw[he,hm] at this;exact Zv.irrefl _ this
  show ZgD true key N.q (ZoQ wd f fd _ m::Zc8 wd f fd _ l).reverse=_;rw[List.reverse_cons,Zkc,if_pos (show (true&&decide ((ZoQ wd f fd (ZjE fd (N.base fd)<|ZbF key N.ms) m).m.key=key))=true from (show (true&&decide (m.key=key))=true by rw[decide_eq_true hm];rfl)),ZmH N.q l _ h2 (by omega) true λ_ y hy=>hne y<|List.mem_append_left _ hy];rw[List.cons_append,show m::(l++N.q)=[m]++(l++N.q) from rfl,ZlU,Zkv hne];unfold without;rw[List.filter_cons,if_neg (by rw[decide_eq_true hm];decide),List.filter_nil];rfl
theorem Zmw (h:WOk wd f fd N k) (key:Key):((Yq wd<|N.past wd f fd).filter λx=>!Zqc key x)=Yq wd (Zc8 wd f fd (N.base fd)<|ZbF key N.ms):=by
 rw[ZtW];exact congrArg (Yq wd)<|ZjY h key
end
def Zc9 (l:List Int) (j:Int):Int:=if 0<=j then l.getD j.toNat (-1) else -1
structure Zr8 (l:List Int) (m:List<|Int × Int):Prop where
 u:Znz m
 lk:∀j,lkA m j=if 0<=Zc9 l j then some (Zc9 l j) else none
 len:m.length<=1000
theorem Zr8.up {l:List Int} {m:List<|Int × Int} (h:Zr8 l m) {j t:Int} (hj:0<=Zc9 l j) (ht:0<=t):Zr8 (l.set j.toNat t) (upA m j t):=by
 have h0:0<=j:=by
  unfold Zc9 at hj;split at hj
  .assumption
  .omega
 have hl:j.toNat<l.length:=by
  unfold Zc9 at hj;rw[if_pos h0,List.getD_eq_getElem?_getD] at hj;rcases Nat.lt_or_ge j.toNat l.length with h | h
  .exact h
  .rw[List.getElem?_eq_none h] at hj;simp at hj
 refine ⟨h.u.up j t,λi=>?_,?_⟩
 .rw[ZiY h.u];by_cases hij:i=j
  .subst hij;have e1:Zc9 (l.set i.toNat t) i=t:=by unfold Zc9;rw[if_pos h0,List.getD_eq_getElem?_getD,List.getElem?_set_self hl];rfl
   rw[if_pos rfl,e1,if_pos ht]
  .rw[if_neg hij,h.lk i];have e1:Zc9 (l.set j.toNat t) i=Zc9 l i:=by
    unfold Zc9;by_cases hi:0<=i
    .rw[if_pos hi,if_pos hi,List.getD_eq_getElem?_getD,List.getD_eq_getElem?_getD,List.getElem?_set_ne (by omega)]
    .rw[if_neg hi,if_neg hi]
   rw[e1]
 .have hs:(lkA m j).isSome=true:=by rw[h.lk j,if_pos hj];rfl
  unfold upA;rw[if_pos hs,List.length_map];exact h.len
structure WV where
 X:WdX
 q:Nat
 p:Nat
 g:Nat
 b:Nat
 m:List (Int × Int)
 lv:Value
abbrev DD (v:Value) (l:List Zak):HP:=Zz 129 7 Zak.cs v l
structure Zk8 (X:WdX) (wd:Wd) (f:Nat) (fd:Fed) (N:WN) (k:Nat) (m:List<|Int × Int):Prop where
 eq:X.w=wd
 short:X.short
 ok:WOk wd f fd N k
 map:Zr8 N.clk m
abbrev ZEX (n:Nat) (X:WdX) (wd:Wd) (f:Nat) (fd:Fed) (N:WN) (q p g b:Nat) (m:List<|Int × Int) (lv:Value):List HP:=
 [BW n X f (N.now fd).1 (N.now fd).2 q p g b lv,IsQ q N.q,Yf p N.fl<|N.past wd f fd,Yo g N.fl<|Yq wd<|N.past wd f fd,Zag X,Zaj kI kI b m,DD lv<|N.log wd f fd]
def Ya (n:Nat) (wd:Wd) (f:Nat) (fd:Fed) (N:WN) (k:Nat):HP:=hex λv:WV=>Yh<|pur (Zk8 v.X wd f fd N k v.m)::ZEX n v.X wd f fd N v.q v.p v.g v.b v.m v.lv
variable {n f k:Nat} {wd:Wd} {fd:Fed} {N:WN}
theorem Zb4 (h:Sat e w<|Ya n wd f fd N k::Q):∃X q p g b m lv,Zk8 X wd f fd N k m/\Sat e w (BW n X f (N.now fd).1 (N.now fd).2 q p g b lv::IsQ q N.q::Yf p N.fl (N.past wd f fd)::Yo g N.fl (Yq wd<|N.past wd f fd)::Zag X::Zaj kI kI b m::DD lv (N.log wd f fd)::Q):=by
 obtain ⟨v,h0⟩:=h.ex;exact ⟨v.X,v.q,v.p,v.g,v.b,v.m,v.lv,Sat.pure h0.split⟩
theorem ZbQ {X:WdX} {q p g b:Nat} {m:List<|Int × Int} {lv:Value} (hp:Zk8 X wd f fd N k m) (h:Sat e w<|BW n X f (N.now fd).1 (N.now fd).2 q p g b lv::IsQ q N.q::Yf p N.fl (N.past wd f fd)::Yo g N.fl (Yq wd<|N.past wd f fd)::Zag X::Zaj kI kI b m::DD lv (N.log wd f fd)::Q):Sat e w (Ya n wd f fd N k::Q):=
 .mk_ex ⟨X,q,p,g,b,m,lv⟩ (.join (l':=[_,_,_,_,_,_,_,_]) (.mk_pure hp h))
theorem ZqK (i:Nat) (h:Sat e w L) (hi:L[i]?=some (Ya n wd f fd N k)):WOk wd f fd N k:=by
 obtain ⟨X,q,p,g,b,m,lv,hX,_⟩:=Zb4<|h.pick i hi;exact hX.ok
theorem Zk8.len {X:WdX} {m:List<|Int × Int} (h:Zk8 X wd f fd N k m):X.Feds.length=wd.Feds.length:=by rw[<-h.eq];simp[WdX.w]
theorem Zk8.fed {X:WdX} {m:List<|Int × Int} (h:Zk8 X wd f fd N k m):∃fx:Zao,X.Feds[f]?=some fx/\fx.f=fd:=by
 have h1:=h.ok.hfd;rw[<-h.eq] at h1;simp only[WdX.w] at h1;rw[List.getElem?_map] at h1;exact Option.map_eq_some_iff.1 h1
theorem ZpL (hS:Sat e w<|Ya n wd f fd N k::Q) (hk:K (Iw (N.ms.length:Int)) w):Cl prog 58 #[pt n] w K:=by
 refine ZfZ ?_;unfold Zfc;obtain ⟨X,q,p,g,b,m,lv,hX,h1⟩:=Zb4 hS;refine Zh<|Za<|Zb h1 0 rfl (v:=pt p) rfl<|Znx (h1.pick 2 rfl) ?_;rw[show (N.past wd f fd).length=N.ms.length from ZbA ..];exact hk
theorem ZLc (hS:Sat e w<|Ya n wd f fd N k::Q) (hk:K (Iw (N.now fd).1) w):Cl prog 290 #[pt n] w K:=by
 refine ZKv ?_;unfold ZKt;obtain ⟨X,q,p,g,b,m,lv,hX,h1⟩:=Zb4 hS;exact Zh<|Za<|Zb h1 0 rfl (v:=Iw (N.now fd).1) rfl hk
theorem Zm7 (hS:Sat e w<|Ya n wd f fd N k::Q) (hk:∀v w',Sat e w' (Zz 85 6 Msg.cs v N.q::Ya n wd f fd N k::Q)->K v w'):Cl prog 291 #[pt n] w K:=by
 refine Zes ?_;unfold ZdO;obtain ⟨X,q,p,g,b,m,lv,hX,h1⟩:=Zb4 hS;refine Zh<|Za<|Zb h1 0 rfl (v:=pt q) rfl<|ZoA (h1.pick 1 rfl) λv w3 h3=>?_;have h4:=ZbQ hX<|h3.sn 8 [2,1,3,4,5,6,7,0];exact hk _ _ h4.swap
theorem ZsW (hk0:k<=1000) (hS:Sat e w<|Ya n wd f fd N k::Q) (hk:∀v w',Sat e w' (DD v (N.log wd f fd)::Ya n wd f fd N k::Q)->K v w'):Cl prog 289 #[pt n] w K:=by
 refine Zh5 ?_;unfold Zjl;obtain ⟨X,q,p,g,b,m,lv,hX,h1⟩:=Zb4 hS;have hl:(N.log wd f fd).length<=k:=by
  have:=hX.ok.cnt;unfold WN.log;rw[List.length_map,ZbA];omega
 refine Zh<|Za<|Zb h1 0 rfl (v:=lv) rfl<|Zos (l:=N.log wd f fd) 6 rfl (by omega) (λ_ _=>Zg _) h1 (λ_=>Zp) λv w3 h3=>?_;have h4:=ZbQ hX<|h3.sn 8 [1,2,3,4,5,6,7,0];exact hk _ _ h4.swap
theorem ZmX (hS:Sat e w<|Ya n wd f fd N k::Q) (hk:∀w',Sat e w' (Ya n wd f fd N k::Q)->K (Iw<|Za6 fd N) w'):Cl prog 297 #[pt n] w K:=by
 refine Zex<|ZaY hS λw1 h0=>?_;obtain ⟨X,q,p,g,b,m,lv,hX,h1⟩:=Zb4 h0;obtain ⟨fx,hfx,rfl⟩:=hX.fed;exact Zh<|Za<|Zb h1 0 rfl (v:=pt p) rfl<|Zh<|Za<|Za<|Zb h1 0 rfl (v:=X.fv) rfl<|Zh<|Za<|Zb h1 0 rfl (v:=Iw f) rfl<|Zw h1 4 rfl (λg hg=>(Zct hg).feds) (λ_=>rfl) hfx λa ha=>Zbd ha λa1 ha1=>Yt h1 4 rfl ha1 (v:=Iw fx.Look) rfl<|Zfi (h1.pick 2 rfl)<|⟨Yt h1 4 rfl ha1 (v:=Iw fx.Look) rfl ⟨rfl,rfl⟩,Zb h1 0 rfl (v:=Iw f) rfl ⟨rfl,rfl⟩,Zb h1 0 rfl (v:=X.fv) rfl ⟨rfl,rfl⟩,ZhT<|hk _<|ZbQ hX h1⟩
end Go.Proofs.YtceipnkeijhebaaGreat
end
section
namespace Go.Proofs.YtceipnkeijhebaaGreat
open Go Go.E
set_option maxRecDepth 100000
variable {e w:World} {L Q R:List HP} {K:KV} {S S2:HP}
theorem Zru {v fv:Value} {l:List Msg} {p:Msg->Bool} (i:Nat) (hi:L[i]?=some S) (hS:Sat e w L) (hr:∀g,S g->rdS 6 Msg.cs v l g) (hl:l.length<=1000000)
  (hp:∀o∈l,∀(w:World) (K:KV),Sat e w L->(∀w',Sat e w' L->K (.bool<|p o) w')->clV prog fv #[.agg o.cs.toArray] w K)
  (hk:∀w',Sat e w' L->K (.bool<|l.any p) w'):Cl prog 315 #[v,fv] w K:=by
 refine Zbi ?_;unfold Zay;refine Zbz ?_;unfold ZaR;refine Zt hS i hi hr<|Zdk (λq t8 w=>∃j:Nat,j<=l.length/\t8=Iw j/\q=l.length - j/\(∀o∈l.take j,p o=false)/\Sat e w L) l.length ⟨0,Nat.zero_le _,rfl,rfl,by simp,hS⟩ ?_;rintro q _ w g ⟨j,hj,rfl,rfl,hno,h1⟩ hg;refine Za7 (λc=>Zi ?_)<|λc=>Zf ?_
 .obtain ⟨o,ho⟩:=Zk (l:=l) (j:=j) (by omega);refine Zw h1 i hi hr (λ_=>rfl) ho λa ha=>Ym h1 i hi ha rfl<|hp o (List.mem_of_getElem? ho) _ _ h1 λw2 h2=>?_;cases hb:p o with
  | true=>
   have:=hk _ h2;rw[List.any_eq_true.2 ⟨o,List.mem_of_getElem? ho,hb⟩] at this;exact Zi (Qget this)
  | false=>
   refine Zf<|Qincs<|hg _ _ _ (by omega) ⟨j+1,by omega,rfl,rfl,λy hy=>?_,h2⟩;rw[Zx ho] at hy;rcases List.mem_append.1 hy with h | h
   .exact hno y h
   .rw[List.mem_singleton.1 h];exact hb
 .have ej:j=l.length:=by omega
  rw[ej,List.take_length] at hno;have:=hk _ h1;rw[List.any_eq_false.2 λx hx=>by rw[hno x hx];decide] at this;exact Qgef this
variable {n f k:Nat} {wd:Wd} {fd:Fed} {N:WN}
theorem Zp3 (key:Key):∀l:List Msg,((l.map Msg.key).filter λy=>decide<|0<=ZeU y key).length=(Yj key l).length
 | []=>rfl
 | m::l=>by
  unfold Yj;rw[List.map_cons,List.filter_cons,List.filter_cons];have h1:=Zp3 key l;unfold Yj at h1;by_cases h:Zv m.key key
  .rw[decide_eq_true h,decide_eq_false (by have:=Zav.2 h;omega),if_neg (by decide),if_neg (by decide),h1]
  .rw[decide_eq_false h,decide_eq_true (by have:=mt Zav.1 h;omega),if_pos rfl,if_pos (by decide),List.length_cons,List.length_cons,h1]
theorem Zwu (key:Key) (l:List Msg):((l.map Msg.key).any λy=>decide<|y=key)=ZeQ key l:=by unfold ZeQ;rw[List.any_map];rfl
theorem ZvK:(N.past wd f fd).map (λx=>x.m.key)=N.ms.map Msg.key:=by
 rw[show (λx:En=>x.m.key)=Msg.key∘En.m from rfl,<-List.map_map];exact congrArg (List.map Msg.key)<|Zlh wd f fd N.ms<|N.base fd
def ZeE (N:WN) (j:Int) (key:Key):Prop:=key.T<N.fl\/(0<=N.at' j/\key.T<N.at' j)
instance (N:WN) (j:Int) (key:Key):Decidable (ZeE N j key):=by unfold ZeE;infer_instance
theorem ZxM {m:List<|Int × Int} (h:Zr8 N.clk m) (j:Int):lkA m j=if 0<=N.at' j then some (N.at' j) else none:=h.lk j
theorem ZCe {j:Int} {key:Key} (hS:Sat e w<|Ya n wd f fd N k::Q)
  (hbad:ZeE N j key->∀t w',Sat e w' (BT t key 110::Ya n wd f fd N k::Q)->K (.tuple #[Iw 0,Bf,Bf,erV t]) w')
  (hok:¬ZeE N j key->∀w',Sat e w' (Ya n wd f fd N k::Q)->K (.tuple #[Iw ((Yj key N.ms).length:Int),.bool<|ZeQ key N.q,.bool<|ZeQ key N.ms,.nilIface]) w') :
  Cl prog 305 #[pt n,Iw j,.agg key.cs.toArray] w K:=by
 refine Zic ?_;unfold Zih;refine Yp (cs:=key.cs) hS rfl λt5 w1 h1=>?_;obtain ⟨X,q,p,g,b,m,lv,hX,h2⟩:=Zb4 h1.swap;refine Zh<|Za<|Zb h2 0 rfl (v:=.map<|some b) rfl<|ZsE ZXX ZXY h2 5 rfl j ?_;rw[ZxM hX.map];have hml:N.ms.length<=64:=hX.ok.ml;have key1:∀(v22:Value) (q23:Bool),(q23=decide (0<=N.at' j))->(0<=N.at' j->v22=Iw (N.at' j))->
   xt 0 (.tuple #[v22,.bool q23]) w1 λt22 w=>xt 1 (.tuple #[v22,.bool q23]) w λt23 w=>dr w λw=>fld 0 (pt t5) w λt24 _=>ld1 t24 w λt25 _=>ncP (pt n)<|fld 7 (pt n) w λt28 _=>ld1 t28 w λt29 _=>
   Cl prog 154 #[t29] w λt30 w=>(ld1 t24 w<|λv' w''=>v'=t25/\w''=w)/\(bi .lss .i64 t25 t30 w λt31 _=>gd t31 false (λk=>k t23 w) w λt33 _=>gd t31 false (λk=>k t33 w) w λt34 _=>gd t34 true (λk=>fld 0 (pt t5) w k) w λt35 _=>
   gd t34 true (λk=>ld1 t35 w k) w λt36 _=>gd t34 true (λk=>k t22 w) w λt37 _=>gd t34 true (λk=>bi .lss .i64 t36 t37 w k) w λt38 _=>gd t31 false (λk=>pk t34 t38 Bf w k) w λt39 _=>pk t31 Bt t39 w λt40 _=>Zr t40
   (ldN 3 (pt t5) w λt41 w=>Cl prog 306 #[t41,Iw 110] w λt42 w=>K (Value.tuple #[Iw 0,Bf,Bf,t42]) w)
   (ncP (pt n)<|fld 7 (pt n) w λt45 w=>ld1 t45 w λt46 w=>Cl prog 314 #[t46] w λt47 w=>lnS t47 w λt48 w=>lp [Iw 0,Bf,Iw 0] w<|b3 λt6 t8 t49 w g1=>
   bi .lss .i64 t49 t48 w λt50 w=>Zr t50 (ixS 3 t47 t49 w λt51 w=>ldN 3 t51 w λt52 w=>al (Zl prog 83) 83 w λt13 w=>stN 3 t13 t52 w λ_ w=>ldN 3 t13 w λt53 w=>ldN 3 (pt t5) w λt54 w=>Cl prog 200 #[t53,t54] w λt55 w=>
   bi .geq .i64 t55 (Iw 0) w λt57 w=>J1 (λt6_1 w=>gd t8 false (λk=>k t55 w) w λt62 w=>gd t8 false (λk=>bi .eql .i64 t62 (Iw 0) w k) w λt63 w=>pk t8 Bt t63 w λt64 w=>bi .add .i64 t49 (Iw 1) w λt65 w=>g1 [t6_1,t64,t65] w) λk2=>
   Zr t57 (bi .add .i64 t6 (Iw 1) w λt59 w=>k2 t59 w) (k2 t6 w))
   (ncP (pt n)<|fld 6 (pt n) w λt68 w=>ld1 t68 w λt69 w=>Cl prog 245 #[t69] w λt70 w=>Cl prog 315 #[t70,Value.func (Fn.func 316) #[] #[(pt t5)]] w λt72 w=>
   K (Value.tuple #[t6,t72,t8,Value.nilIface]) w))):=by
  intro v22 q23 hq hv;refine Zam<|Zal<|ZaY h2 λw3 h3=>Za<|Zb h3 7 rfl (v:=Iw key.T) rfl<|Zh<|Za<|Zb h3 0 rfl (v:=pt p) rfl<|Zfi (h3.pick 2 rfl)<|⟨Zb h3 7 rfl (v:=Iw key.T) rfl ⟨rfl,rfl⟩,?_⟩;have early:ZeE N j key->ldN 3 (pt t5) w3 λt41 w=>Cl prog 306 #[t41,Iw 110] w λt42 w=>K (Value.tuple #[Iw 0,Bf,Bf,t42]) w:=λhb=>by
   refine Zo h3 7 (vs:=key.cs) rfl (by rfl) rfl ?_;refine Zqi h3 λt w4 h4=>?_;have h5:=ZbQ hX<|h4.sn 9 [1,2,3,4,5,6,7,0];exact hbad hb t _ h5.swap
  have rest:¬ZeE N j key->(ncP (pt n)<|fld 7 (pt n) w3 λt45 w=>ld1 t45 w λt46 w=>Cl prog 314 #[t46] w λt47 w=>lnS t47 w λt48 w=>lp [Iw 0,Bf,Iw 0] w<|b3 λt6 t8 t49 w g1=>
    bi .lss .i64 t49 t48 w λt50 w=>Zr t50 (ixS 3 t47 t49 w λt51 w=>ldN 3 t51 w λt52 w=>al (Zl prog 83) 83 w λt13 w=>stN 3 t13 t52 w λ_ w=>ldN 3 t13 w λt53 w=>ldN 3 (pt t5) w λt54 w=>Cl prog 200 #[t53,t54] w λt55 w=>
    bi .geq .i64 t55 (Iw 0) w λt57 w=>J1 (λt6_1 w=>gd t8 false (λk=>k t55 w) w λt62 w=>gd t8 false (λk=>bi .eql .i64 t62 (Iw 0) w k) w λt63 w=>pk t8 Bt t63 w λt64 w=>bi .add .i64 t49 (Iw 1) w λt65 w=>g1 [t6_1,t64,t65] w) λk2=>
    Zr t57 (bi .add .i64 t6 (Iw 1) w λt59 w=>k2 t59 w) (k2 t6 w))
    (ncP (pt n)<|fld 6 (pt n) w λt68 w=>ld1 t68 w λt69 w=>Cl prog 245 #[t69] w λt70 w=>Cl prog 315 #[t70,Value.func (Fn.func 316) #[] #[(pt t5)]] w λt72 w=>
    K (Value.tuple #[t6,t72,t8,Value.nilIface]) w)):=λhb=>by
   refine Zh<|Za<|Zb h3 0 rfl (v:=pt p) rfl<|Zrr (h3.pick 2 rfl) λv47 w4 h4=>?_;rw[ZvK] at h4
   replace h4:Sat e w4 (Zz 83 3 Key.cs v47 (N.ms.map Msg.key)::Yf p N.fl (N.past wd f fd)::BW n X f (N.now fd).1 (N.now fd).2 q p g b lv::IsQ q N.q::Yo g N.fl (Yq wd<|N.past wd f fd)::Zag X::Zaj kI kI b m::DD lv (N.log wd f fd)::blk t5 83 key.cs::Q):=h4
   refine Qln h4 0 rfl ?_;rw[List.length_map,Z0i];generalize hks:N.ms.map Msg.key=ks at h4;have hkl:ks.length=N.ms.length:=by rw[<-hks,List.length_map]
   refine ZIw (λmm t6 t8 t49 w=>∃i:Nat,i<=ks.length/\t49=Iw i/\mm=ks.length - i/\t6=Iw (((ks.take i).filter λy=>decide<|0<=ZeU y key).length:Int)/\t8=.bool ((ks.take i).any λy=>decide<|y=key)/\Sat e w (Zz 83 3 Key.cs v47 ks::Yf p N.fl (N.past wd f fd)::BW n X f (N.now fd).1 (N.now fd).2 q p g b lv::IsQ q N.q::Yo g N.fl (Yq wd<|N.past wd f fd)::Zag X::Zaj kI kI b m::DD lv (N.log wd f fd)::blk t5 83 key.cs::Q)) ks.length
    ⟨0,Nat.zero_le _,rfl,rfl,rfl,rfl,h4⟩ ?_
   rintro mm _ _ _ w g1 ⟨i,hi,rfl,rfl,rfl,rfl,h5⟩ hg1;refine Za7 (λc=>Zi ?_)<|λc=>Zf ?_
   .obtain ⟨y,hy⟩:=Zk (l:=ks) (j:=i) (by omega);refine Qix h5 0 rfl hy λa ha=>Ym h5 0 rfl ha rfl<|Yp (cs:=Key.zero.cs) h5 rfl λt13 w6 h6=>Zq h6 0 rfl (vs:=y.cs) rfl rfl (by decide) (Zg _) (cs':=y.cs) (by rfl) λw7 h7=>?_;refine Zo h7 0 (vs:=y.cs) rfl (by rfl) rfl<|Zo h7 9 (vs:=key.cs) rfl (by rfl) rfl ?_;refine Zcr h7 λw8 h8=>?_;have hfl:((ks.take i).filter λy=>decide<|0<=ZeU y key).length<=i:=Nat.le_trans (List.length_filter_le _ _) (by rw[List.length_take];omega);have hfs:((ks.take<|i+1).filter λy=>decide<|0<=ZeU y key).length=((ks.take i).filter λy=>decide<|0<=ZeU y key).length+if 0<=ZeU y key then 1 else 0:=by
     rw[Zdw hy,List.length_append];by_cases hc:0<=ZeU y key
     .rw[if_pos hc,if_pos<|decide_eq_true hc];rfl
     .rw[if_neg hc,if_neg (by rw[decide_eq_false hc];decide)];rfl
    have hany:((ks.take<|i+1).any λy=>decide<|y=key)=(((ks.take i).any λy=>decide<|y=key) || decide (ZeU y key=0)):=by
     rw[Zx hy,List.any_append];congr 1;rw[List.any_cons,List.any_nil,Bool.or_false,Bool.eq_iff_iff,decide_eq_true_iff,decide_eq_true_iff,Zyv]
    have fin:∀c6:Int,c6=(((ks.take<|i+1).filter λy=>decide<|0<=ZeU y key).length:Int)->gd (.bool<|(ks.take i).any λy=>decide<|y=key) false (λk=>k (Iw<|ZeU y key) w8) w8 λt62 w=>gd (.bool<|(ks.take i).any λy=>decide<|y=key) false (λk=>bi .eql .i64 t62 (Iw 0) w k) w λt63 w=>pk (.bool<|(ks.take i).any λy=>decide<|y=key) Bt t63 w λt64 w=>bi .add .i64 (Iw i) (Iw 1) w λt65 w=>g1 [Iw c6,t64,t65] w:=by
     rintro _ rfl;cases hb8:(ks.take i).any λy=>decide (y=key) with
     | true=>
      rw[hb8,Bool.true_or] at hany;exact Zd (Zd<|Yv<|Qincs<|hg1 _ _ _ _ _ (by omega) ⟨i+1,by omega,rfl,rfl,rfl,by rw[hany],h8.drop⟩)
     | false=>
      rw[hb8,Bool.false_or] at hany;exact Zj<|Zj<|ZBD<|Yd<|Qincs<|hg1 _ _ _ _ _ (by omega) ⟨i+1,by omega,rfl,rfl,rfl,by rw[hany],h8.drop⟩
    refine ZGo<|J1.cut (λt6 w'=>t6=Iw (((ks.take<|i+1).filter λy=>decide<|0<=ZeU y key).length:Int)/\w'=w8) (λk2 hcut=>?_) ?_
    .by_cases hc:0<=ZeU y key
     .rw[decide_eq_true hc];rw[if_pos hc] at hfs;refine Zi<|Qincs<|hcut _ _ ⟨by rw[hfs],rfl⟩
     .rw[decide_eq_false hc];rw[if_neg hc] at hfs;exact Zf<|hcut _ _ ⟨by rw[hfs];rfl,rfl⟩
    .rintro _ _ ⟨rfl,rfl⟩;exact fin _ rfl
   .have ei:i=ks.length:=by omega
    rw[ei,List.take_length,<-hks,Zp3,Zwu];refine Zh<|Za<|Zb h5 2 rfl (v:=pt q) rfl<|ZoA (h5.pick 3 rfl) λv70 w6 h6=>?_;have hql:N.q.length<=64:=hX.ok.ql;refine Zru (p:=λm=>decide<|m.key=key) 0 rfl h6 (λ_=>Zp) (by omega) (λo ho w K h hk=>?_) λw7 h7=>?_
    .refine ⟨_,_,_,rfl,Zfa (t0:=.agg o.cs.toArray) (t1:=pt t5) ?_⟩;unfold Zfz;refine Yp (cs:=o.cs) h rfl λbb w8 h8=>Za<|Zo h8 0 (vs:=o.key.cs) rfl (by rfl) rfl ?_;refine Zo h8 10 (vs:=key.cs) rfl (by rfl) rfl ?_;refine ZFS (ns:=o.key.ns) (ms:=key.ns) ZYS ZYT ZZi (by decide) rfl ?_;rw[Key.eq_ns];exact hk _ h8.drop
    .refine hok hb _<|ZbQ hX<|h7.sn 10 [4,1,3,5,6,7,8]
  by_cases d1:key.T<N.fl
  .exact Ztt d1<|Zd<|Zd<|Zrb<|Zrb<|Zrb<|Zrb<|Zd<|Yv<|Zi<|early (.inl d1)
  refine Ze7 d1<|Zj<|Zj ?_;by_cases d2:0<=N.at' j
  .rw[decide_eq_true d2] at hq;subst hq;rw[hv d2];refine Ze<|Za<|Ze<|Zb h3 7 rfl (v:=Iw key.T) rfl<|Ze<|Ze<|Za7 (λd3=>Zj<|Yv<|Yd<|Zi<|early (.inr ⟨d2,d3⟩))<|λd3=>Zj<|Yv<|Yd<|Zf<|rest ?_;rintro (h | h)
   .exact d1 h
   .exact d3 h.2
  .rw[decide_eq_false d2] at hq;subst hq;refine Zu<|Zu<|Zu<|Zu<|Zj<|Yd<|Yd<|Zf<|rest ?_;rintro (h | h)
   .exact d1 h
   .exact d2 h.1
 by_cases d2:0<=N.at' j
 .rw[if_pos d2];exact key1 _ _ (by rw[decide_eq_true d2];rfl) λ_=>rfl
 .rw[if_neg d2];exact key1 _ _ (by rw[decide_eq_false d2];rfl) λh=>absurd h d2
theorem ZvN {X:WdX} {m:List<|Int × Int} (hX:Zk8 X wd f fd N k m):∀x∈N.past wd f fd,∀y∈x.outs,0<=y.To/\y.To<X.Feds.length:=λx hx y hy=>by
 obtain ⟨b,hb⟩:=(Zdm hx).2;rw[hb] at hy;have:=(ZnV hX.ok.may hX.ok.hfd b x.m).2 y hy;rw[hX.len];exact ⟨this.1,this.2.1⟩
theorem ZiV (h:WOk wd f fd N k):(Yq wd<|N.past wd f fd).length<=1000000:=by
 have h1:=Zu1 h.may h.hfd N.ms<|N.base fd;have h2:=h.ml;show (Yq wd<|Zc8 wd f fd (N.base fd) N.ms).length<=_;omega
theorem ZA2 {j:Int} {m:Msg} (hS:Sat e w<|Ya n wd f fd N k::Q)
  (h1:ZeE N j m.key->∀t w',Sat e w' (BT t m.key 110::Ya n wd f fd N k::Q)->K (.tuple #[Sn,erV t]) w')
  (h2:¬ZeE N j m.key->ZeQ m.key (N.ms++N.q)=true->∀t w',Sat e w' (BT t m.key 3::Ya n wd f fd N k::Q)->K (.tuple #[Sn,erV t]) w')
  (h3:¬ZeE N j m.key->ZeQ m.key (N.ms++N.q)=false->64<=N.q.length+(Yj m.key N.ms).length->∀t w',Sat e w' (BT t m.key 2::Ya n wd f fd N k::Q)->K (.tuple #[Sn,erV t]) w')
  (h4:¬ZeE N j m.key->ZeQ m.key (N.ms++N.q)=false->¬64<=N.q.length+(Yj m.key N.ms).length->WOk wd f fd ⟨N.old,ZbF m.key N.ms,Zkj m<|Yj m.key N.ms++N.q,N.fl,N.clk⟩ k/\
   ∀v w',Sat e w' (DI v (Zk4 wd<|ZiU wd f fd N m.key)::Ya n wd f fd ⟨N.old,ZbF m.key N.ms,Zkj m<|Yj m.key N.ms++N.q,N.fl,N.clk⟩ k::Q)->K (.tuple #[v,.nilIface]) w') :
  Cl prog 298 #[pt n,Iw j,.agg m.cs.toArray] w K:=by
 refine Zft ?_;unfold ZfQ;refine Yp (cs:=m.cs) hS rfl λt5 w1 hs1=>Za<|Zo hs1 0 (vs:=m.key.cs) rfl (by rfl) rfl ?_;refine ZCe hs1.swap (λhb t w2 hs2=>?_)<|λhb w2 hs2=>?_
 .exact Zid rfl<|Zid rfl<|Zid rfl<|Zid rfl<|Zus<|Zi<|h1 hb t _<|hs2.sn 3 [0,1]
 refine Zid rfl<|Zid rfl<|Zid rfl<|Zid rfl<|Zvk<|Zf ?_;have hat:ZeQ m.key (N.ms++N.q)=(ZeQ m.key N.q || ZeQ m.key N.ms):=by unfold ZeQ;rw[List.any_append,Bool.or_comm]
 have twice:ZeQ m.key (N.ms++N.q)=true->fld 0 (pt t5) w2 λt32 w=>ldN 3 t32 w λt33 w=>Cl prog 306 #[t33,Iw 3] w λt34 w=>K (Value.tuple #[Sn,t34]) w:=λhh=>by
  refine Za<|Zo hs2 1 (vs:=m.key.cs) rfl (by rfl) rfl ?_;exact Zqi hs2 λt w3 hs3=>h2 hb hh t _<|hs3.sn 3 [0,1]
 cases hq:ZeQ m.key N.q with
 | true=>
  rw[hq,Bool.true_or] at hat;exact Zd (Yv<|Zi<|twice hat)
 | false=>
  rw[hq,Bool.false_or] at hat;refine Zj<|Yd ?_;cases hm:ZeQ m.key N.ms with
  | true=>
   rw[hm] at hat;exact Zi (twice hat)
  | false=>
   rw[hm] at hat;refine Zf ?_;obtain ⟨X,q,p,g,b,mm,lv,hX,hs3⟩:=Zb4 hs2;refine Zh<|Za<|Zb hs3 0 rfl (v:=pt q) rfl<|Zun (hs3.pick 1 rfl) ?_;have hql:=hX.ok.ql;have hml:=hX.ok.ml;have hhl:(Yj m.key N.ms).length<=N.ms.length:=List.length_filter_le ..;refine Qadds<|Zu5 (λc=>Zi ?_)<|λc=>Zf ?_
   .refine Za<|Zo hs2 1 (vs:=m.key.cs) rfl (by rfl) rfl ?_;exact Zqi hs2 λt w3 hs3=>h3 hb hat (by omega) t _<|hs3.sn 3 [0,1]
   .obtain ⟨hN',hk⟩:=h4 hb hat (by omega);refine Za<|Zo hs3 7 (vs:=m.key.cs) rfl (by rfl) rfl ?_;refine ZxH (ZvN hX) (ZiV hX.ok) hs3 λv w4 hs4=>?_;rw[Znt hX.ok,ZpX hX.ok,ZqF hX.ok m.key (by omega),ZjY hX.ok,Zmw hX.ok,hX.eq] at hs4;refine ZaY hs4 λw5 hs5=>Zh<|Za<|Zb hs5 1 rfl (v:=pt q) rfl<|Zo hs5 8 (vs:=m.cs) rfl (by rfl) rfl ?_;refine ZnW (x:=m) (hs5.pick 2 rfl) λw6 hs6=>?_;have hpe:ZdT 64 (Yj m.key N.ms++N.q) m=0:=by
     rw[Ze8 λy hy=>ZuS.1 hat y ?_,if_neg (by rw[List.length_append];omega)];rcases List.mem_append.1 hy with h | h
     .exact List.mem_append_left _ (Zit.1 h).1
     .exact List.mem_append_right _ h
    have hpq:ZfX (Yj m.key N.ms++N.q) m=Zkj m (Yj m.key N.ms++N.q):=by unfold ZfX;rw[if_pos hpe]
    rw[hpq] at hs6;have hs7:=ZbQ (N:=⟨N.old,ZbF m.key N.ms,Zkj m<|Yj m.key N.ms++N.q,N.fl,N.clk⟩) (X:=X) (q:=q) (p:=p) (g:=g) (b:=b) (m:=mm) (lv:=lv) ⟨hX.eq,hX.short,hN',hX.map⟩<|hs6.sn 9 [2,0,3,4,5,6,7,1];exact hk v _<|hs7.sn 2 [1,0]
theorem ZsS {q:Nat} {l:List Msg} {key:Key} {x:Msg} (hx:x∈l) (hk':x.key=key) (hS:Sat e w<|IsQ q l::Q) (hk:∀v w',Sat e w' (IsQ q (without l key)::Q)->K v w') :
  Cl prog 309 #[pt q,.agg key.cs.toArray] w K:=by
 subst hk';obtain ⟨lh,hh,hp,hq,h1⟩:=ZBx hS;have hlen:=hp.length_eq;have hql:=hq.len;have hxl:x∈lh:=hp.mem_iff.1 hx;refine ZoC hxl (by omega) h1 λl' w2 hp2 hheap h2=>?_;exact hk _ _<|Zwk (hheap hh) (Zqt ((hp.map Msg.key).nodup_iff.1 hq.up.nodup) hp2 hp) (hq.without x.key) h2
theorem ZCN {j:Int} {m:Msg} (hj:N.at' j<0) (hS:Sat e w<|Ya n wd f fd N k::Q)
  (h1:m.key.T<N.fl->∀t w',Sat e w' (BT t m.key 110::Ya n wd f fd N k::Q)->K (.tuple #[Sn,erV t]) w')
  (h2:¬m.key.T<N.fl->ZeQ m.key N.q=true->WOk wd f fd ⟨N.old,N.ms,without N.q m.key,N.fl,N.clk⟩ k/\∀w',Sat e w' (Ya n wd f fd ⟨N.old,N.ms,without N.q m.key,N.fl,N.clk⟩ k::Q)->K (.tuple #[Sn,.nilIface]) w')
  (h3:¬m.key.T<N.fl->ZeQ m.key N.q=false->ZeQ m.key N.ms=false->∀t w',Sat e w' (BT t m.key 4::Ya n wd f fd N k::Q)->K (.tuple #[Sn,erV t]) w')
  (h4:¬m.key.T<N.fl->ZeQ m.key N.q=false->ZeQ m.key N.ms=true->65<N.q.length+(Yj m.key N.ms).length->∀t w',Sat e w' (BT t m.key 2::Ya n wd f fd N k::Q)->K (.tuple #[Sn,erV t]) w')
  (h5:¬m.key.T<N.fl->ZeQ m.key N.q=false->ZeQ m.key N.ms=true->¬65<N.q.length+(Yj m.key N.ms).length->WOk wd f fd ⟨N.old,ZbF m.key N.ms,without (Yj m.key N.ms++N.q) m.key,N.fl,N.clk⟩ k/\
   ∀v w',Sat e w' (DI v (Zk4 wd<|ZiU wd f fd N m.key)::Ya n wd f fd ⟨N.old,ZbF m.key N.ms,without (Yj m.key N.ms++N.q) m.key,N.fl,N.clk⟩ k::Q)->K (.tuple #[v,.nilIface]) w') :
  Cl prog 299 #[pt n,Iw j,.agg m.cs.toArray] w K:=by
 refine Zgv ?_;unfold Zhh;refine Yp (cs:=m.cs) hS rfl λt5 w1 hs1=>Za<|Zo hs1 0 (vs:=m.key.cs) rfl (by rfl) rfl ?_;rw[Z0i];refine Yp (cs:=Key.zero.cs) hs1 rfl λt8 w2 hs2=>Zq hs2 0 rfl (vs:=m.key.cs) rfl rfl (by decide) (Zg _) (cs':=m.key.cs) (by rfl) λw3 hs3=>?_
 replace hs3:Sat e w3 (blk t8 83 m.key.cs::blk t5 85 m.cs::Ya n wd f fd N k::Q):=hs3
 refine Zo hs3 0 (vs:=m.key.cs) rfl (by rfl) rfl ?_;have hea:ZeE N j m.key↔m.key.T<N.fl:=by unfold ZeE;omega
 refine ZCe (hs3.pick 2 rfl) (λhb t w4 hs4=>?_)<|λhb w4 hs4=>?_
 .exact Zid rfl<|Zid rfl<|Zid rfl<|Zid rfl<|Zus<|Zi<|h1 (hea.1 hb) t _<|hs4.sn 4 [0,1]
 have hb':¬m.key.T<N.fl:=λh=>hb (hea.2 h)
 replace hs4:Sat e w4 (Ya n wd f fd N k::blk t8 83 m.key.cs::blk t5 85 m.cs::Q):=hs4
 refine Zid rfl<|Zid rfl<|Zid rfl<|Zid rfl<|Zvk<|Zf ?_;obtain ⟨X,q,p,g,b,mm,lv,hX,hs5⟩:=Zb4 hs4;cases hq:ZeQ m.key N.q with
 | true=>
  obtain ⟨hN',hk⟩:=h2 hb' hq;obtain ⟨x,hx1,hx2⟩:=Zgl.1 hq;refine Zi<|ZaY hs5 λw6 hs6=>Zh<|Za<|Zb hs6 0 rfl (v:=pt q) rfl<|Zo hs6 7 (vs:=m.key.cs) rfl (by rfl) rfl ?_;refine ZsS hx1 hx2 (hs6.pick 1 rfl) λ_ w7 hs7=>?_;have hs8:=ZbQ (N:=⟨N.old,N.ms,without N.q m.key,N.fl,N.clk⟩) (X:=X) (q:=q) (p:=p) (g:=g) (b:=b) (m:=mm) (lv:=lv) ⟨hX.eq,hX.short,hN',hX.map⟩<|hs7.sn 7 [1,0,2,3,4,5,6];exact hk _ (hs8.sn 3 [0])
 | false=>
  refine Zf ?_;cases hm:ZeQ m.key N.ms with
  | false=>
   refine Zch<|Zi<|Zo hs4 1 (vs:=m.key.cs) rfl (by rfl) rfl ?_;exact Zqi hs4 λt w6 hs6=>h3 hb' hq hm t _ (hs6.sn 4 [0,1])
  | true=>
   refine ZaJ<|Zf<|Zh<|Za<|Zb hs5 0 rfl (v:=pt q) rfl<|Zun (hs5.pick 1 rfl) ?_;have hql:=hX.ok.ql;have hml:=hX.ok.ml;have hhl:(Yj m.key N.ms).length<=N.ms.length:=List.length_filter_le ..;refine Qadds<|Ztu (λc=>Zi ?_)<|λc=>Zf ?_
   .refine Zo hs4 1 (vs:=m.key.cs) rfl (by rfl) rfl ?_;exact Zqi hs4 λt w6 hs6=>h4 hb' hq hm (by omega) t _<|hs6.sn 4 [0,1]
   .obtain ⟨hN',hk⟩:=h5 hb' hq hm (by omega);refine Zo hs5 7 (vs:=m.key.cs) rfl (by rfl) rfl ?_;refine ZxH (ZvN hX) (ZiV hX.ok) hs5 λv w6 hs6=>?_;rw[Znt hX.ok,ZpX hX.ok,Zs5 hX.ok m.key hm (by omega),ZjY hX.ok,Zmw hX.ok,hX.eq] at hs6;have hs7:=ZbQ (N:=⟨N.old,ZbF m.key N.ms,without (Yj m.key N.ms++N.q) m.key,N.fl,N.clk⟩) (X:=X) (q:=q) (p:=p) (g:=g) (b:=b) (m:=mm) (lv:=lv) ⟨hX.eq,hX.short,hN',hX.map⟩<|hs6.sn 8 [1,2,3,4,5,6,7,0];exact hk v _<|hs7.sn 4 [1,0]
theorem Zvb {j:Int} {i:Zn} (h:0<=j/\j<wd.Feds.length/\j≠f):ZbE wd f fd N j i =
  if i.Kind=2 then (if N.at' j<0\/Yu i.m.key.T=false then ⟨1,[],N⟩ else if i.m.key.T<N.at' j then ⟨110,[],N⟩ else ⟨0,[],⟨N.old,N.ms,N.q,N.fl,N.clk.set j.toNat i.m.key.T⟩⟩)
  else if i.Kind=0 then (if i.m.key.T<N.fl\/(0<=N.at' j/\i.m.key.T<N.at' j) then ⟨110,[],N⟩ else if ZeQ i.m.key (N.ms++N.q)=true then ⟨3,[],N⟩ else if 64<=N.q.length+(Yj i.m.key N.ms).length then ⟨2,[],N⟩
   else ⟨0,Zk4 wd<|ZiU wd f fd N i.m.key,⟨N.old,ZbF i.m.key N.ms,Zkj i.m<|Yj i.m.key N.ms++N.q,N.fl,N.clk⟩⟩)
  else if i.Kind=1 then (if 0<=N.at' j then ⟨1,[],N⟩ else if i.m.key.T<N.fl then ⟨110,[],N⟩ else if ZeQ i.m.key N.q=true then ⟨0,[],⟨N.old,N.ms,without N.q i.m.key,N.fl,N.clk⟩⟩ else if ZeQ i.m.key N.ms=false then ⟨4,[],N⟩
   else if 65<N.q.length+(Yj i.m.key N.ms).length then ⟨2,[],N⟩ else ⟨0,Zk4 wd<|ZiU wd f fd N i.m.key,⟨N.old,ZbF i.m.key N.ms,without (Yj i.m.key N.ms++N.q) i.m.key,N.fl,N.clk⟩⟩)
  else ⟨130,[],N⟩:=by
 unfold ZbE;rw[if_neg<|λhn=>hn h]
theorem Zrs {j:Int} {i:Zn} (ht:ZmY i.m.key.T) (hS:Sat e w<|Ya n wd f fd N k::Q) (hk:∀v w',Sat e w' (DI v (ZbE wd f fd N j i).out::Ya n wd f fd (ZbE wd f fd N j i).N k::Q)->K (.tuple #[v,Iw (ZbE wd f fd N j i).e]) w') :
  Cl prog 295 #[pt n,Iw j,.agg i.cs.toArray] w K:=by
 have hWok:=(ZqK 0 hS rfl);have hN':=hWok.hear j i;generalize hR:ZbE wd f fd N j i=R at hk hN';refine Zgu ?_;unfold Zg0;refine Yp (cs:=i.cs) hS rfl λt5 w1 hs1=>?_;obtain ⟨X,q,p,g,b,mm,lv,hX,hs2⟩:=Zb4 hs1.swap;have bad:∀(er:Int) (w':World),R=⟨er,[],N⟩->Sat e w' (Ya n wd f fd N k::Q)->K (.tuple #[Sn,Iw er]) w':=by
  rintro er w' rfl h;exact hk _ _<|h.own_nil 88 8 Zn.cs
 have badj:¬(0<=j/\j<wd.Feds.length/\j≠f)->K (.tuple #[Sn,Iw 1]) w1:=λhn=>bad 1 _ (by rw[<-hR];exact if_pos hn)<|hs1.sn 2 [1];by_cases d1:j<0
 .exact Ztt d1<|Zd<|Zd<|Zd<|Zd<|Zd<|Zd<|Zd<|Zd<|Yv<|Zd<|Zd<|Zd<|Zd<|Zd<|Zd<|Yv<|Zi<|badj (λh=>by omega)
 refine Ze7 d1<|Zj<|Zj<|Zj<|Zwz<|Zj<|Za<|Zj<|Za<|Zj<|Zb hs2 0 rfl (v:=X.fv) rfl<|Zj<|Zt hs2 4 rfl (λg hg=>(Zct hg).feds) ?_;by_cases d2:(X.Feds.length:Int)<=j
 .exact Zj<|Zqv d2<|Yd<|Zd<|Zd<|Zd<|Zd<|Zd<|Zd<|Yv<|Zi<|badj (λh=>by have:=hX.len;omega)
 refine Zj<|ZnR d2<|Yd<|Zj<|Zj<|Zj<|Zwz<|Zj<|Za<|Zj<|Zb hs2 0 rfl (v:=Iw f) rfl<|Zj ?_;by_cases d3:j=f
 .exact Znq d3<|Yd<|Zi<|badj λh=>h.2.2 d3
 refine Zd8 d3<|Yd<|Zf ?_;have hargs:0<=j/\j<wd.Feds.length/\j≠f:=⟨by omega,by have:=hX.len;omega,d3⟩;have hRR:=Zvb (fd:=fd) (N:=N) (i:=i) hargs;rw[hR] at hRR;refine Zh<|Za<|Zb hs2 0 rfl (v:=.map<|some b) rfl<|ZsE ZXX ZXY hs2 5 rfl j ?_;rw[ZxM hX.map];have key1:∀(v22:Value) (q23:Bool),(q23=decide (0<=N.at' j))->(0<=N.at' j->v22=Iw (N.at' j))->
   xt 0 (.tuple #[v22,.bool q23]) w1 λt41 w=>xt 1 (.tuple #[v22,.bool q23]) w λt42 w=>fld 0 (pt t5) w λt43 w=>ld1 t43 w λt44 w=>
   J2 (λt8 t9 w=>Cl prog 300 #[t9] w λt91 w=>K (Value.tuple #[t8,t91]) w) λk1=>
   J0 (λw=>fld 0 (pt t5) w λt76 w=>ld1 t76 w λt77 w=>bi .eql .i64 t77 (Iw 1) w λt78 w=>
    J1 (λt13 w=>fld 1 (pt t5) w λt84 w=>ldN 6 t84 w λt85 w=>clV prog t13 #[Iw j,t85] w λt86 w=>xt 0 t86 w λt87 w=>xt 1 t86 w λt88 w=>k1 t87 t88 w) λk3=>
    Zr t78 (k3 (Value.func (Fn.func 299) #[pt n] #[]) w) (k3 (Value.func (Fn.func 298) #[pt n] #[]) w)) λk2=>
   bi .eql .i64 t44 (Iw 2) w λt46 w=>Zr t46
   (fld 1 (pt t5) w λt51 w=>fld 0 t51 w λt52 w=>fld 0 t52 w λt53 w=>ld1 t53 w λt54 w=>Zb3 t42 w λt57 w=>gd t57 false (λk=>k t54 w) w λt59 w=>gd t57 false (λk=>Cl prog 148 #[t59] w k) w λt60 w=>gd t57 false (λk=>Zb3 t60 w k) w λt61 w=>pk t57 Bt t61 w λt62 w=>Zr t62
    (K (Value.tuple #[Sn,Iw 1]) w)
    (bi .lss .i64 t54 t41 w λt66 w=>Zr t66 (K (Value.tuple #[Sn,Iw 110]) w)
     (ncP (pt n)<|fld 9 (pt n) w λt69 w=>ld1 t69 w λt70 w=>upM prog 160 t70 (Iw j) t54 w λ_ w=>K (Value.tuple #[Sn,Iw 0]) w)))
   (bi .eql .i64 t44 (Iw 1) w λt48 w=>Zr t48 (Zr t42 (K (Value.tuple #[Sn,Iw 1]) w)<|k2 w)
    (bi .eql .i64 t44 (Iw 0) w λt50 w=>Zr t50 (k2 w)<|K (Value.tuple #[Sn,Iw 130]) w)):=by
  intro v22 q23 hq hv;refine Zam<|Zal<|Za<|Zb hs2 7 rfl (v:=Iw i.Kind) rfl<|J2.cut (λt8 t9 w=>(R.e=0/\t9=.nilIface/\Sat e w (DI t8 R.out::Ya n wd f fd R.N k::Q))\/(ZtO R.e/\R=⟨R.e,[],N⟩/\t8=Sn/\∃t,t9=erV t/\Sat e w (BT t i.m.key R.e::Ya n wd f fd N k::Q))) (λk1 hk1=>?_) ?_;rotate_left
  .rintro t8 t9 w' (⟨h0,rfl,h⟩ | ⟨h0,h1,rfl,t,rfl,h⟩)
   .refine Zvr h λw2 h2=>?_;rw[<-h0];exact hk _ _ h2
   .exact ZzY h h0 λw2 h2=>bad R.e _ h1 h2
  refine J0.cut (λw'=>w'=w1/\(i.Kind=0\/(i.Kind=1/\N.at' j<0))) (λk2 hk2=>?_) ?_;rotate_left
  .rintro w' ⟨rfl,hkd⟩;refine Za<|Zb hs2 7 rfl (v:=Iw i.Kind) rfl<|ZBD ?_;have hback:∀{t:Nat} {er:Int} {w'},Sat e w' (BT t i.m.key er::Ya n wd f fd N k::blk t5 88 i.cs::Q)->Sat e w' (BT t i.m.key er::Ya n wd f fd N k::Q):=λh=>h.sn 3 [0,1];have hfail:∀{t:Nat} {er:Int} {w'},ZtO er->R=⟨er,[],N⟩->Sat e w' (BT t i.m.key er::Ya n wd f fd N k::blk t5 88 i.cs::Q)->k1 Sn (erV t) w':=λho hr h=>by
    refine hk1 _ _ _ (.inr ⟨by rw[hr];exact ho,by rw[hr],rfl,_,rfl,?_⟩);rw[hr];exact hback h
   have hs3:=hs1.swap;refine J1.cut (λt13 w2=>w2=w'/\((i.Kind=0/\t13=Value.func (Fn.func 298) #[pt n] #[])\/(i.Kind=1/\N.at' j<0/\t13=Value.func (Fn.func 299) #[pt n] #[]))) (λk3 hk3=>?_) ?_
   .rcases hkd with h0 | ⟨h0,h00⟩
    .rw[h0];exact Zf<|hk3 _ _ ⟨rfl,.inl ⟨h0,rfl⟩⟩
    .rw[h0];exact Zi<|hk3 _ _ ⟨rfl,.inr ⟨h0,h00,rfl⟩⟩
   rintro t13 _ ⟨rfl,hkk⟩;refine Za<|Zo hs1 0 (vs:=i.m.cs) rfl (by rfl) rfl ?_;rcases hkk with ⟨h0,rfl⟩ | ⟨h0,h00,rfl⟩
   .rw[if_neg (by omega),if_pos h0] at hRR;refine ⟨_,_,_,rfl,ZA2 (j:=j) (m:=i.m) hs3 (λc1 t w2 h=>?_) (λc1 c2 t w2 h=>?_) (λc1 c2 c3 t w2 h=>?_)<|λc1 c2 c3=>?_⟩
    .rw[if_pos (show i.m.key.T<N.fl\/(0<=N.at' j/\i.m.key.T<N.at' j) from c1)] at hRR;exact Zam<|Zal<|hfail (.inl rfl) hRR h
    .rw[if_neg (show ¬(i.m.key.T<N.fl\/(0<=N.at' j/\i.m.key.T<N.at' j)) from c1),if_pos c2] at hRR;exact Zam<|Zal<|hfail (.inr (.inl rfl)) hRR h
    .rw[if_neg (show ¬(i.m.key.T<N.fl\/(0<=N.at' j/\i.m.key.T<N.at' j)) from c1),if_neg (by rw[c2];decide),if_pos c3] at hRR;exact Zam<|Zal<|hfail (.inr (.inr (.inr rfl))) hRR h
    .rw[if_neg (show ¬(i.m.key.T<N.fl\/(0<=N.at' j/\i.m.key.T<N.at' j)) from c1),if_neg (by rw[c2];decide),if_neg c3] at hRR;subst hRR;exact ⟨hN',λv w2 h=>Zam<|Zal<|hk1 _ _ _ (.inl ⟨rfl,rfl,h.sn 3 [0,1]⟩)⟩
   .rw[if_neg (by omega),if_neg (by omega),if_pos h0,if_neg (by omega)] at hRR;refine ⟨_,_,_,rfl,ZCN (j:=j) (m:=i.m) h00 hs3 (λc1 t w2 h=>?_) (λc1 c2=>?_) (λc1 c2 c3 t w2 h=>?_) (λc1 c2 c3 c4 t w2 h=>?_)<|λc1 c2 c3 c4=>?_⟩
    .rw[if_pos c1] at hRR;exact Zam<|Zal<|hfail (.inl rfl) hRR h
    .rw[if_neg c1,if_pos c2] at hRR;subst hRR;exact ⟨hN',λw2 h=>Zam<|Zal<|hk1 _ _ _ (.inl ⟨rfl,rfl,(h.sn 2 [0]).own_nil 88 8 Zn.cs⟩)⟩
    .rw[if_neg c1,if_neg (by rw[c2];decide),if_pos c3] at hRR;exact Zam<|Zal<|hfail (.inr (.inr (.inl rfl))) hRR h
    .rw[if_neg c1,if_neg (by rw[c2];decide),if_neg (by rw[c3];decide),if_pos c4] at hRR;exact Zam<|Zal<|hfail (.inr (.inr (.inr rfl))) hRR h
    .rw[if_neg c1,if_neg (by rw[c2];decide),if_neg (by rw[c3];decide),if_neg c4] at hRR;subst hRR;exact ⟨hN',λv w2 h=>Zam<|Zal<|hk1 _ _ _ (.inl ⟨rfl,rfl,h.sn 3 [0,1]⟩)⟩
  have hsame:Sat e w1 (Ya n wd f fd N k::Q):=hs1.sn 2 [1];refine ZoR (λc1=>Zi ?_)<|λc1=>Zf ?_
  .rw[if_pos c1] at hRR;refine Za<|Za<|Za<|Zb hs2 7 rfl (v:=Iw i.m.key.T) rfl ?_;by_cases d4:0<=N.at' j
   .rw[decide_eq_true d4] at hq;subst hq;rw[hv d4];refine ZaJ<|Zj<|Zj<|ZcO ht<|Zj ?_;cases hval:Yu i.m.key.T with
    | false=>
     rw[if_pos (.inr hval)] at hRR;exact Zch (Yd<|Zi<|bad 1 _ hRR hsame)
    | true=>
     rw[if_neg<|λh=>h.elim (λh=>by omega) (λh=>by rw[hval] at h;cases h)] at hRR;refine ZaJ<|Yd<|Zf<|Za7 (λc2=>Zi ?_)<|λc2=>Zf ?_
     .rw[if_pos c2] at hRR;exact bad 110 _ hRR hsame
     .rw[if_neg c2] at hRR;subst hRR;have hvb:=ZlM hval;refine Zh<|Za<|Zb hs2 0 rfl (v:=.map<|some b) rfl<|ZsG ZXX ZXY hX.map.u (hs2.pick 5 rfl) j i.m.key.T (vf:=kI) rfl λw3 h3=>?_;have h4:=ZbQ (N:=⟨N.old,N.ms,N.q,N.fl,N.clk.set j.toNat i.m.key.T⟩) (X:=X) (q:=q) (p:=p) (g:=g) (b:=b) (m:=upA mm j i.m.key.T) (lv:=lv) ⟨hX.eq,hX.short,hN',hX.map.up d4 hvb.1⟩<|h3.sn 8 [1,2,3,4,5,0,6];exact hk _ _<|h4.own_nil 88 8 Zn.cs
   .rw[decide_eq_false d4] at hq;subst hq;rw[if_pos (.inl<|by omega)] at hRR;exact Zch<|Zd<|Zd<|Zd<|Yv<|Zi<|bad 1 _ hRR hsame
  .rw[if_neg c1] at hRR;refine ZoR (λc2=>Zi ?_)<|λc2=>Zf ?_
   .rw[if_neg (by omega),if_pos c2] at hRR;by_cases d4:0<=N.at' j
    .rw[decide_eq_true d4] at hq;subst hq;rw[if_pos d4] at hRR;exact Zi<|bad 1 _ hRR hsame
    .rw[decide_eq_false d4] at hq;subst hq;exact Zf<|hk2 _ ⟨rfl,.inr ⟨c2,by omega⟩⟩
   .refine ZoR (λc3=>Zi<|hk2 _ ⟨rfl,.inl c3⟩)<|λc3=>Zf ?_;rw[if_neg c3,if_neg c2] at hRR;exact bad 130 _ hRR hsame
 by_cases d4:0<=N.at' j
 .rw[if_pos d4];exact key1 _ _ (by rw[decide_eq_true d4];rfl) λ_=>rfl
 .rw[if_neg d4];exact key1 _ _ (by rw[decide_eq_false d4];rfl) λh=>absurd h d4
theorem ZmE (l:List Int):ZaP l<=Inf/\(∀x∈l,ZaP l<=ZaD x)/\(ZaP l=Inf\/∃x∈l,ZaP l=ZaD x):=by
 refine ⟨ZsY l,λx hx=>ZoZ hx,?_⟩;unfold ZaP;have key:∀(l:List Int) (n:Int),l.foldl (λn t=>min n<|ZaD t) n=n\/∃x∈l,l.foldl (λn t=>min n<|ZaD t) n=ZaD x:=by
  intro l;induction l with
  | nil=>exact λn=>.inl rfl
  | cons a l ih=>
   intro n;rw[List.foldl_cons];rcases ih (min n<|ZaD a) with h | ⟨x,hx,h⟩
   .rcases Int.le_total n (ZaD a) with h2 | h2
    .left;omega
    .right;exact ⟨a,List.mem_cons_self ..,by omega⟩
   .right;exact ⟨x,List.mem_cons_of_mem _ hx,h⟩
 exact key l Inf
theorem ZsL {a b:List Int} (h:∀x,x∈a↔x∈b):ZaP a=ZaP b:=by
 obtain ⟨a1,a2,a3⟩:=ZmE a;obtain ⟨b1,b2,b3⟩:=ZmE b;have h1:ZaP a<=ZaP b:=by
  rcases b3 with h3 | ⟨x,hx,h3⟩
  .omega
  .have:=a2 x<|(h x).2 hx;omega
 have h2:ZaP b<=ZaP a:=by
  rcases a3 with h3 | ⟨x,hx,h3⟩
  .omega
  .have:=b2 x<|(h x).1 hx;omega
 omega
theorem ZwT {m:List<|Int × Int} (h:Zr8 N.clk m) (x:Int):x∈m.map (·.2)↔x∈N.clk.filter λt=>decide (0<=t):=by
 rw[List.mem_filter,decide_eq_true_iff];constructor
 .intro hx;obtain ⟨⟨j,y⟩,hp,rfl⟩:=List.mem_map.1 hx;have hf:lkA m j=some y:=by
   unfold lkA;rw[ZlB h.u hp];rfl
  rw[h.lk j] at hf;split at hf
  .rename_i h0;have hy:Zc9 N.clk j=y:=Option.some.inj hf;rw[hy] at h0;refine ⟨?_,h0⟩;unfold Zc9 at hy;split at hy
   .rw[List.getD_eq_getElem?_getD] at hy;cases hg:N.clk[j.toNat]? with
    | none=>rw[hg] at hy;simp at hy;show y∈N.clk;omega
    | some z=>rw[hg] at hy;simp at hy;subst hy;exact List.mem_of_getElem? hg
   .show y∈N.clk;omega
  .cases hf
 .rintro ⟨hx,h0⟩;obtain ⟨i,hi⟩:=List.getElem?_of_mem hx;have hc:Zc9 N.clk i=x:=by
   unfold Zc9;rw[if_pos (by omega),Int.toNat_natCast,List.getD_eq_getElem?_getD,hi];rfl
  have hl:=h.lk i;rw[hc,if_pos h0] at hl;unfold lkA at hl;obtain ⟨p,hp,hv⟩:=Option.map_eq_some_iff.1 hl;exact List.mem_map.2 ⟨p,List.mem_of_find?_eq_some hp,hv⟩
theorem Zmu:∀x:Int,∀v∈Ye .i64 x,flat v=true:=λ_ _ h=>by simp[Ye] at h;subst h;rfl
theorem ZnA {α:Type}:∀(l:List α) (i:Nat) (x:α),l[i]?=some x->l.Perm (x::l.eraseIdx i)
 | [],i,x,h=>by simp at h
 | y::l,0,x,h=>by
  simp at h;subst h;exact List.Perm.refl _
 | y::l,i+1,x,h=>by
  simp only[List.getElem?_cons_succ] at h;simp only[List.eraseIdx_cons_succ];exact ((ZnA l i x h).cons y).trans<|List.Perm.swap _ _ _
theorem ZkN (hS:Sat e w<|Ya n wd f fd N k::Q) (hk:∀w',Sat e w' (Ya n wd f fd N k::Q)->K (Iw<|ZcM N) w'):Cl prog 96 #[pt n] w K:=by
 refine ZfJ ?_;unfold ZfF;obtain ⟨X,q,p,g,b,m,lv,hX,h1⟩:=Zb4 hS;refine Zh<|Za<|Zb h1 0 rfl (v:=pt q) rfl<|Zlv (h1.pick 1 rfl) λw2 h2=>Zam<|Zal ?_;rw[ZOc];refine Yp (cs:=Msg.zero.cs) h2 rfl λt4 w3 h3=>Zq h3 0 rfl (vs:=(hdM N.q).cs) rfl rfl (by decide) (Zg _) (cs':=(hdM N.q).cs) (by rfl) λw4 h4=>?_
 replace h4:Sat e w4 (blk t4 85 (hdM N.q).cs::IsQ q N.q::BW n X f (N.now fd).1 (N.now fd).2 q p g b lv::Yf p N.fl (N.past wd f fd)::Yo g N.fl (Yq wd<|N.past wd f fd)::Zag X::Zaj kI kI b m::DD lv (N.log wd f fd)::Q):=h4
 generalize hbase:(if ZjD N.q=true then [(hdM N.q).key.T] else [])=base;have hbl:base.length<=1:=by rw[<-hbase];split <;> simp
 refine J1.cut (λt3 w=>Sat e w<|Zz 3 1 (Ye .i64) t3 base::IsQ q N.q::BW n X f (N.now fd).1 (N.now fd).2 q p g b lv::Yf p N.fl (N.past wd f fd)::Yo g N.fl (Yq wd<|N.past wd f fd)::Zag X::Zaj kI kI b m::DD lv (N.log wd f fd)::Q) (λk1 hk1=>?_) ?_
 .cases hq:ZjD N.q with
  | false=>
   rw[hq,if_neg (by decide)] at hbase;subst hbase;exact Zf (hk1 _ _<|h4.drop.own_nil 3 1<|Ye .i64)
  | true=>
   rw[hq,if_pos rfl] at hbase;subst hbase;refine Zi<|Za<|Za<|Zb h4 0 rfl (v:=Iw (hdM N.q).key.T) rfl<|Zj7 Zvs (f:=Ye .i64) (λ_=>rfl) Zmu (h4.own_nil 3 1<|Ye .i64) (x:=(hdM N.q).key.T) rfl (by simp) λv w5 h5=>hk1 _ _ ?_;exact h5.sn 2 [0]
 intro t3 w5 h5;refine Zh<|Za<|Zb h5 2 rfl (v:=.map<|some b) rfl<|ZB0 Z0e (h5.pick 6 rfl) λr w6 h6=>?_;have hml:=hX.map.len;refine Zdk (λmm t w=>∃(ys:List Int) (rem:List<|Int × Int) (cur:Option<|Int × Int),Sat e w (ZwS kI kI b r m rem cur::Zz 3 1 (Ye .i64) t ys::IsQ q N.q::BW n X f (N.now fd).1 (N.now fd).2 q p g b lv::Yf p N.fl (N.past wd f fd)::Yo g N.fl (Yq wd<|N.past wd f fd)::Zag X::DD lv (N.log wd f fd)::Q)/\
  (∀x,(x∈ys\/x∈rem.map (·.2))↔(x∈base\/x∈m.map (·.2)))/\ys.length+rem.length<=1001/\mm=rem.length) m.length
  ⟨base,m,none,h6,λx=>Iff.rfl,by omega,rfl⟩ ?_
 rintro mm t w7 g1 ⟨ys,rem,cur,h7,hmem,hlen,rfl⟩ hg1;refine ZBW h7 (λhr w8 h8=>?_)<|λi pr w8 hp h8=>?_
 .refine Zid rfl<|Zf<|Zeu (l:=ys) (h8.pick 1 rfl) (λ_=>Zp) (by omega) λw9 h9=>?_;have he:ZaP ys=ZcM N:=by
   unfold ZcM;rw[hbase];refine ZsL λx=>?_;have:=hmem x;rw[hr,List.map_nil] at this;rw[List.mem_append,<-ZwT hX.map x]
   simpa using this
  rw[he];have h10:=(h9.swap).imp Zsr;exact hk _<|ZbQ hX<|h10.sn 8 [3,2,4,5,6,0,7]
 .refine Zid rfl<|Zi<|ZCg 0 h8 rfl<|Zid rfl<|Zj7 Zvs (f:=Ye .i64) (λ_=>rfl) Zmu (h8.pick 1 rfl) (x:=pr.2) rfl (by omega) λv w9 h9=>?_;have hil:=(List.getElem?_eq_some_iff.1 hp).1;have hpm:pr∈rem:=List.mem_of_getElem? hp;have hperm:=ZnA rem i pr hp;have hle:(rem.eraseIdx i).length+1=rem.length:=by have:=hperm.length_eq;rw[List.length_cons] at this;omega
  refine hg1 _ _ _ (by omega) ⟨ys++[pr.2],rem.eraseIdx i,some pr,h9.swap,λx=>?_,by rw[List.length_append,List.length_singleton];omega,rfl⟩;rw[<-hmem x,(hperm.map (·.2)).mem_iff,List.map_cons,List.mem_cons,List.mem_append,List.mem_singleton];constructor
  .rintro ((h | h) | h)
   .exact .inl h
   .exact .inr (.inl h)
   .exact .inr (.inr h)
  .rintro (h | h | h)
   .exact .inl (.inl h)
   .exact .inl (.inr h)
   .exact .inr h
end Go.Proofs.YtceipnkeijhebaaGreat
end
