/- Texts of the proof, joined. Conditions: none. -/
import Derived.Test.YtceipnkeijhebaaGreatS0
import Derived.Test.YtceipnkeijhebaaGreatProg
import Derived.KernelRfl
import Derived.Maps.RangeRun
section
namespace Go.E
open Go.RowKit
variable {P:Program} {w:World} {K:KV}
def slA (P:Program) (t:TypeId) (x:Value) (lo hi:Option Value) (w:World) (K:KV):Prop:=ex P (oV<|Instr.sliceAt t x lo hi none) w K
def meM (P:Program) (t:TypeId) (m k:Value) (w:World) (K:KV):Prop:=ex P (oV<|Instr.mapEntry t m k) w K
def esM (P:Program) (t:TypeId) (m s x:Value) (w:World) (K:KV):Prop:=ex P (oU<|Instr.entryStore t m s x) w K
def clI (P:Program) (x:Value) (name:String) (args:Array Value) (w:World) (K:KV):Prop:=ex P (invoke (.fn (.method name) #[])<|#[x]++args) w K
theorem Zrj {t:TypeId} {v rcv:Value} {name:String} {f:FuncId} {args:Array Value} (hm:(Go.method (P.types.size+Made.depth) t v name).run P w=.ok (f,rcv) w) (h:Cl P f (#[rcv]++args) w K):clI P (.iface t v) name args w K:=by
 refine Zi5 ?_ h;have h1:(#[Value.iface t v]++args)[0]?=some (Value.iface t v):=by rw[Array.getElem?_append_left (by simp)];rfl
 have h2:(#[Value.iface t v]++args).extract 1 (#[Value.iface t v]++args).size=args:=by
  apply Array.ext';simp
 simp only[invoke,h1,h2,callMethod,Sem.run_bind];have h3:(program).run P w=.ok P w:=rfl;rw[h3];simp only[Result.andThen_ok,hm]
def ldT (P:Program) (t:TypeId) (x:Value) (w:World) (K:KV):Prop:=match okT P t,Zb7 P t with
 | true,true=>ldN (szD P t) x w K
 | true,false=>ld1 x w K
 | false,_=>False
theorem ZuC {t:TypeId} {x:Value} (h:ldT P t x w K):∃a v,x=.pointer (some a)/\(loadVar t a).run P w=.ok v w/\K v w:=by
 unfold ldT at h;split at h
 .rename_i ho ha;obtain ⟨d,i,z,hd,hi,hz,hs,hg,hz'⟩:=Za9 ho;obtain ⟨a',vs,hx,hn,hc,hk⟩:=h;exact ⟨a',_,hx,ZkU hd hi (hg▸ha) (hs▸hn) hc,hk⟩
 .rename_i ho ha;obtain ⟨d,i,z,hd,hi,hz,hs,hg,hz'⟩:=Za9 ho;obtain ⟨a',v,hx,hc,hk⟩:=h;exact ⟨a',v,hx,ZkE hd (hg▸ha) hc,hk⟩
 .exact h.elim
def Zx9:Nat × Option TypeId->ResultVar
 | (t,none)=>.tmp t
 | (t,some y)=>.cell t y
def ZFI (vs:List Value):Value:=match vs with
 | [v]=>v
 | _=>.tuple vs.toArray
def ZvW (P:Program):List (Nat × Option TypeId)->List Value->Ev->World->KV->Prop
 | [],vs,_,w,K=>K (ZFI vs) w
 | (t,none)::l,vs,ρ,w,K=>ZvW P l (vs++[ρ t]) ρ w K
 | (t,some y)::l,vs,ρ,w,K=>ldT P y (ρ t) w λv _=>ZvW P l (vs++[v]) ρ w K
theorem Zod {nt m:Nat} {a:Act} {ρ:Ev} (ha:Agr nt m a ρ) :
  ∀(rs:List<|Nat × Option TypeId) (vs:List Value),(∀r∈rs,m.testBit r.1=true)->ZvW P rs vs ρ w K->∃us,(∀(g:ResultVar->Sem Value),(∀t,g (.tmp t)=pure (a.tmps.getD t undef))->(∀t y,g (.cell t y)=(do loadVar y (<-asAddr (a.tmps.getD t undef))))->((rs.map Zx9).mapM g).run P w=.ok us w)/\K (ZFI<|vs++us) w
 | [],vs,_,h=>⟨[],λg _ _=>by simp,by simpa [ZvW] using h⟩
 | (t,none)::l,vs,hm,h=>by
  obtain ⟨us,k1,k2⟩:=Zod ha l (vs++[ρ t]) (λr hr=>hm r<|by simp[hr]) h;refine ⟨ρ t::us,λg h1 h2=>?_,by simpa using k2⟩;have k1:=k1 g h1 h2;have he:=ha.2.2 t<|hm (t,none) (by simp);simp only[List.map_cons,Zx9,List.mapM_cons,Sem.run_bind,h1,Sem.run_pure,Result.andThen_ok,k1,he]
 | (t,some y)::l,vs,hm,h=>by
  obtain ⟨a',v,hx,hl,hk⟩:=ZuC (K:=λv _=>ZvW P l (vs++[v]) ρ w K) h;obtain ⟨us,k1,k2⟩:=Zod ha l (vs++[v]) (λr hr=>hm r<|by simp[hr]) hk;refine ⟨v::us,λg h1 h2=>?_,by simpa using k2⟩;have k1:=k1 g h1 h2;have he:=ha.2.2 t<|hm (t,some y) (by simp);simp only[List.map_cons,Zx9,List.mapM_cons,Sem.run_bind,h2,Sem.run_pure,Result.andThen_ok,he,hx,asAddr,hl,k1]
theorem Zdr {fn:Func} {rs:List<|Nat × Option TypeId} (hr:fn.results=(rs.map Zx9).toArray) {nt m:Nat} {a:Act} {ρ:Ev} (ha:Agr nt m a ρ) (hm:∀r∈rs,m.testBit r.1=true) (h:ZvW P rs [] ρ w K) :
  ∃v,(results fn a.tmps).run P w=.ok v w/\K v w:=by
 obtain ⟨us,k1,k2⟩:=Zod ha rs [] hm h;refine ⟨ZFI us,?_,by simpa using k2⟩;unfold results;rw[hr,Array.mapM_eq_mapM_toList];simp only[Sem.run_bind,Sem.run_map];rw[k1 _ (λ_=>rfl)<|λ_ _=>rfl];simp only[Result.andThen_ok,Sem.run_pure];congr 1;unfold ZFI
 match us with
 | []=>rfl
 | [v]=>rfl
 | v::u::l=>simp
def ZGt (P:Program) (nt:Nat) (rs:List<|Nat × Option TypeId) (c:Code) (args:Array Value) (w:World) (K:KV):Prop:=
 cw P nt (Zgs<|rs.map (·.1)) c (Zgs<|rs.map (·.1)) (λ_=>0) ⟨λρ w=>ZvW P rs [] ρ w K,λ_ _ _=>False,λρ w=>ZvW P rs [] ρ w K⟩ (Ev.init args) w
def ZEZ (P:Program) (nt:Nat) (rs:List<|Nat × Option TypeId) (c:Code):Bool:=Zf6 P nt (Zgs<|rs.map (·.1)) c (Zgs<|rs.map (·.1))<|λ_=>0
theorem ZoF {f:FuncId} {fn:Func} {c:Code} {args:Array Value} {nt:Nat} {rs:List<|Nat × Option TypeId} (hm:P.follows .mixedOrders=true)
  (hf:P.funcs[f]?=some fn) (hb:fn.body=some c) (hn:fn.ntmps=nt) (hr:fn.results=(rs.map Zx9).toArray) (hargs:args.size<=nt) (hok:ZEZ P nt rs c=true)
  (h:ZGt P nt rs c args w K):Zdi P f args w K:=by
 have hmem:∀r∈rs,(Zgs<|rs.map (·.1)).testBit r.1=true:=λr hr=>Zfs<|List.mem_map.2 ⟨r,hr,rfl⟩;refine calls_of_wp hf hb<|wpIn_wide (n:=0).1<|Zac (ro:=none) hm c _ _ _ (Ev.init args) _ w _ (.inl rfl) hok ⟨by simp[hn];omega,rfl,λt _=>?_⟩ ?_ ?_ ?_ h
 .simp only[Ev.init,Array.getD_eq_getD_getElem?,Array.getElem?_append];split
  .rfl
  .rename_i hge;rw[Array.getElem?_eq_none (xs:=args) (by omega)];cases hx:(Array.replicate (fn.ntmps - args.size) undef)[t - args.size]? with
   | none=>rfl
   | some v=>
    simp only[Array.getElem?_replicate] at hx;split at hx
    .cases hx;rfl
    .cases hx
 .intro ρ' a' w' k1 k2 _;obtain ⟨v,k3,k4⟩:=Zdr hr k2 hmem k1;exact ⟨k2.2.1,_,k3,_,rfl,k4⟩
 .intro id ρ' a' w' k1;exact k1.elim
 .intro ρ' a' w' k1 k2;obtain ⟨v,k3,k4⟩:=Zdr hr k2 hmem k1;exact ⟨k2.2.1,_,k3,_,rfl,k4⟩
theorem Zab {f:FuncId} {fn:Func} {args:Array Value} {nt:Nat} {rs:List<|Nat × Option TypeId} {F:Prop} (hm:P.follows .mixedOrders=true)
  (hf:P.funcs[f]?=some fn) (hs:(match fn.body with | some _=>true | none=>false)=true) (hn:fn.ntmps=nt) (hr:fn.results=(rs.map Zx9).toArray) (hargs:args.size<=nt)
  (hok:ZEZ P nt rs (match fn.body with | some c=>c | none=>.skip)=true) (he:F=ZGt P nt rs (match fn.body with | some c=>c | none=>.skip) args w K) (h:F):Zdi P f args w K:=by
 cases hb:fn.body with
 | none=>rw[hb] at hs;cases hs
 | some c=>
  rw[hb] at hok he;exact ZoF hm hf hb hn hr hargs hok<|he▸h
end Go.E
end
section
namespace Go.E
open Go.RowKit
def Ev.putL (ρ:Ev):List (Nat × Value)->Ev
 | []=>ρ
 | (t,v)::l=>Ev.putL (ρ.upd t v) l
def bgn (l:Nat) (w:World) (K:World->Prop):Prop:=∃r,w.heap[l]?=some (.loop r)/\r.state=.ready/\K (w.putObj l (.loop { r with state:=.busy }))
def edn (l:Nat) (w:World) (K:World->Prop):Prop:=∃r,w.heap[l]?=some (.loop r)/\K (w.putObj l (.loop { r with state:=.ready,pending:=none }))
def Zz7 (D:Nat) (w:World) (K:World->Prop):Prop:=w.heap[D]?=some (.deferred<|some [])/\K (w.putObj D (.deferred none))
def rdW (P:Program) (nt:Nat) (ps:List Nat) (asx bd:Code) (ρ:Ev) (l:Nat) (args:Nat->Value) (w:World) (k:World->Prop):Prop:=
 cw P nt 0 asx (lv 0 bd 0<|λ_=>0) (λ_=>0) ⟨λρ1 w1=>bgn l w1 λw2=>cw P nt 0 bd 0 (λ_=>0) ⟨λ_ w3=>edn l w3 k,λ_ _ _=>False,λ_ _=>False⟩ ρ1 w2,λ_ _ _=>False,λ_ _=>False⟩ (ρ.putL<|ps.zip<|(List.range ps.length).map args) w
def lvR (asx bd:Code):Nat:=lv 0 asx (lv 0 bd 0<|λ_=>0)<|λ_=>0
structure ZcX (nt:Nat) (ps:List Nat) (asx bd:Code) (ρ:Ev) (r:Loop):Prop where
 params:r.params=ps.toArray
 assign:r.assign=asx
 body:r.body=bd
 size:r.tmps.size=nt
 agr:∀t,(lvR asx bd).testBit t=true->r.tmps.getD t undef=ρ t
theorem ZcX.turn {nt:Nat} {ps:List Nat} {asx bd:Code} {ρ:Ev} {r:Loop} (h:ZcX nt ps asx bd ρ r) (st:LoopState) (pd:Option Code):ZcX nt ps asx bd ρ { r with state:=st,pending:=pd }:=
 ⟨h.params,h.assign,h.body,h.size,h.agr⟩
theorem Zmj {m nt:Nat}:∀(l:List<|Nat × Value) (tmps:Array Value) (ρ:Ev),(∀x∈l,x.1<nt)->ZdN [] nt m { tmps:=tmps,defers:=[] } ρ->
  ZdN [] nt m { tmps:=l.foldl (λ(tmps:Array Value) (x:Nat × Value)=>tmps.setIfInBounds x.1 x.2) tmps,defers:=[] } (ρ.putL l)
 | [],_,_,_,h=>h
 | (t,v)::l,tmps,ρ,hl,h=>by
  refine Zmj l (tmps.setIfInBounds t v) (ρ.upd t v) (λx hx=>hl x<|List.mem_cons_of_mem _ hx) ?_;have h1:=(h.put (d:=some t) (v:=v)<|λt' ht=>by cases ht;exact hl (t,v) List.mem_cons_self).mono (m':=m) (λt ht=>by simp[ht]);exact h1
section
variable {P:Program} {w:World} {K:KV}
theorem ZwK (hm:P.follows .mixedOrders=true) {nt l:Nat} {ps:List Nat} {asx bd:Code} {ρ:Ev} {r:Loop} {args:Array Value} (hr:w.heap[l]?=some (.loop r)) (hf:ZcX nt ps asx bd ρ r) (hs:args.size=ps.length)
  (hps:ps.all (λt=>decide<|t<nt)=true) (hda:ZaT asx=true) (hdb:ZaT bd=true) (hoa:Zf6 P nt 0 asx (lv 0 bd 0<|λ_=>0) (λ_=>0)=true) (hob:Zf6 P nt 0 bd 0 (λ_=>0)=true)
  (h:rdW P nt ps asx bd ρ l (λi=>args.getD i undef) w λw'=>K Bt w'):ex P (Instr.yield l args) w K:=by
 unfold ex;rw[run_yield hr (by rw[hf.params];simpa using hs)];show RoundIn Fence.wide 0 P l r.fn _ r.assign r.body w _;rw[hf.assign,hf.body];refine roundIn_of_wpIn trivial ?_;have hzip:(r.params.zip args).toList=ps.zip args.toList:=by rw[hf.params,Array.toList_zip]
 have hargs:(List.range ps.length).map (λi=>args.getD i undef)=args.toList:=by
  apply List.ext_getElem
  .simp[hs]
  .intro i h1 h2;simp at h2;simp[Array.getD_eq_getD_getElem?,h2]
 unfold rdW at h;rw[hargs] at h;have hag:ZdN [] nt (lvR asx bd) { tmps:=(r.params.zip args).foldl (λtmps (x:Nat × Value)=>tmps.setIfInBounds x.1 x.2) r.tmps,defers:=[] } (ρ.putL<|ps.zip args.toList):=by
  rw[<-Array.foldl_toList,hzip];refine Zmj _ _ _ (λx hx=>?_) ⟨hf.size,rfl,hf.agr⟩;exact of_decide_eq_true<|List.all_eq_true.1 hps x.1 (List.of_mem_zip hx).1
 refine Zac (ro:=some l) hm asx (lv 0 bd 0<|λ_=>0) (λ_=>0) _ _ _ w _ (.inr hda) hoa hag ?_ ?_ ?_ h
 .rintro ρ1 a1 w1 ⟨r1,h1,h2,h3⟩ ha1 _;refine ⟨_,run_beginRound h1 h2,Zac (ro:=some l) hm bd 0 (λ_=>0) _ _ _ _ _ (.inr hdb) hob ha1 ?_ ?_ ?_ h3⟩
  .rintro ρ2 a2 w2 ⟨r2,h4,h5⟩ _ _;exact ⟨_,_,run_endRound none h4,_,rfl,h5⟩
  .rintro _ _ _ _ hF _ _;exact hF.elim
  .rintro _ _ _ hF _;exact hF.elim
 .rintro _ _ _ _ hF _ _;exact hF.elim
 .rintro _ _ _ hF _;exact hF.elim
def rfW (P:Program) (gv:Value) (np:Nat) (Bd:Nat->(Nat->Value)->World->(World->Prop)->Prop) (w:World) (Kn:Nat->World->Prop):Prop:=
 ∀(LR:Loop->Prop),(∀r st pd,LR r->LR { r with state:=st,pending:=pd })->
  (∀(r:Loop) (W:World) (l:Nat) (args:Array Value) (K:KV),LR r->W.heap[l]?=some (.loop r)->args.size=np->Bd l (λi=>args.getD i undef) W (λW'=>K Bt W')->ex P (Instr.yield l args) W K)->
  ∀r,LR r->r.state=.ready->r.pending=none->
  ∃f2 first captured,gv=.func (.func f2) first captured/\ZdL P f2=true/\Cl P f2 (first++#[.func (.yield<|w.heap.size+1) #[] #[]]++captured) ((w.alloc (.deferred<|some [])).alloc (.loop r)) λ_ w3=>
   ∃r',w3.heap[w.heap.size+1]?=some (.loop r')/\r'.state≠.busy/\r'.pending=none/\Kn w.heap.size (w3.putObj (w.heap.size+1) (.loop { r' with state:=.exhausted }))
def ZGi (P:Program) (nt:Nat) (rs:List Nat) (A B C E:Code) (g:Operand) (ps:List Nat) (asx bd:Code) (args:Array Value) (w:World) (K:KV):Prop:=
 let rl:=Zgs rs;let lE:=lv rl E rl<|λ_=>0;let lC:=lE ||| ZAC g ||| lvR asx bd
 let lB:=lv rl C lC<|λ_=>0;let lA:=lv rl B lB (λ_=>0)
 cw P nt rl A lA (λ_=>0) ⟨λρ w=>cw P nt rl B lB (λ_=>0) ⟨λρ w=>cw P nt rl C lC (λ_=>0) ⟨λρ w=>
  rfW P (ρ.opd g) ps.length (λl args W k=>rdW P nt ps asx bd ρ l args W k) w λD w=>
   cw P nt rl E rl (λ_=>0) ⟨λρ' w'=>Zz7 D w' λw''=>K (ZBO rs ρ') w'',λ_ _ _=>False,λ_ _=>False⟩ ρ w,
  λ_ _ _=>False,λ_ _=>False⟩ ρ w,λ_ _ _=>False,λ_ _=>False⟩ ρ w,λ_ _ _=>False,λ_ _=>False⟩ (Ev.init args) w
def Zue (P:Program) (nt:Nat) (rs:List Nat) (A B C E:Code) (g:Operand) (ps:List Nat) (asx bd:Code):Bool:=
 let rl:=Zgs rs;let lE:=lv rl E rl<|λ_=>0;let lC:=lE ||| ZAC g ||| lvR asx bd
 let lB:=lv rl C lC<|λ_=>0;let lA:=lv rl B lB (λ_=>0)
 Zf6 P nt rl A lA (λ_=>0)&&Zf6 P nt rl B lB (λ_=>0)&&Zf6 P nt rl C lC (λ_=>0)&&Zf6 P nt rl E rl (λ_=>0)&&
 ps.all (λt=>decide<|t<nt)&&ZaT asx&&ZaT bd&&Zf6 P nt 0 asx (lv 0 bd 0<|λ_=>0) (λ_=>0)&&Zf6 P nt 0 bd 0 (λ_=>0)&&(match g with | .tmp _=>true | _=>false)
theorem ZnS {f:FuncId} {fn:Func} {args:Array Value} {nt i:Nat} {rs:List Nat} {A B C E:Code} {g:Operand} {ps:List Nat} {asx bd:Code} (hm:P.follows .mixedOrders=true)
  (hf:P.funcs[f]?=some fn) (hb:fn.body=some (.seq A (.seq B (.seq (.seq C (.block i (.rangeFunc g ps.toArray asx bd))) (.seq E .ret))))) (hn:fn.ntmps=nt) (hr:fn.results=(rs.map ResultVar.tmp).toArray) (hargs:args.size<=nt)
  (hok:Zue P nt rs A B C E g ps asx bd=true) (h:ZGi P nt rs A B C E g ps asx bd args w K):Zdi P f args w K:=by
 unfold Zue at hok;simp only[Bool.and_eq_true] at hok;obtain ⟨⟨⟨⟨⟨⟨⟨⟨⟨hA,hB⟩,hC⟩,hE⟩,hps⟩,hda⟩,hdb⟩,hoa⟩,hob⟩,hg⟩:=hok;refine callsIn_wide (n:=0).1<|callsIn_of_wp_marks hf hb trivial ?_ rfl;unfold ZGi at h;have hno:∀{p:Prop},False->p:=λh=>h.elim;refine wpIn_seq<|Zac (ro:=none) hm A _ _ _ _ _ w _ (.inl rfl) hA (⟨by simp[hn];omega,rfl,λt _=>?_⟩:ZdN [] nt _ _<|Ev.init args) ?_ ?_ ?_ h
 .simp only[Ev.init,Array.getD_eq_getD_getElem?,Array.getElem?_append];split
  .rfl
  .rename_i hge;rw[Array.getElem?_eq_none (xs:=args) (by omega)];cases hx:(Array.replicate (fn.ntmps - args.size) undef)[t - args.size]? with
   | none=>rfl
   | some v=>
    simp only[Array.getElem?_replicate] at hx;split at hx
    .cases hx;rfl
    .cases hx
 rotate_left
 .exact λ_ _ _ _ hF _ _=>hF.elim
 .exact λ_ _ _ hF _=>hF.elim
 intro ρ1 a1 w1 h1 ha1 _;refine wpIn_seq<|Zac (ro:=none) hm B _ _ _ _ _ w1 _ (.inl rfl) hB ha1 ?_ ?_ ?_ h1;rotate_left
 .exact λ_ _ _ _ hF _ _=>hF.elim
 .exact λ_ _ _ hF _=>hF.elim
 intro ρ2 a2 w2 h2 ha2 _;refine wpIn_seq<|wpIn_seq<|Zac (ro:=none) hm C _ _ _ _ _ w2 _ (.inl rfl) hC ha2 ?_ ?_ ?_ h2;rotate_left
 .exact λ_ _ _ _ hF _ _=>hF.elim
 .exact λ_ _ _ hF _=>hF.elim
 intro ρ3 a3 w3 h3 ha3 _;refine wpIn_block<|wpIn_rangeFunc λfn' _=>?_;have hev:a3.eval g=ρ3.opd g:=ha3.opd (l:=[g]) (λt ht=>by
  simp only[Zra,List.foldr_cons,List.foldr_nil,Nat.or_zero] at ht;simp[ht]) g (by simp)
 obtain ⟨f2,first,captured,hgv,hbody,hcl⟩:=h3 (ZcX nt ps asx bd ρ3) (λr st pd hr=>hr.turn st pd)
  (λr W l args K hr hW hs hB=>ZwK hm hW hr hs hps hda hdb hoa hob hB)
  { state:=.ready,pending:=none,fn:=fn',tmps:=a3.tmps,params:=ps.toArray,assign:=asx,body:=bd,defers:=w3.heap.size }
  ⟨rfl,rfl,rfl,ha3.1,λt ht=>ha3.2.2 t<|by simp[ht]⟩ rfl rfl
 refine ⟨w3.heap.size+1,[{ target:=.collected w3.heap.size,args:=#[] }],(w3.alloc (.deferred<|some [])).alloc (.loop { state:=.ready,pending:=none,fn:=fn',tmps:=a3.tmps,params:=ps.toArray,assign:=asx,body:=bd,defers:=w3.heap.size }),{ target:=.fn (.func f2) captured,args:=first++#[.func (.yield<|w3.heap.size+1) #[] #[]] },(w3.alloc (.deferred<|some [])).alloc (.loop { state:=.ready,pending:=none,fn:=fn',tmps:=a3.tmps,params:=ps.toArray,assign:=asx,body:=bd,defers:=w3.heap.size }),f2,first++#[.func (.yield<|w3.heap.size+1) #[] #[]]++captured,(w3.alloc (.deferred<|some [])).alloc (.loop { state:=.ready,pending:=none,fn:=fn',tmps:=a3.tmps,params:=ps.toArray,assign:=asx,body:=bd,defers:=w3.heap.size }),run_enterLoop_outer fn' a3.tmps ps.toArray asx bd,?_,λ_ _=>trivial,?_,(λh=>by cases h),callsIn_wide.2<|Calls.mono (Cl.ret hbody hcl) ?_⟩
 .have he:a3.eval g=.func (.func f2) first captured:=hev.trans hgv
  simp only[resolve,he,Deferred.ofValue,List.map_toArray,List.map_cons,List.map_nil];rfl
 .exact Zcu hbody
 .rintro ev w5 ⟨v,rfl,r',hr1,hr2,hr3,hr4⟩;rw[hr3] at hr4;refine ⟨none,_,by rw[run_endLoop hr1 hr2,hr3],?_⟩;show Exit.inBlock _ _ .normal _ _;refine wpIn_seq<|Zac (ro:=none) (ds:=[{ target:=.collected w3.heap.size,args:=#[] }]) hm E _ _ _ _ _ _ _ (.inl rfl) hE ?_ ?_ ?_ ?_ hr4
  .exact ⟨ha3.1,by rw[ha3.2.1];rfl,λt ht=>ha3.2.2 t<|by simp[ht]⟩
  .rintro ρ4 a4 w6 ⟨hD,hK⟩ ha4 _;refine wpIn_ret ?_;show LeavesInM _ _ _ _ _ _ a4.defers _ _;rw[ha4.2.1];refine ⟨by simp,.inl ⟨_,_,rfl,run_takeDeferred hD,?_⟩⟩;exact ⟨_,Zia hr (⟨ha4.1,rfl,ha4.2.2⟩:ZdN [] nt _ { a4 with defers:=[] } ρ4) (λt ht=>Zfs ht) _,_,rfl,hK⟩
  .exact λ_ _ _ _ hF _ _=>hF.elim
  .exact λ_ _ _ hF _=>hF.elim
def ZEB (P:Program) (nt:Nat) (rs:List Nat) (b:Option Code) (args:Array Value) (w:World) (K:KV):Prop:=
 match b with
 | some (.seq A (.seq B (.seq (.seq C (.block _ (.rangeFunc g ps asx bd))) (.seq E .ret))))=>ZGi P nt rs A B C E g ps.toList asx bd args w K
 | _=>False
def Zuw (P:Program) (nt:Nat) (rs:List Nat) (b:Option Code):Bool:=
 match b with
 | some (.seq A (.seq B (.seq (.seq C (.block _ (.rangeFunc g ps asx bd))) (.seq E .ret))))=>Zue P nt rs A B C E g ps.toList asx bd
 | _=>false
theorem Zm6 {f:FuncId} {fn:Func} {args:Array Value} {nt:Nat} {rs:List Nat} (hm:P.follows .mixedOrders=true)
  (hf:P.funcs[f]?=some fn) (hn:fn.ntmps=nt) (hr:fn.results=(rs.map ResultVar.tmp).toArray) (hargs:args.size<=nt)
  (hok:Zuw P nt rs fn.body=true) {X:Prop} (hX:X=ZEB P nt rs fn.body args w K) (h:X):Zdi P f args w K:=by
 rw[hX] at h;unfold ZEB at h;unfold Zuw at hok;split at h
 .rename_i A B C j g ps asx bd E hb;rw[hb] at hok;exact ZnS (i:=j) (ps:=ps.toList) hm hf (by rw[hb,Array.toArray_toList]) hn hr hargs hok h
 .exact h.elim
def lpC (LR:Loop->Prop) (l:Nat) (st:LoopState):HP:=λh=>(∀r st pd,LR r->LR { r with state:=st,pending:=pd })/\∃r,LR r/\r.state=st/\r.pending=none/\h l=some (.loop r)
def dfC (D:Nat):HP:=λh=>h D=some (.deferred<|some [])
variable {e:World} {R:List HP} {LR:Loop->Prop} {l:Nat}
theorem ZhR {st:LoopState} (hS:Sat e w<|lpC LR l st::R):(∀r st pd,LR r->LR { r with state:=st,pending:=pd })/\∃r,LR r/\r.state=st/\r.pending=none/\Sat e w ((λh=>h l=some (.loop r))::R):=by
 obtain ⟨h1,h2,d,s1,s2,⟨hc,r,h3,h4,h5,h6⟩,h7⟩:=hS.mem;exact ⟨hc,r,h3,h4,h5,hS.of_mem λ_=>⟨h1,h2,d,s1,s2,h6,h7⟩⟩
theorem ZcS {o:Obj} {b:Nat} (hS:Sat e w<|(λh=>h b=some o)::R):w.heap[b]?=some o:=by
 obtain ⟨g,hg,hs⟩:=hS.get 0 rfl;exact hs _ _ hg
theorem ZB7 {K:World->Prop} (hS:Sat e w<|lpC LR l .ready::R) (hk:∀w',Sat e w' (lpC LR l .busy::R)->K w'):bgn l w K:=by
 obtain ⟨hc,r,h1,h2,h3,h4⟩:=ZhR hS;refine ⟨r,ZcS h4,h2,hk _ ?_⟩;have h5:Sat e (w.putObj l (.loop { r with state:=.busy })) ((λh=>h l=some (.loop { r with state:=.busy }))::R):=h4.setB;exact h5.imp λg hg=>⟨hc,_,hc r .busy r.pending h1,rfl,h3,hg⟩
theorem ZwR {K:World->Prop} (hS:Sat e w<|lpC LR l .busy::R) (hk:∀w',Sat e w' (lpC LR l .ready::R)->K w'):edn l w K:=by
 obtain ⟨hc,r,h1,h2,h3,h4⟩:=ZhR hS;refine ⟨r,ZcS h4,hk _ ?_⟩;have h5:Sat e (w.putObj l (.loop { r with state:=.ready,pending:=none })) ((λh=>h l=some (.loop { r with state:=.ready,pending:=none }))::R):=h4.setB;exact h5.imp λg hg=>⟨hc,_,hc r .ready none h1,rfl,rfl,hg⟩
theorem Zvn {K:World->Prop} {D:Nat} (hS:Sat e w<|dfC D::R) (hk:∀w',Sat e w' R->K w'):Zz7 D w K:=by
 refine ⟨ZcS (o:=.deferred<|some []) hS,hk _ ?_⟩;have h5:Sat e (w.putObj D (.deferred none)) ((λh=>h D=some (.deferred none))::R):=Sat.setB (o:=.deferred<|some []) hS;exact h5.drop
theorem ZHL {gv:Value} {np:Nat} {Bd:Nat->(Nat->Value)->World->(World->Prop)->Prop} {Kn:Nat->World->Prop} {f2:FuncId} {captured:Array Value} (hg:gv=.func (.func f2) #[] captured) (hb:ZdL P f2=true) (hS:Sat e w R)
  (h:∀(l D:Nat) (LR:Loop->Prop) (w1:World) (Kf:World->Prop),
   (∀{e W:World} {R:List HP} {args:Array Value} {K:KV},Sat e W (lpC LR l .ready::R)->args.size=np->Bd l (λi=>args.getD i undef) W (λW'=>K Bt W')->clV P (.func (.yield l) #[] #[]) args W K)->
   (∀{W:World} {R:List HP},Sat e W (lpC LR l .ready::R)->(∀W',Sat e W' R->Kn D W')->Kf W)->
   Sat e w1 (lpC LR l .ready::dfC D::R)->Cl P f2 (#[.func (.yield l) #[] #[]]++captured) w1 λ_ W=>Kf W):rfW P gv np Bd w Kn:=by
 intro LR hc hy r hr hst hpd;refine ⟨f2,#[],captured,hg,hb,?_⟩;have h1:=(hS.alloc (.deferred<|some [])).alloc (.loop r);rw[World.size_alloc] at h1;refine h (w.heap.size+1) w.heap.size LR _ _ ?_ ?_<|h1.imp λg hg=>⟨hc,r,hr,hst,hpd,hg⟩
 .intro e W R args K hW hs hB;obtain ⟨_,r,k1,k2,k3,k4⟩:=ZhR hW;refine ⟨_,_,_,rfl,?_⟩;show ex P (Instr.yield _<|#[]++args) W K;rw[Array.empty_append];exact hy r W _ args K k1 (ZcS k4) hs hB
 .intro W R hW hK;obtain ⟨_,r,k1,k2,k3,k4⟩:=ZhR hW;refine ⟨r,ZcS k4,by rw[k2];exact (by decide),k3,hK _ ?_⟩;have h5:Sat e (W.putObj (w.heap.size+1) (.loop { r with state:=.exhausted })) ((λh=>h (w.heap.size+1)=some (.loop { r with state:=.exhausted }))::R):=k4.setB;exact h5.drop
end
end Go.E
end
section
namespace Go.E
open Go.RowKit
def edr (l:Nat) (w:World) (K:World->Prop):Prop:=∃r,w.heap[l]?=some (.loop r)/\K (w.putObj l (.loop { r with state:=.done,pending:=some .ret }))
def ZFT (P:Program) (nt:Nat) (ps:List Nat) (asx bd:Code) (ρ:Ev) (l:Nat) (args:Nat->Value) (w:World) (k:KV):Prop:=
 cw P nt 0 asx (lv 0 bd 0<|λ_=>0) (λ_=>0) ⟨λρ1 w1=>bgn l w1 λw2=>cw P nt 0 bd 0 (λ_=>0) ⟨λ_ w3=>edn l w3 λw4=>k Bt w4,λ_ _ _=>False,λ_ w3=>edr l w3 λw4=>k Bf w4⟩ ρ1 w2,λ_ _ _=>False,λ_ _=>False⟩ (ρ.putL<|ps.zip<|(List.range ps.length).map args) w
section
variable {P:Program} {w:World} {K:KV}
theorem ZuM (hm:P.follows .mixedOrders=true) {nt l:Nat} {ps:List Nat} {asx bd:Code} {ρ:Ev} {r:Loop} {args:Array Value} (hr:w.heap[l]?=some (.loop r)) (hf:ZcX nt ps asx bd ρ r) (hs:args.size=ps.length)
  (hps:ps.all (λt=>decide<|t<nt)=true) (hda:ZaT asx=true) (hdb:ZaT bd=true) (hoa:Zf6 P nt 0 asx (lv 0 bd 0<|λ_=>0) (λ_=>0)=true) (hob:Zf6 P nt 0 bd 0 (λ_=>0)=true)
  (h:ZFT P nt ps asx bd ρ l (λi=>args.getD i undef) w K):ex P (Instr.yield l args) w K:=by
 unfold ex;rw[run_yield hr (by rw[hf.params];simpa using hs)];show RoundIn Fence.wide 0 P l r.fn _ r.assign r.body w _;rw[hf.assign,hf.body];refine roundIn_of_wpIn trivial ?_;have hzip:(r.params.zip args).toList=ps.zip args.toList:=by rw[hf.params,Array.toList_zip]
 have hargs:(List.range ps.length).map (λi=>args.getD i undef)=args.toList:=by
  apply List.ext_getElem
  .simp[hs]
  .intro i h1 h2;simp at h2;simp[Array.getD_eq_getD_getElem?,h2]
 unfold ZFT at h;rw[hargs] at h;have hag:ZdN [] nt (lvR asx bd) { tmps:=(r.params.zip args).foldl (λtmps (x:Nat × Value)=>tmps.setIfInBounds x.1 x.2) r.tmps,defers:=[] } (ρ.putL<|ps.zip args.toList):=by
  rw[<-Array.foldl_toList,hzip];refine Zmj _ _ _ (λx hx=>?_) ⟨hf.size,rfl,hf.agr⟩;exact of_decide_eq_true<|List.all_eq_true.1 hps x.1 (List.of_mem_zip hx).1
 refine Zac (ro:=some l) hm asx (lv 0 bd 0<|λ_=>0) (λ_=>0) _ _ _ w _ (.inr hda) hoa hag ?_ ?_ ?_ h
 .rintro ρ1 a1 w1 ⟨r1,h1,h2,h3⟩ ha1 _;refine ⟨_,run_beginRound h1 h2,Zac (ro:=some l) hm bd 0 (λ_=>0) _ _ _ _ _ (.inr hdb) hob ha1 ?_ ?_ ?_ h3⟩
  .rintro ρ2 a2 w2 ⟨r2,h4,h5⟩ _ _;exact ⟨_,_,run_endRound none h4,_,rfl,h5⟩
  .rintro _ _ _ _ hF _ _;exact hF.elim
  .rintro ρ2 a2 w2 ⟨r2,h4,h5⟩ _;exact ⟨_,_,run_endRound (some .ret) h4,_,rfl,h5⟩
 .rintro _ _ _ _ hF _ _;exact hF.elim
 .rintro _ _ _ hF _;exact hF.elim
def ZFR (P:Program) (gv:Value) (np:Nat) (Bd:Nat->(Nat->Value)->World->KV->Prop) (w:World) (Kn Kr:Nat->World->Prop):Prop:=
 ∀(LR:Loop->Prop),(∀r st pd,LR r->LR { r with state:=st,pending:=pd })->
  (∀(r:Loop) (W:World) (l:Nat) (args:Array Value) (K:KV),LR r->W.heap[l]?=some (.loop r)->args.size=np->Bd l (λi=>args.getD i undef) W K->ex P (Instr.yield l args) W K)->
  ∀r,LR r->r.state=.ready->r.pending=none->
  ∃f2 first captured,gv=.func (.func f2) first captured/\ZdL P f2=true/\Cl P f2 (first++#[.func (.yield<|w.heap.size+1) #[] #[]]++captured) ((w.alloc (.deferred<|some [])).alloc (.loop r)) λ_ w3=>
   ∃r',w3.heap[w.heap.size+1]?=some (.loop r')/\r'.state≠.busy/\
    ((r'.pending=none/\Kn w.heap.size (w3.putObj (w.heap.size+1) (.loop { r' with state:=.exhausted })))\/(r'.pending=some .ret/\Kr w.heap.size (w3.putObj (w.heap.size+1) (.loop { r' with state:=.exhausted }))))
def Zz0 (P:Program) (nt:Nat) (rs:List<|Nat × Option TypeId) (A C E:Code) (g:Operand) (ps:List Nat) (asx bd:Code) (args:Array Value) (w:World) (K:KV):Prop:=
 let rl:=Zgs<|rs.map (·.1);let lE:=lv rl E rl<|λ_=>0;let lC:=lE ||| rl ||| ZAC g ||| lvR asx bd
 let lA:=lv rl C lC (λ_=>0)
 cw P nt rl A lA (λ_=>0) ⟨λρ w=>cw P nt rl C lC (λ_=>0) ⟨λρ w=>
  ZFR P (ρ.opd g) ps.length (λl args W k=>ZFT P nt ps asx bd ρ l args W k) w
   (λD w=>cw P nt rl E rl (λ_=>0) ⟨λρ' w'=>Zz7 D w' λw''=>ZvW P rs [] ρ' w'' K,λ_ _ _=>False,λ_ _=>False⟩ ρ w)
   (λD w=>Zz7 D w λw''=>ZvW P rs [] ρ w'' K),
  λ_ _ _=>False,λ_ _=>False⟩ ρ w,λ_ _ _=>False,λ_ _=>False⟩ (Ev.init args) w
def Zq4 (P:Program) (nt:Nat) (rs:List<|Nat × Option TypeId) (A C E:Code) (g:Operand) (ps:List Nat) (asx bd:Code):Bool:=
 let rl:=Zgs<|rs.map (·.1);let lE:=lv rl E rl<|λ_=>0;let lC:=lE ||| rl ||| ZAC g ||| lvR asx bd
 let lA:=lv rl C lC (λ_=>0)
 Zf6 P nt rl A lA (λ_=>0)&&Zf6 P nt rl C lC (λ_=>0)&&Zf6 P nt rl E rl (λ_=>0)&&
 ps.all (λt=>decide<|t<nt)&&ZaT asx&&ZaT bd&&Zf6 P nt 0 asx (lv 0 bd 0<|λ_=>0) (λ_=>0)&&Zf6 P nt 0 bd 0 (λ_=>0)&&(match g with | .tmp _=>true | _=>false)
theorem ZmS {f:FuncId} {fn:Func} {args:Array Value} {nt i:Nat} {rs:List<|Nat × Option TypeId} {A C E:Code} {g:Operand} {ps:List Nat} {asx bd:Code} (hm:P.follows .mixedOrders=true)
  (hf:P.funcs[f]?=some fn) (hb:fn.body=some (.seq A (.seq (.seq C (.block i (.rangeFunc g ps.toArray asx bd))) (.seq E .ret)))) (hn:fn.ntmps=nt) (hr:fn.results=(rs.map Zx9).toArray) (hargs:args.size<=nt)
  (hok:Zq4 P nt rs A C E g ps asx bd=true) (h:Zz0 P nt rs A C E g ps asx bd args w K):Zdi P f args w K:=by
 unfold Zq4 at hok;simp only[Bool.and_eq_true] at hok;obtain ⟨⟨⟨⟨⟨⟨⟨⟨hA,hC⟩,hE⟩,hps⟩,hda⟩,hdb⟩,hoa⟩,hob⟩,hg⟩:=hok;have hmem:∀r∈rs,(Zgs<|rs.map (·.1)).testBit r.1=true:=λr hr=>Zfs<|List.mem_map.2 ⟨r,hr,rfl⟩;refine callsIn_wide (n:=0).1<|callsIn_of_wp_marks hf hb trivial ?_ rfl;unfold Zz0 at h;refine wpIn_seq<|Zac (ro:=none) hm A _ _ _ _ _ w _ (.inl rfl) hA (⟨by simp[hn];omega,rfl,λt _=>?_⟩:ZdN [] nt _ _<|Ev.init args) ?_ ?_ ?_ h
 .simp only[Ev.init,Array.getD_eq_getD_getElem?,Array.getElem?_append];split
  .rfl
  .rename_i hge;rw[Array.getElem?_eq_none (xs:=args) (by omega)];cases hx:(Array.replicate (fn.ntmps - args.size) undef)[t - args.size]? with
   | none=>rfl
   | some v=>
    simp only[Array.getElem?_replicate] at hx;split at hx
    .cases hx;rfl
    .cases hx
 rotate_left
 .exact λ_ _ _ _ hF _ _=>hF.elim
 .exact λ_ _ _ hF _=>hF.elim
 intro ρ1 a1 w2 h2 ha2 _;refine wpIn_seq<|wpIn_seq<|Zac (ro:=none) hm C _ _ _ _ _ w2 _ (.inl rfl) hC ha2 ?_ ?_ ?_ h2;rotate_left
 .exact λ_ _ _ _ hF _ _=>hF.elim
 .exact λ_ _ _ hF _=>hF.elim
 intro ρ3 a3 w3 h3 ha3 _;refine wpIn_block<|wpIn_rangeFunc λfn' _=>?_;have hev:a3.eval g=ρ3.opd g:=ha3.opd (l:=[g]) (λt ht=>by
  simp only[Zra,List.foldr_cons,List.foldr_nil,Nat.or_zero] at ht;simp[ht]) g (by simp)
 obtain ⟨f2,first,captured,hgv,hbody,hcl⟩:=h3 (ZcX nt ps asx bd ρ3) (λr st pd hr=>hr.turn st pd)
  (λr W l args K hr hW hs hB=>ZuM hm hW hr hs hps hda hdb hoa hob hB)
  { state:=.ready,pending:=none,fn:=fn',tmps:=a3.tmps,params:=ps.toArray,assign:=asx,body:=bd,defers:=w3.heap.size }
  ⟨rfl,rfl,rfl,ha3.1,λt ht=>ha3.2.2 t<|by simp[ht]⟩ rfl rfl
 refine ⟨w3.heap.size+1,[{ target:=.collected w3.heap.size,args:=#[] }],(w3.alloc (.deferred<|some [])).alloc (.loop { state:=.ready,pending:=none,fn:=fn',tmps:=a3.tmps,params:=ps.toArray,assign:=asx,body:=bd,defers:=w3.heap.size }),{ target:=.fn (.func f2) captured,args:=first++#[.func (.yield<|w3.heap.size+1) #[] #[]] },(w3.alloc (.deferred<|some [])).alloc (.loop { state:=.ready,pending:=none,fn:=fn',tmps:=a3.tmps,params:=ps.toArray,assign:=asx,body:=bd,defers:=w3.heap.size }),f2,first++#[.func (.yield<|w3.heap.size+1) #[] #[]]++captured,(w3.alloc (.deferred<|some [])).alloc (.loop { state:=.ready,pending:=none,fn:=fn',tmps:=a3.tmps,params:=ps.toArray,assign:=asx,body:=bd,defers:=w3.heap.size }),run_enterLoop_outer fn' a3.tmps ps.toArray asx bd,?_,λ_ _=>trivial,?_,(λh=>by cases h),callsIn_wide.2<|Calls.mono (Cl.ret hbody hcl) ?_⟩
 .have he:a3.eval g=.func (.func f2) first captured:=hev.trans hgv
  simp only[resolve,he,Deferred.ofValue,List.map_toArray,List.map_cons,List.map_nil];rfl
 .exact Zcu hbody
 .rintro ev w5 ⟨v,rfl,r',hr1,hr2,hr3⟩;rcases hr3 with ⟨hr3,hr4⟩ | ⟨hr3,hr4⟩
  .rw[hr3] at hr4;refine ⟨none,_,by rw[run_endLoop hr1 hr2,hr3],?_⟩;show Exit.inBlock _ _ .normal _ _;refine wpIn_seq<|Zac (ro:=none) (ds:=[{ target:=.collected w3.heap.size,args:=#[] }]) hm E _ _ _ _ _ _ _ (.inl rfl) hE ?_ ?_ ?_ ?_ hr4
   .exact ⟨ha3.1,by rw[ha3.2.1];rfl,λt ht=>ha3.2.2 t<|by simp[ht]⟩
   .rintro ρ4 a4 w6 ⟨hD,hK⟩ ha4 _;refine wpIn_ret ?_;show LeavesInM _ _ _ _ _ _ a4.defers _ _;rw[ha4.2.1];refine ⟨by simp,.inl ⟨_,_,rfl,run_takeDeferred hD,?_⟩⟩;obtain ⟨v,k3,k4⟩:=Zdr hr (⟨ha4.1,rfl,ha4.2.2⟩:ZdN [] nt _ { a4 with defers:=[] } ρ4) hmem hK;exact ⟨_,k3,_,rfl,k4⟩
   .exact λ_ _ _ _ hF _ _=>hF.elim
   .exact λ_ _ _ hF _=>hF.elim
  .rw[hr3] at hr4;refine ⟨some .ret,_,by rw[run_endLoop hr1 hr2,hr3],?_⟩;obtain ⟨hD,hK⟩:=hr4;refine wpIn_ret ?_;show LeavesInM _ _ _ _ _ _ (_++a3.defers) _ _;rw[ha3.2.1];refine ⟨by simp,.inl ⟨_,_,rfl,run_takeDeferred hD,?_⟩⟩;obtain ⟨v,k3,k4⟩:=Zdr hr (⟨ha3.1,rfl,ha3.2.2⟩:ZdN [] nt _ { a3 with defers:=[] } ρ3) (λr hr=>by simp[hmem r hr]) hK;exact ⟨_,k3,_,rfl,k4⟩
def Zx1 (P:Program) (nt:Nat) (rs:List<|Nat × Option TypeId) (b:Option Code) (args:Array Value) (w:World) (K:KV):Prop:=
 match b with
 | some (.seq A (.seq (.seq C (.block _ (.rangeFunc g ps asx bd))) (.seq E .ret)))=>Zz0 P nt rs A C E g ps.toList asx bd args w K
 | _=>False
def ZrS (P:Program) (nt:Nat) (rs:List<|Nat × Option TypeId) (b:Option Code):Bool:=
 match b with
 | some (.seq A (.seq (.seq C (.block _ (.rangeFunc g ps asx bd))) (.seq E .ret)))=>Zq4 P nt rs A C E g ps.toList asx bd
 | _=>false
theorem Zlq {f:FuncId} {fn:Func} {args:Array Value} {nt:Nat} {rs:List<|Nat × Option TypeId} (hm:P.follows .mixedOrders=true)
  (hf:P.funcs[f]?=some fn) (hn:fn.ntmps=nt) (hr:fn.results=(rs.map Zx9).toArray) (hargs:args.size<=nt)
  (hok:ZrS P nt rs fn.body=true) {X:Prop} (hX:X=Zx1 P nt rs fn.body args w K) (h:X):Zdi P f args w K:=by
 rw[hX] at h;unfold Zx1 at h;unfold ZrS at hok;split at h
 .rename_i A C j g ps asx bd E hb;rw[hb] at hok;exact ZmS (i:=j) (ps:=ps.toList) hm hf (by rw[hb,Array.toArray_toList]) hn hr hargs hok h
 .exact h.elim
variable {e:World} {R:List HP} {LR:Loop->Prop} {l:Nat}
def lpD (LR:Loop->Prop) (l:Nat):HP:=λh=>∃r,LR r/\r.state=.done/\r.pending=some .ret/\h l=some (.loop r)
theorem ZGj {K:World->Prop} (hS:Sat e w<|lpC LR l .busy::R) (hk:∀w',Sat e w' (lpD LR l::R)->K w'):edr l w K:=by
 obtain ⟨hc,r,h1,h2,h3,h4⟩:=ZhR hS;refine ⟨r,ZcS h4,hk _ ?_⟩;have h5:Sat e (w.putObj l (.loop { r with state:=.done,pending:=some .ret })) ((λh=>h l=some (.loop { r with state:=.done,pending:=some .ret }))::R):=h4.setB;exact h5.imp λg hg=>⟨_,hc r .done (some .ret) h1,rfl,rfl,hg⟩
theorem ZF0 {gv:Value} {np:Nat} {Bd:Nat->(Nat->Value)->World->KV->Prop} {Kn Kr:Nat->World->Prop} {f2:FuncId} {captured:Array Value} (hg:gv=.func (.func f2) #[] captured) (hb:ZdL P f2=true) (hS:Sat e w R)
  (h:∀(l D:Nat) (LR:Loop->Prop) (w1:World) (Kf:World->Prop),
   (∀{e W:World} {R:List HP} {args:Array Value} {K:KV},Sat e W (lpC LR l .ready::R)->args.size=np->Bd l (λi=>args.getD i undef) W K->clV P (.func (.yield l) #[] #[]) args W K)->
   (∀{W:World} {R:List HP},Sat e W (lpC LR l .ready::R)->(∀W',Sat e W' R->Kn D W')->Kf W)->
   (∀{W:World} {R:List HP},Sat e W (lpD LR l::R)->(∀W',Sat e W' R->Kr D W')->Kf W)->
   Sat e w1 (lpC LR l .ready::dfC D::R)->Cl P f2 (#[.func (.yield l) #[] #[]]++captured) w1 λ_ W=>Kf W):ZFR P gv np Bd w Kn Kr:=by
 intro LR hc hy r hr hst hpd;refine ⟨f2,#[],captured,hg,hb,?_⟩;have h1:=(hS.alloc (.deferred<|some [])).alloc (.loop r);rw[World.size_alloc] at h1;refine h (w.heap.size+1) w.heap.size LR _ _ ?_ ?_ ?_<|h1.imp λg hg=>⟨hc,r,hr,hst,hpd,hg⟩
 .intro e W R args K hW hs hB;obtain ⟨_,r,k1,k2,k3,k4⟩:=ZhR hW;refine ⟨_,_,_,rfl,?_⟩;show ex P (Instr.yield _<|#[]++args) W K;rw[Array.empty_append];exact hy r W _ args K k1 (ZcS k4) hs hB
 .intro W R hW hK;obtain ⟨_,r,k1,k2,k3,k4⟩:=ZhR hW;refine ⟨r,ZcS k4,by rw[k2];exact (by decide),.inl ⟨k3,hK _ ?_⟩⟩;have h5:Sat e (W.putObj (w.heap.size+1) (.loop { r with state:=.exhausted })) ((λh=>h (w.heap.size+1)=some (.loop { r with state:=.exhausted }))::R):=k4.setB;exact h5.drop
 .intro W R hW hK;obtain ⟨h1,h2,d,s1,s2,⟨r,k1,k2,k3,k4⟩,h7⟩:=hW.mem;have k4:Sat e W ((λh=>h (w.heap.size+1)=some (.loop r))::R):=hW.of_mem λ_=>⟨h1,h2,d,s1,s2,k4,h7⟩;refine ⟨r,ZcS k4,by rw[k2];exact (by decide),.inr ⟨k3,hK _ ?_⟩⟩;have h5:Sat e (W.putObj (w.heap.size+1) (.loop { r with state:=.exhausted })) ((λh=>h (w.heap.size+1)=some (.loop { r with state:=.exhausted }))::R):=k4.setB;exact h5.drop
end
end Go.E
end
section
namespace Go.Proofs.YtceipnkeijhebaaGreat
open Go Go.E
set_option linter.unusedVariables false
set_option maxRecDepth 100000
noncomputable abbrev prog:Program:=Go.Proofs.Tryz.prog
theorem Zm:prog.follows .mixedOrders=true:=by kernel_rfl
abbrev WP:=World->Prop
abbrev OP:=World->KV->Prop
abbrev SS (f:OP) (k:Value->WP):WP:=λw=>f w λv w=>k v w
abbrev SQ (f:OP) (k:Value->WP):WP:=λw=>f w λv _=>k v w
abbrev NN (x:Value) (e:WP):WP:=λw=>ncP x<|e w
abbrev II (x:Value) (a b:WP):WP:=λw=>Zr x (a w)<|b w
abbrev DD0 (e:WP):WP:=λw=>dr w λw=>e w
abbrev OO (f:OP) (v:Value) (e:WP):WP:=λw=>f w (λv' w''=>v'=v/\w''=w)/\e w
abbrev AN (a b:WP):WP:=λw=>a w/\b w
abbrev GG (b:Bool) (c:Value) (f:OP) (k:Value->WP):WP:=λw=>gd c b (λk=>f w k) w λv w=>k v w
abbrev GQ (b:Bool) (c:Value) (f:OP) (k:Value->WP):WP:=λw=>gd c b (λk=>f w k) w λv _=>k v w
abbrev GF:=GG false
abbrev GT:=GG true
abbrev MF (c x:Value) (k:Value->WP):WP:=λw=>gd c false (λk=>k x w) w λv w=>k v w
abbrev MT (c x:Value) (k:Value->WP):WP:=λw=>gd c true (λk=>k x w) w λv w=>k v w
abbrev NF (c x:Value) (k:Value->WP):WP:=λw=>gd c false (λk=>k x w) w λv _=>k v w
abbrev NT (c x:Value) (k:Value->WP):WP:=λw=>gd c true (λk=>k x w) w λv _=>k v w
abbrev FF (n:Nat) (x:Value) (k:Value->WP):WP:=λw=>fld n x w λv w=>k v w
abbrev FQ (n:Nat) (x:Value) (k:Value->WP):WP:=λw=>fld n x w λv _=>k v w
abbrev LL (x:Value) (k:Value->WP):WP:=λw=>ld1 x w λv w=>k v w
abbrev LQ (x:Value) (k:Value->WP):WP:=λw=>ld1 x w λv _=>k v w
abbrev FL (n:Nat) (x:Value) (k:Value->WP):WP:=λw=>fld n x w λv w=>ld1 v w λv w=>k v w
abbrev FM (n:Nat) (x:Value) (k:Value->WP):WP:=λw=>fld n x w λv _=>ld1 v w λv _=>k v w
abbrev LN (n:Nat) (x:Value) (k:Value->WP):WP:=λw=>ldN n x w λv w=>k v w
abbrev LM (n:Nat) (x:Value) (k:Value->WP):WP:=λw=>ldN n x w λv _=>k v w
abbrev BB (o:BinOp) (x y:Value) (k:Value->WP):WP:=λw=>bi o .i64 x y w λv w=>k v w
abbrev BQ (o:BinOp) (x y:Value) (k:Value->WP):WP:=λw=>bi o .i64 x y w λv _=>k v w
abbrev CC (f:Nat) (a:Array Value) (k:Value->WP):WP:=λw=>Cl prog f a w λv w=>k v w
abbrev PP (c a b:Value) (k:Value->WP):WP:=λw=>pk c a b w λv w=>k v w
abbrev PQ (c a b:Value) (k:Value->WP):WP:=λw=>pk c a b w λv _=>k v w
abbrev TN (n:Nat) (x y:Value) (k:WP):WP:=λw=>stN n x y w λ_ w=>k w
abbrev AL (c:Array Value) (n:Nat) (k:Value->WP):WP:=λw=>al c n w λv w=>k v w
abbrev NS (x:Value) (k:Value->WP):WP:=λw=>lnS x w λv w=>k v w
abbrev NQ (x:Value) (k:Value->WP):WP:=λw=>lnS x w λv _=>k v w
abbrev XT (n:Nat) (x:Value) (k:Value->WP):WP:=λw=>xt n x w λv w=>k v w
abbrev XQ (n:Nat) (x:Value) (k:Value->WP):WP:=λw=>xt n x w λv _=>k v w
abbrev IX (n:Nat) (x y:Value) (k:Value->WP):WP:=λw=>ixS n x y w λv w=>k v w
abbrev IQ (n:Nat) (x y:Value) (k:Value->WP):WP:=λw=>ixS n x y w λv _=>k v w
abbrev BN (x:Value) (k:Value->WP):WP:=λw=>Zb3 x w λv w=>k v w
abbrev JA (r:WP) (b:WP->WP):WP:=λw=>J0 (λw=>r w) λk=>b k w
abbrev JB (r:Value->WP) (b:(Value->WP)->WP):WP:=λw=>J1 (λx w=>r x w) λk=>b k w
abbrev JC (r:Value->Value->WP) (b:(Value->Value->WP)->WP):WP:=λw=>J2 (λx y w=>r x y w) λk=>b k w
abbrev GW:=List Value->WP
abbrev L1 (x:Value) (f:Value->GW->WP):WP:=λw=>lp [x] w<|b1 λa w g=>f a g w
abbrev L2 (x y:Value) (f:Value->Value->GW->WP):WP:=λw=>lp [x,y] w<|b2 λa b w g=>f a b g w
abbrev L3 (x y z:Value) (f:Value->Value->Value->GW->WP):WP:=λw=>lp [x,y,z] w<|b3 λa b c w g=>f a b c g w
theorem ZML {f:FuncId} {fn:Func} {args:Array Value} {w:World} {K:KV} {F:Prop} (nt:Nat) (rs:List Nat) (hf:prog.funcs[f]?=some fn) (h:F) (hb:ZdL prog f=true:=by kernel_rfl) (hs:(match fn.body with | some _=>true | none=>false)=true:=by kernel_rfl) (hn:fn.ntmps=nt:=by kernel_rfl) (hr:fn.results=(rs.map ResultVar.tmp).toArray:=by kernel_rfl) (ha:Nat.ble args.size nt=true:=by kernel_rfl) (hok:ZGz prog nt rs (match fn.body with | some c=>c | none=>.skip)=true:=by kernel_rfl) (he:F=fnW prog nt rs (match fn.body with | some c=>c | none=>.skip) args w K:=by kernel_rfl):Cl prog f args w K:=
 Cl.mk hb (Zc Zm hf hs hn hr (Nat.le_of_ble_eq_true ha) hok he h)
theorem ZMM {f:FuncId} {fn:Func} {args:Array Value} {w:World} {K:KV} {F:Prop} (nt:Nat) (rs:List<|Nat × Option TypeId) (hf:prog.funcs[f]?=some fn) (h:F) (hb:ZdL prog f=true:=by kernel_rfl) (hs:(match fn.body with | some _=>true | none=>false)=true:=by kernel_rfl) (hn:fn.ntmps=nt:=by kernel_rfl) (hr:fn.results=(rs.map Zx9).toArray:=by kernel_rfl) (ha:Nat.ble args.size nt=true:=by kernel_rfl) (hok:ZEZ prog nt rs (match fn.body with | some c=>c | none=>.skip)=true:=by kernel_rfl) (he:F=ZGt prog nt rs (match fn.body with | some c=>c | none=>.skip) args w K:=by kernel_rfl):Cl prog f args w K:=
 Cl.mk hb (Zab Zm hf hs hn hr (Nat.le_of_ble_eq_true ha) hok he h)
end Go.Proofs.YtceipnkeijhebaaGreat
end
section
namespace Go.E
open Go.RowKit
theorem ZwL {k:IntKind} {a b:Int} {w:World} {K:KV} (h:K (.bool<|decide<|a<b) w):bi .lss k (.int k a) (.int k b) w K:=by
 by_cases c:a<b
 .rw[decide_eq_true c] at h;exact Ztt c h
 .rw[decide_eq_false c] at h;exact Ze7 c h
theorem ZHY {k:IntKind} {a b:Int} {w:World} {K:KV} (h:K (.bool<|decide<|a<=b) w):bi .leq k (.int k a) (.int k b) w K:=by
 by_cases c:a<=b
 .rw[decide_eq_true c] at h;exact ZCA c h
 .rw[decide_eq_false c] at h;exact ZCF c h
theorem ZFJ {k:IntKind} {a b:Int} {w:World} {K:KV} (h:K (.bool<|decide<|b<a) w):bi .gtr k (.int k a) (.int k b) w K:=by
 by_cases c:b<a
 .rw[decide_eq_true c] at h;exact ZtF c h
 .rw[decide_eq_false c] at h;exact Zle c h
theorem ZGo {k:IntKind} {a b:Int} {w:World} {K:KV} (h:K (.bool<|decide<|b<=a) w):bi .geq k (.int k a) (.int k b) w K:=by
 by_cases c:b<=a
 .rw[decide_eq_true c] at h;exact Zqv c h
 .rw[decide_eq_false c] at h;exact ZnR c h
theorem ZBD {k:IntKind} {a b:Int} {w:World} {K:KV} (h:K (.bool<|decide<|a=b) w):bi .eql k (.int k a) (.int k b) w K:=by
 by_cases c:a=b
 .rw[decide_eq_true c] at h;exact Znq c h
 .rw[decide_eq_false c] at h;exact Zd8 c h
theorem ZF7 {k:IntKind} {a b:Int} {w:World} {K:KV} (h:K (.bool<|decide<|¬a=b) w):bi .neq k (.int k a) (.int k b) w K:=by
 by_cases c:¬a=b
 .rw[decide_eq_true c] at h;exact Zng c h
 .rw[decide_eq_false c] at h;exact ZoP (Decidable.not_not.1 c) h
theorem Zam {a b:Value} {w:World} {K:KV} (h:K a w):xt 0 (.tuple #[a,b]) w K:=⟨_,a,rfl,rfl,h⟩
theorem Zal {a b:Value} {w:World} {K:KV} (h:K b w):xt 1 (.tuple #[a,b]) w K:=⟨_,b,rfl,rfl,h⟩
theorem Zok {a b c:Value} {w:World} {K:KV} (h:K a w):xt 0 (.tuple #[a,b,c]) w K:=⟨_,a,rfl,rfl,h⟩
theorem Zow {a b c:Value} {w:World} {K:KV} (h:K b w):xt 1 (.tuple #[a,b,c]) w K:=⟨_,b,rfl,rfl,h⟩
theorem ZoK {a b c:Value} {w:World} {K:KV} (h:K c w):xt 2 (.tuple #[a,b,c]) w K:=⟨_,c,rfl,rfl,h⟩
theorem Zrb {s:Bool} {body:KV->Prop} {w:World} {K:KV} (h:K undef w):gd undef s body w K:=⟨λe=>(by cases e),λ_=>h⟩
theorem Zk5 {q:Bool} {w:World} {K:KV} (h:K (.bool<|!q) w):Zb3 (.bool q) w K:=⟨q,rfl,h⟩
theorem Zt1 {p:Prop} [Decidable p] {A B:Prop} (h1:p->A) (h2:¬p->B):Zr (.bool<|decide p) A B:=⟨decide p,rfl,λh=>h1<|of_decide_eq_true h,λh=>h2<|of_decide_eq_false h⟩
theorem Zuk (p:Nat->Prop):∀n,p n->∃n,p n/\∀m,p m->n<=m:=by
 intro n;induction n using Nat.strongRecOn with
 | _ n ih=>
  intro h;by_cases hq:∃m,m<n/\p m
  .obtain ⟨m,hm,hpm⟩:=hq;exact ih m hm hpm
  .exact ⟨n,h,λm hm=>by
    by_cases hl:m<n
    .exact absurd ⟨m,hl,hm⟩ hq
    .omega⟩
open Classical in
noncomputable def lst (p:Nat->Prop):Nat:=if h:∃n,p n/\∀m,p m->n<=m then Classical.choose h else 0
theorem Zdy {p:Nat->Prop} {n:Nat} (h:p n):p (lst p)/\∀m,p m->lst p<=m:=by
 have:=Zuk p n h;unfold lst;rw[dif_pos this];exact Classical.choose_spec this
theorem ZG9 {w:World} {f:World->Zbc->Prop} (I:Nat->World->Prop) (n:Nat) (h0:I n w)
  (hr:∀n w (g:Zbc),I n w->(∀n' w',n'<n->I n' w'->g [] w')->f w g):lp [] w (b0 f):=by
 refine lp0 (λw=>∃n,I n w) (λw=>lst λn=>I n w) ⟨n,h0⟩ ?_;rintro w g ⟨n,hI⟩ hg;have hs:=Zdy (p:=λn=>I n w) hI;exact hr _ w g hs.1 λn' w' hn hI'=>hg _ ⟨n',hI'⟩<|Nat.lt_of_le_of_lt ((Zdy (p:=λn=>I n w') hI').2 n' hI') hn
theorem Zdk {x0:Value} {w:World} {f:Value->World->Zbc->Prop} (I:Nat->Value->World->Prop) (n:Nat) (h0:I n x0 w)
  (hr:∀n x0 w (g:Zbc),I n x0 w->(∀n' x0' w',n'<n->I n' x0' w'->g [x0'] w')->f x0 w g):lp [x0] w (b1 f):=by
 refine lp1 (λx0 w=>∃n,I n x0 w) (λx0 w=>lst λn=>I n x0 w) ⟨n,h0⟩ ?_;rintro x0 w g ⟨n,hI⟩ hg;have hs:=Zdy (p:=λn=>I n x0 w) hI;exact hr _ x0 w g hs.1 λn' x0' w' hn hI'=>hg _ _ ⟨n',hI'⟩<|Nat.lt_of_le_of_lt ((Zdy (p:=λn=>I n x0' w') hI').2 n' hI') hn
theorem ZjF {x0 x1:Value} {w:World} {f:Value->Value->World->Zbc->Prop} (I:Nat->Value->Value->World->Prop) (n:Nat) (h0:I n x0 x1 w)
  (hr:∀n x0 x1 w (g:Zbc),I n x0 x1 w->(∀n' x0' x1' w',n'<n->I n' x0' x1' w'->g [x0',x1'] w')->f x0 x1 w g):lp [x0,x1] w (b2 f):=by
 refine lp2 (λx0 x1 w=>∃n,I n x0 x1 w) (λx0 x1 w=>lst λn=>I n x0 x1 w) ⟨n,h0⟩ ?_;rintro x0 x1 w g ⟨n,hI⟩ hg;have hs:=Zdy (p:=λn=>I n x0 x1 w) hI;exact hr _ x0 x1 w g hs.1 λn' x0' x1' w' hn hI'=>hg _ _ _ ⟨n',hI'⟩<|Nat.lt_of_le_of_lt ((Zdy (p:=λn=>I n x0' x1' w') hI').2 n' hI') hn
theorem ZIw {x0 x1 x2:Value} {w:World} {f:Value->Value->Value->World->Zbc->Prop} (I:Nat->Value->Value->Value->World->Prop) (n:Nat) (h0:I n x0 x1 x2 w)
  (hr:∀n x0 x1 x2 w (g:Zbc),I n x0 x1 x2 w->(∀n' x0' x1' x2' w',n'<n->I n' x0' x1' x2' w'->g [x0',x1',x2'] w')->f x0 x1 x2 w g):lp [x0,x1,x2] w (b3 f):=by
 refine lp3 (λx0 x1 x2 w=>∃n,I n x0 x1 x2 w) (λx0 x1 x2 w=>lst λn=>I n x0 x1 x2 w) ⟨n,h0⟩ ?_;rintro x0 x1 x2 w g ⟨n,hI⟩ hg;have hs:=Zdy (p:=λn=>I n x0 x1 x2 w) hI;exact hr _ x0 x1 x2 w g hs.1 λn' x0' x1' x2' w' hn hI'=>hg _ _ _ _ ⟨n',hI'⟩<|Nat.lt_of_le_of_lt ((Zdy (p:=λn=>I n x0' x1' x2' w') hI').2 n' hI') hn
theorem ZlB {κ ν:Type} [DecidableEq κ]:∀{m:List<|κ × ν},(m.map (·.1)).Nodup->∀{p:κ × ν},p∈m->(m.find? λq=>decide<|q.1=p.1)=some p
 | [],_,p,h=>by cases h
 | q::m,hn,p,h=>by
  rw[List.map_cons,List.nodup_cons] at hn;rw[List.find?_cons];cases h with
  | head=>simp
  | tail _ h=>
   have:¬q.1=p.1:=λe=>hn.1<|List.mem_map.2 ⟨p,h,e.symm⟩;simp only[this,decide_false];exact ZlB hn.2 h
section
variable {κ ν:Type}
structure ZvT [DecidableEq κ] (P:Program) (kt:TypeId) (kf:κ->Value):Prop where
 chk:∀(b:Bool) (k:κ) (w:World),(Instr.checkKey b 10000 kt<|kf k).run P w=.ok () w
 fnd:∀(k:κ) (es:List MapEntry) (ks:List κ),es.map (·.key)=ks.map kf->∀w:World,(Instr.findKey kt (kf k) es).run P w=.ok ((ks.findIdx? λx=>decide<|x=k).bind λi=>(es[i]?).map λe=>(i,e.val)) w
 sam:∀k,Instr.sameBits 10000 (kf k) (kf k)=true
structure Zx6 (P:Program) (t kt vt:TypeId) (zv:Value):Prop where
 und:P.underlying t=some (.map kt vt)
 zero:∃i,P.info? vt=some i/\i.zero=some zv
def ZBE (es:List MapEntry) (clock:Nat):Prop:=es.Pairwise (λa b=>a.born<b.born)/\∀e∈es,e.born<clock
def Zcn (kf:κ->Value) (vf:ν->Value) (p:κ × ν):Value × Value:=(kf p.1,vf p.2)
def Zaj (kf:κ->Value) (vf:ν->Value) (b:Nat) (m:List<|κ × ν):HP:=λh=>
 ∃es clock,h b=some (.map es clock)/\es.toList.map (λe=>(e.key,e.val))=m.map (Zcn kf vf)/\ZBE es.toList clock
def lkA [DecidableEq κ] (m:List<|κ × ν) (k:κ):Option ν:=(m.find? λp=>decide<|p.1=k).map (·.2)
def upA [DecidableEq κ] (m:List<|κ × ν) (k:κ) (x:ν):List (κ × ν):=if (lkA m k).isSome then m.map (λp=>if p.1=k then (k,x) else p) else m++[(k,x)]
def Znz (m:List<|κ × ν):Prop:=(m.map (·.1)).Nodup
variable {P:Program} {kt vt t:TypeId} {kf:κ->Value} {vf:ν->Value} {zv:Value} {e w:World} {L:List HP} {K:KV} {b:Nat} {m:List<|κ × ν}
theorem ZlZ {es:List MapEntry} (h:es.map (λe=>(e.key,e.val))=m.map (Zcn kf vf)):es.map (·.key)=(m.map (·.1)).map kf:=by
 have:=congrArg (List.map Prod.fst) h
 simpa [List.map_map,Function.comp_def,Zcn] using this
theorem ZxB {es:List MapEntry} (h:es.map (λe=>(e.key,e.val))=m.map (Zcn kf vf)) (i:Nat):(es[i]?).map (·.val)=(m[i]?).map λp=>vf p.2:=by
 have:=congrArg (λl=>(l[i]?).map Prod.snd) h
 simpa [List.getElem?_map,Option.map_map,Function.comp_def,Zcn] using this
theorem ZxT {es:List MapEntry} (h:es.map (λe=>(e.key,e.val))=m.map (Zcn kf vf)) (i:Nat):(es[i]?).map (·.key)=(m[i]?).map λp=>kf p.1:=by
 have:=congrArg (λl=>(l[i]?).map Prod.fst) h
 simpa [List.getElem?_map,Option.map_map,Function.comp_def,Zcn] using this
theorem ZlY [DecidableEq κ]:∀(m:List<|κ × ν) (k:κ),((m.map (·.1)).findIdx? λx=>decide<|x=k).bind (λi=>(m[i]?).map (·.2))=lkA m k
 | [],k=>rfl
 | p::m,k=>by
  simp only[List.map_cons,List.findIdx?_cons,lkA,List.find?_cons];by_cases h:p.1=k
  .simp[h]
  .have ih:=ZlY m k;simp only[lkA] at ih;simp only[h,decide_false,Bool.false_eq_true,if_false,<-ih];cases hf:(m.map (·.1)).findIdx? (λx=>decide<|x=k) with
   | none=>simp
   | some i=>simp
theorem Sat.getMap (hS:Sat e w L) (i:Nat) (hi:L[i]?=some (Zaj kf vf b m)):∃es clock,w.heap[b]?=some (.map es clock)/\es.toList.map (λe=>(e.key,e.val))=m.map (Zcn kf vf)/\ZBE es.toList clock:=by
 obtain ⟨g,⟨es,clock,h1,h2,h3⟩,hs⟩:=hS.get i hi;exact ⟨es,clock,hs _ _ h1,h2,h3⟩
theorem Zfx (kf:κ->Value) (vf:ν->Value) (hS:Sat e w L) (hk:∀b w',Sat e w' (Zaj kf vf b []::L)->K (.map<|some b) w'):ZlQ w K:=by
 exact hk _ _<|(hS.alloc (.map #[] 0)).imp λg hg=>⟨#[],0,hg,rfl,⟨List.Pairwise.nil,λe he=>by cases he⟩⟩
theorem Zbf {b:Nat} {es:Array MapEntry} {clock:Nat} (h:w.heap[b]?=some (.map es clock)):(getObj b).run P w=.ok (.map es clock) w:=by
 simp only[getObj,Sem.run,h]
theorem ZsE [DecidableEq κ] (KT:ZvT P kt kf) (MT:Zx6 P t kt vt zv) (hS:Sat e w L) (i:Nat) (hi:L[i]?=some (Zaj kf vf b m)) (k:κ)
  (hk:K (.tuple #[match lkA m k with | some x=>vf x | none=>zv,.bool (lkA m k).isSome]) w):lkM P t (.map<|some b) (kf k) true w K:=by
 obtain ⟨es,clock,h1,h2,h3⟩:=hS.getMap i hi;obtain ⟨inf,hi1,hi2⟩:=MT.zero;refine Yn (w':=w) ?_ hk;have hf:=KT.fnd k es.toList (m.map (·.1)) (ZlZ h2) w;unfold Instr.lookup;simp only[Sem.run_bind,Yb MT.und,Result.andThen_ok,Zbf h1,Sem.run_pure,KT.chk,hf];have hl:=ZlY m k;cases hx:(m.map (·.1)).findIdx? (λx=>decide<|x=k) with
 | none=>
  rw[hx] at hl;simp only[Option.bind_none] at hl ⊢;rw[<-hl];simp only[Sem.run_bind,Zdn hi1 hi2,Result.andThen_ok,Sem.run_pure];rfl
 | some j=>
  rw[hx] at hl;simp only[Option.bind_some] at hl ⊢;have hv:=ZxB h2 j;have hjl:j<m.length:=by
   obtain ⟨hj,_⟩:=List.findIdx?_eq_some_iff_getElem.1 hx
   simpa using hj
  rw[List.getElem?_eq_getElem hjl] at hv hl;simp only[Option.map_some] at hv hl;obtain ⟨e',he,hev⟩:=Option.map_eq_some_iff.1 hv;rw[he,<-hl];simp only[Option.map_some,hev];rfl
theorem Zmm {k0:IntKind} (k:Int):∀(es:List MapEntry) (ks:List Int) (i:Nat),es.map (·.key)=ks.map (λn=>Value.int k0 n)->
  Instr.findNow (.int k0) (.int k0 k) es i=some ((ks.findIdx? λx=>decide<|x=k).bind λj=>(es[j]?).map λe=>(i+j,e.val))
 | [],ks,i,h=>by
  cases ks with
  | nil=>rfl
  | cons=>cases h
 | e::es,ks,i,h=>by
  cases ks with
  | nil=>cases h
  | cons x ks=>
   simp only[List.map_cons,List.cons.injEq] at h;simp only[Instr.findNow,h.1,Instr.sameNow,if_true,List.findIdx?_cons];by_cases hx:x=k
   .subst hx;simp
   .have hk:(k==x)=false:=by simp;exact λe=>hx e.symm
    rw[hk,Zmm k es ks (i+1) h.2];simp only[hx,decide_false,Bool.false_eq_true,if_false];cases ks.findIdx? (λx=>decide<|x=k) with
    | none=>rfl
    | some j=>simp[Nat.add_comm,Nat.add_left_comm]
theorem Zwe {P:Program} {kt:TypeId} {k0:IntKind} (hu:P.underlying kt=some (.int k0)):ZvT P kt (λn:Int=>.int k0 n) where
 chk b k w:=by
  unfold Instr.checkKey;simp only[Sem.run_bind,Yb hu,Result.andThen_ok,Sem.run_pure]
 fnd k es ks h w:=by
  unfold Instr.findKey;simp only[Sem.run_bind,Yb hu,Result.andThen_ok,Zmm k es ks 0 h,Sem.run_pure,Nat.zero_add]
 sam k:=by simp[Instr.sameBits]
theorem ZlP {es:List MapEntry} {clock:Nat} (h:ZBE es clock) (i:Nat) (f:MapEntry->MapEntry) (hf:∀e,(f e).born=e.born):ZBE (es.modify i f) clock:=by
 have hb:(es.modify i f).map (·.born)=es.map (·.born):=by
  apply List.ext_getElem?;intro j;simp only[List.getElem?_map,List.getElem?_modify];cases es[j]? with
  | none=>rfl
  | some x=>by_cases hij:i=j <;> simp[hij,hf]
 constructor
 .have h1:=(List.pairwise_map (f:=λe:MapEntry=>e.born) (R:=(·<·))).2 h.1;rw[<-hb] at h1;exact List.pairwise_map.1 h1
 .intro e he;have:e.born∈(es.modify i f).map (·.born):=List.mem_map.2 ⟨e,he,rfl⟩;rw[hb] at this;obtain ⟨e',he',h2⟩:=List.mem_map.1 this;rw[<-h2];exact h.2 e' he'
theorem ZsG [DecidableEq κ] (KT:ZvT P kt kf) (MT:Zx6 P t kt vt zv) (hu:Znz m) (hS:Sat e w<|Zaj kf vf b m::L) (k:κ) (x:ν) {xv:Value} (hx:xv=vf x)
  (hk:∀w',Sat e w' (Zaj kf vf b (upA m k x)::L)->K undef w'):upM P t (.map<|some b) (kf k) xv w K:=by
 subst hx;obtain ⟨h1,h2,d,s1,s2,⟨es,clock,hb,hm,hbo⟩,r⟩:=hS.mem;have hh:w.heap[b]?=some (.map es clock):=s1 _ _ hb;have hlt:b<w.heap.size:=(Array.getElem?_eq_some_iff.1 hh).1;have hS0:Sat e w ((λg=>g b=some (.map es clock))::L):=⟨hS.os,hS.tape,hS.output,hS.drawn,hS.size,h1,h2,d,s1,s2,hb,r⟩;have hf:=KT.fnd k es.toList (m.map (·.1)) (ZlZ hm) w;have hl:=ZlY m k;cases hx:(m.map (·.1)).findIdx? (λx=>decide<|x=k) with
 | none=>
  rw[hx] at hl hf;simp only[Option.bind_none] at hl hf;refine Zwl (w':=World.setB w b (.map (es.push { key:=kf k,val:=vf x,born:=clock })<|clock+1)) ?_<|hk _ ?_
  .unfold Instr.mapUpdate;simp only[Sem.run_bind,Yb MT.und,Result.andThen_ok,Zbf hh,KT.chk,hf,setObj,Sem.run,hh,World.setB]
  .refine hS0.setB.imp λg hg=>⟨_,_,hg,?_,?_⟩
   .unfold upA;rw[<-hl];simp[hm,Zcn]
   .constructor
    .rw[Array.toList_push,List.pairwise_append];exact ⟨hbo.1,by simp,λa ha b hb'=>by simp at hb';subst hb';exact hbo.2 a ha⟩
    .intro e' he';rw[Array.toList_push,List.mem_append] at he';rcases he' with he' | he'
     .have:=hbo.2 e' he';omega
     .simp at he';subst he';simp
 | some j=>
  rw[hx] at hl hf;simp only[Option.bind_some] at hl hf;obtain ⟨hj,hjk,hjn⟩:=List.findIdx?_eq_some_iff_getElem.1 hx;simp only[List.length_map] at hj;simp only[List.getElem_map,decide_eq_true_eq] at hjk;have hkey:=ZxT hm j;rw[List.getElem?_eq_getElem hj] at hkey hl;simp only[Option.map_some] at hkey hl;obtain ⟨e',he,hek⟩:=Option.map_eq_some_iff.1 hkey;rw[he] at hf;simp only[Option.map_some] at hf;have he2:es[j]?=some e':=by rw[<-Array.getElem?_toList];exact he
  refine Zwl (w':=World.setB w b (.map (es.modify j λe=>{ e with key:=kf k,val:=vf x }) clock)) ?_<|hk _ ?_
  .unfold Instr.mapUpdate;have hst:(Instr.keyThatStays (((es[j]?).map (·.key)).getD<|kf k)<|kf k).run P w=.ok (kf k) w:=by
    rw[he2];simp only[Option.map_some,Option.getD_some,hek,hjk,Instr.keyThatStays,KT.sam,if_true,Sem.run_pure]
   simp only[Sem.run_bind,Yb MT.und,Result.andThen_ok,Zbf hh,KT.chk,hf,hst,setObj,Sem.run,hh,World.setB]
  .refine hS0.setB.imp λg hg=>⟨_,_,hg,?_,?_⟩
   .unfold upA;rw[<-hl];simp only[Option.isSome_some,if_true];apply List.ext_getElem?;intro n;have hn:=congrArg (λl=>l[n]?) hm;simp only[List.getElem?_map] at hn ⊢;rw[Array.toList_modify,List.getElem?_modify];cases hen:es.toList[n]? with
    | none=>
     rw[hen] at hn;cases hmn:m[n]? with
     | none=>rfl
     | some p=>rw[hmn] at hn;cases hn
    | some en=>
     rw[hen] at hn;cases hmn:m[n]? with
     | none=>rw[hmn] at hn;cases hn
     | some p=>
      rw[hmn] at hn;simp only[Option.map_some,Option.some.injEq] at hn ⊢;by_cases hjn':j=n
      .subst hjn';have hp:p.1=k:=by
        rw[List.getElem?_eq_getElem hj] at hmn;cases hmn;exact hjk
       simp[hp,Zcn]
      .have hp:p.1≠k:=by
        intro hpk;have hnl:=(List.getElem?_eq_some_iff.1 hmn).1;have e1:(m.map (·.1))[j]?=some k:=by simp[List.getElem?_eq_getElem hj,hjk]
        have e2:(m.map (·.1))[n]?=some k:=by simp[hmn,hpk]
        have:=(List.getElem?_inj (by simpa using hj) hu).1<|e1.trans e2.symm;exact hjn' this
       simp only[hjn',if_false,hp];exact congrArg some hn
   .rw[Array.toList_modify];exact ZlP hbo j _<|λ_=>rfl
theorem Zw2 [DecidableEq κ] (m:List<|κ × ν) (k:κ) (x:ν):(upA m k x).map (·.1)=if (lkA m k).isSome then m.map (·.1) else m.map (·.1)++[k]:=by
 unfold upA;split
 .rw[List.map_map];apply List.map_congr_left;intro p _;simp only[Function.comp];split
  .rename_i h;exact h.symm
  .rfl
 .simp
theorem ZwA [DecidableEq κ] {m:List<|κ × ν} {k:κ}:lkA m k=none↔k∉m.map (·.1):=by
 unfold lkA;simp only[Option.map_eq_none_iff,List.find?_eq_none,decide_eq_true_eq,List.mem_map,not_exists,not_and]
theorem Znz.up [DecidableEq κ] {m:List<|κ × ν} (h:Znz m) (k:κ) (x:ν):Znz (upA m k x):=by
 unfold Znz;rw[Zw2];split
 .exact h
 .rename_i hn;have:lkA m k=none:=by cases hl:lkA m k <;> simp_all
  rw[ZwA] at this;rw[List.nodup_append];exact ⟨h,by simp,λa ha b hb=>by simp at hb;subst hb;exact λe=>this<|e▸ha⟩
theorem ZiY [DecidableEq κ] {m:List<|κ × ν} (_h:Znz m) (k:κ) (x:ν) (j:κ):lkA (upA m k x) j=if j=k then some x else lkA m j:=by
 unfold upA;split
 .rename_i hs;clear _h;induction m with
  | nil=>simp[lkA] at hs
  | cons p m ih=>
   simp only[lkA,List.map_cons,List.find?_cons] at hs ih ⊢;by_cases hp:p.1=k
   .by_cases hj:j=k
    .subst hj;simp[hp]
    .have hpj:¬p.1=j:=λe=>hj<|e▸hp;have hkj:¬k=j:=λe=>hj e.symm;simp only[hp,if_true,hkj,decide_false,hj,if_false];clear ih hs;have:∀m:List<|κ × ν,((m.map λp=>if p.1=k then (k,x) else p).find? λp=>decide<|p.1=j).map (·.2)=(m.find? λp=>decide<|p.1=j).map (·.2):=by
      intro m;induction m with
      | nil=>rfl
      | cons q m ih=>
       simp only[List.map_cons,List.find?_cons];by_cases hq:q.1=k
       .have hqj:¬q.1=j:=λe=>hj<|e▸hq;simp only[hq,if_true,hkj,decide_false];exact ih
       .simp only[hq,if_false];cases hqd:decide (q.1=j) with
        | true=>rfl
        | false=>exact ih
     simpa using this m
   .simp only[hp,decide_false,if_false] at hs ⊢;have ih':=ih hs;by_cases hpj:p.1=j
    .have hjk:¬j=k:=λe=>hp<|hpj.trans e;simp[hpj,hjk]
    .simp only[hpj,decide_false];exact ih'
 .rename_i hn;have hnone:lkA m k=none:=by cases hl:lkA m k <;> simp_all
  unfold lkA at hnone ⊢;rw[List.find?_append];by_cases hj:j=k
  .subst hj;rw[Option.map_eq_none_iff] at hnone;simp[hnone]
  .have hkj:¬k=j:=λe=>hj e.symm;simp[hj,hkj]
def ZwS (kf:κ->Value) (vf:ν->Value) (b r:Nat) (m rem:List<|κ × ν) (cur:Option<|κ × ν):HP:=λh=>
 ∃es clock seen,h b=some (.map es clock)/\h r=some (.mapIter (some b) clock seen clock)/\es.toList.map (λe=>(e.key,e.val))=m.map (Zcn kf vf)/\ZBE es.toList clock/\
  (es.toList.filter λe=>!seen.contains e.born).map (λe=>(e.key,e.val))=rem.map (Zcn kf vf)/\
  match cur with
  | none=>seen=#[]
  | some p=>∃e'∈es.toList,seen.back?=some e'.born/\(e'.key,e'.val)=Zcn kf vf p
theorem ZB0 (hu:P.underlying t=some (.map kt vt)) (hS:Sat e w<|Zaj kf vf b m::L) (hk:∀r w',Sat e w' (ZwS kf vf b r m m none::L)->K (pt r) w'):rgM P t (.map<|some b) w K:=by
 obtain ⟨h1,h2,d,s1,s2,⟨es,clock,hb,hm,hbo⟩,r⟩:=hS.mem;have hh:w.heap[b]?=some (.map es clock):=s1 _ _ hb;refine Yn (w':=w.alloc (.mapIter (some b) clock #[] clock)) (v:=pt w.heap.size) ?_<|hk _ _ ?_
 .unfold Instr.range;simp only[Sem.run_bind,Yb hu,Result.andThen_ok,Zbf hh,Sem.run_pure,newObj,Sem.run,World.alloc]
 .have hS0:Sat e w ((λg=>g b=some (.map es clock))::L):=⟨hS.os,hS.tape,hS.output,hS.drawn,hS.size,h1,h2,d,s1,s2,hb,r⟩;have h3:=hS0.alloc (.mapIter (some b) clock #[] clock);refine (Sat.join (l':=[_,_]) h3).imp λg hg=>?_;obtain ⟨g1,g2,d',t1,t2,p1,g3,g4,d2,t3,t4,p2,_⟩:=hg;exact ⟨es,clock,#[],t2 _ _<|t3 _ _ p2,t1 _ _ p1,hm,hbo,by rw[List.filter_eq_self.2 (λ_ _=>by simp)];exact hm,rfl⟩
theorem Zsr {r:Nat} {rem:List<|κ × ν} {cur:Option<|κ × ν}:∀g,ZwS kf vf b r m rem cur g->Zaj kf vf b m g:=λ_ ⟨es,clock,_,h1,_,h2,h3,_⟩=>⟨es,clock,h1,h2,h3⟩
theorem Sat.setB2 {b:Nat} {o':Obj} {Q P2:HP} (hS:Sat e w<|Q::L) (hq:∀g,Q g->∃o,g b=some o) (hp:∀g,Q g->P2 (λx=>if x=b then some o' else g x)):Sat e (World.setB w b o') (P2::L):=by
 obtain ⟨h1,h2,d,s1,s2,q,r⟩:=hS.mem;obtain ⟨o,ho⟩:=hq h1 q;have hw:Go.E.hp w b=some o:=s1 _ _ ho;have hlt:b<w.heap.size:=(Array.getElem?_eq_some_iff.1 hw).1;have hb2:h2 b=none:=by
  rcases d b with k | k
  .rw[ho] at k;cases k
  .exact k
 refine ⟨hS.os,hS.tape,hS.output,hS.drawn,by simpa [World.setB] using hS.size,(λx=>if x=b then some o' else h1 x),h2,λx=>?_,λx u k=>?_,λx u k=>?_,hp _ q,r⟩
 .by_cases e:x=b
  .subst e;exact .inr hb2
  .simp only[if_neg e];exact d x
 .rw[ZqG _ _ _ hlt];by_cases e:x=b
  .subst e;simpa using k
  .simp only[if_neg e] at k ⊢;exact s1 x u k
 .rw[ZqG _ _ _ hlt];by_cases e:x=b
  .subst e;rw[hb2] at k;cases k
  .simp only[if_neg e];exact s2 x u k
theorem List.eraseIdx_map_c {α β:Type} (f:α->β):∀(l:List α) (i:Nat),(l.eraseIdx i).map f=(l.map f).eraseIdx i
 | [],_=>rfl
 | _::_,0=>rfl
 | a::l,i+1=>by simp[List.eraseIdx_map_c f l i]
theorem ZpQ (es:List MapEntry) (seen:Array Nat) (x:MapEntry) (i:Nat) (hnd:(es.map (·.born)).Nodup) (l:List MapEntry) (hl:l=es.filter λe=>!seen.contains e.born) (hi:i<l.length) (hx:l[i]=x) :
  (es.filter λe=>!(seen.push x.born).contains e.born)=l.eraseIdx i:=by
 have h1:(es.filter λe=>!(seen.push x.born).contains e.born)=(es.filter λe=>!seen.contains e.born).filter λe=>!(e.born==x.born):=by
  rw[List.filter_filter];apply List.filter_congr;intro a _;by_cases h:a.born=x.born <;> simp[h,Array.mem_push]
 rw[h1,<-hl];have hnd2:(l.map (·.born)).Nodup:=by rw[hl];exact (List.Sublist.map _ List.filter_sublist).nodup hnd
 clear h1 hnd hl;induction l generalizing i with
 | nil=>cases hi
 | cons a l ih=>
  rw[List.map_cons,List.nodup_cons] at hnd2;cases i with
  | zero=>
   simp only[List.getElem_cons_zero] at hx;subst hx;simp only[List.filter_cons,beq_self_eq_true,Bool.not_true,Bool.false_eq_true,if_false,List.eraseIdx_cons_zero];apply List.filter_eq_self.2;intro y hy;have:y.born≠a.born:=λh=>hnd2.1<|List.mem_map.2 ⟨y,hy,h⟩
   simpa using this
  | succ i=>
   simp only[List.getElem_cons_succ] at hx;have hil:i<l.length:=by simpa using hi
   have:a.born≠x.born:=λh=>hnd2.1<|List.mem_map.2 ⟨x,by rw[<-hx];exact List.getElem_mem _,h.symm⟩;have hb:(!(a.born==x.born))=true:=by simpa using this
   simp only[List.filter_cons,hb,if_true,List.eraseIdx_cons_succ];rw[ih i hil hx hnd2.2]
theorem ZBW {r:Nat} {rem:List<|κ × ν} {cur:Option<|κ × ν} {ty:TypeId} (hS:Sat e w<|ZwS kf vf b r m rem cur::L)
  (h0:rem=[]->∀w',Sat e w' (ZwS kf vf b r m [] cur::L)->K (.tuple #[Bf]) w')
  (h1:∀(i:Nat) (p:κ × ν) (w':World),rem[i]?=some p->Sat e w' (ZwS kf vf b r m (rem.eraseIdx i) (some p)::L)->K (.tuple #[Bt,kf p.1,vf p.2]) w') :
  nxM P (pt r) false ty w K:=by
 obtain ⟨g,hg,hs⟩:=hS.get 0 rfl;obtain ⟨es,clock,seen,hb,hr,hm,hbo,hrem,hcur⟩:=hg;have hwb:w.heap[b]?=some (.map es clock):=hs _ _ hb;have hwr:w.heap[r]?=some (.mapIter (some b) clock seen clock):=hs _ _ hr;have hold:∀x∈es.toList,x.born<clock:=hbo.2;have hleft:(leftOf es seen).toList=es.toList.filter λe=>!seen.contains e.born:=by unfold leftOf;simp
 rw[<-hleft] at hrem;rcases run_next_at (P:=P) w ty r b clock clock seen es clock hwr hwb hold (Nat.le_refl _) with ⟨hz,hrun⟩ | ⟨x,hx,w1,hw1,hrun⟩
 .have hr0:rem=[]:=by
   have:=congrArg List.length hrem;rw[List.length_map,List.length_map,Array.length_toList,hz] at this;exact List.length_eq_zero_iff.1 this.symm
  subst hr0;exact Yn hrun<|h0 rfl w hS
 .obtain ⟨i,hi,hxi⟩:=List.getElem_of_mem hx;have hil:i<rem.length:=by
   have:=congrArg List.length hrem;simp only[List.length_map] at this;omega
  have hpe:(x.key,x.val)=Zcn kf vf rem[i]:=by
   have:=congrArg (λl=>l[i]?) hrem;simp only[List.getElem?_map,List.getElem?_eq_getElem hi,List.getElem?_eq_getElem hil,Option.map_some,Option.some.injEq,hxi] at this;exact this
  have hSw:Sat e w1 (ZwS kf vf b r m rem cur::L):=by rcases hw1 with rfl | rfl;exact hS;exact hS.drew
  have hk2:=h1 i rem[i] (World.setB w1 r (.mapIter (some b) clock (seen.push x.born) clock))<|List.getElem?_eq_getElem hil;simp only[Zcn,Prod.mk.injEq] at hpe;rw[<-hpe.1,<-hpe.2] at hk2;refine Yn hrun<|hk2 ?_;have hw1b:w1.heap[b]?=some (.map es clock):=by rcases hw1 with rfl | rfl <;> exact hwb
  have hw1r:w1.heap[r]?=some (.mapIter (some b) clock seen clock):=by rcases hw1 with rfl | rfl <;> exact hwr
  have hS1:Sat e w1 ((λg=>g b=some (.map es clock)/\g r=some (.mapIter (some b) clock seen clock))::L):=by
   obtain ⟨k1,k2,d,s1,s2,⟨es',clock',seen',q1,q2,_⟩,rr⟩:=hSw.mem;have e1:=s1 _ _ q1;have e2:=s1 _ _ q2;have f1:some (Obj.map es' clock')=some (Obj.map es clock):=by rw[<-hw1b];exact e1.symm
   have f2:some (Obj.mapIter (some b) clock' seen' clock')=some (Obj.mapIter (some b) clock seen clock):=by rw[<-hw1r];exact e2.symm
   refine ⟨hSw.os,hSw.tape,hSw.output,hSw.drawn,hSw.size,k1,k2,d,s1,s2,⟨by rw[q1,f1],by rw[q2,f2]⟩,rr⟩
  refine hS1.setB2 (λg hg=>⟨_,hg.2⟩)<|λg hg=>?_;have hbr:b≠r:=by
   intro h;subst h;rw[hg.1] at hg;cases hg.2
  have hnd:(es.toList.map (·.born)).Nodup:=(List.pairwise_map (f:=λe:MapEntry=>e.born) (R:=(·<·))).2 hbo.1 |>.imp (λh=>Nat.ne_of_lt h)
  refine ⟨es,clock,seen.push x.born,by simp only[if_neg hbr];exact hg.1,by simp,hm,hbo,?_,x,?_,by simp,by simp only[Zcn,hpe]⟩
  .have:(es.toList.filter λe=>!(seen.push x.born).contains e.born)=(leftOf es seen).toList.eraseIdx i:=by
    exact ZpQ es.toList seen x i hnd _ hleft hi hxi
   rw[this,List.eraseIdx_map_c,hrem,<-List.eraseIdx_map_c]
  .rw[hleft] at hx;exact (List.mem_filter.1 hx).1
theorem ZCg {r:Nat} {rem:List<|κ × ν} {p:κ × ν} (i:Nat) (hS:Sat e w L) (hi:L[i]?=some (ZwS kf vf b r m rem<|some p))
  (hk:K (.tuple #[kf p.1,vf p.2]) w):enM P (pt r) w K:=by
 obtain ⟨g,hg,hs⟩:=hS.get i hi;obtain ⟨es,clock,seen,hb,hr,hm,hbo,hrem,e',he',hback,hpe⟩:=hg;have hwb:w.heap[b]?=some (.map es clock):=hs _ _ hb;have hwr:w.heap[r]?=some (.mapIter (some b) clock seen clock):=hs _ _ hr;have hfind:es.find? (λx=>x.born==e'.born)=some e':=by
  rw[<-Array.find?_toList];have huniq:∀l:List MapEntry,l.Pairwise (λa b=>a.born<b.born)->e'∈l->l.find? (λx=>x.born==e'.born)=some e':=by
   intro l;induction l with
   | nil=>intro _ h;cases h
   | cons x l ih=>
    intro hp hmem;rw[List.pairwise_cons] at hp;rw[List.find?_cons];cases hmem with
    | head=>simp
    | tail _ hmem=>
     have:=hp.1 e' hmem;have hne:(x.born==e'.born)=false:=by simp;omega
     rw[hne];exact ih hp.2 hmem
  exact huniq _ hbo.1 he'
 refine Yn (w':=w) (v:=.tuple #[e'.key,e'.val]) ?_ ?_
 .unfold Instr.entry;have h1:(getObj r).run P w=.ok (.mapIter (some b) clock seen clock) w:=by simp only[getObj,Sem.run,hwr]
  simp only[Sem.run_bind,h1,Result.andThen_ok,hback,Zbf hwb,bne_self_eq_false,Bool.false_eq_true,if_false,hfind,Sem.run_pure]
 .simp only[Zcn,Prod.mk.injEq] at hpe;rw[hpe.1,hpe.2];exact hk
end
end Go.E
end
section
namespace Go.Proofs.YtceipnkeijhebaaGreat
open Go Go.E
set_option linter.unusedVariables false
set_option maxRecDepth 100000
theorem Zr6:Zl prog 3=#[Iw 0]:=by kernel_rfl
theorem ZDc:Zl prog 4=#[Bf]:=by kernel_rfl
theorem ZxC:prog.underlying 22=some (.slice 3):=by kernel_rfl
theorem Zvs:TE prog 22 3 1 8:=⟨ZxC,⟨Go.Proofs.Tryz.t3,(match Go.Proofs.Tryz.t3.zero with | some z=>z | none=>undef),by kernel_rfl,by kernel_rfl,by kernel_rfl,by kernel_rfl,by kernel_rfl⟩,by decide⟩
theorem ZxQ:prog.underlying 23=some (.slice 52):=by kernel_rfl
theorem ZFN:TE prog 23 52 7 120:=⟨ZxQ,⟨Go.Proofs.Tryz.t52,(match Go.Proofs.Tryz.t52.zero with | some z=>z | none=>undef),by kernel_rfl,by kernel_rfl,by kernel_rfl,by kernel_rfl,by kernel_rfl⟩,by decide⟩
theorem ZqI:Zl prog 25=#[Sn,Sn,Iw 0]:=by kernel_rfl
theorem ZDP:prog.underlying 26=some (.slice 38):=by kernel_rfl
theorem ZPy:eqT prog 6 38=some 3:=by kernel_rfl
theorem ZUE:prog.underlying 43=some (.slice 129):=by kernel_rfl
theorem ZVt:TE prog 43 129 7 56:=⟨ZUE,⟨Go.Proofs.Tryz.t129,(match Go.Proofs.Tryz.t129.zero with | some z=>z | none=>undef),by kernel_rfl,by kernel_rfl,by kernel_rfl,by kernel_rfl,by kernel_rfl⟩,by decide⟩
theorem ZTN:Zl prog 46=#[Sn]:=by kernel_rfl
theorem Z2c:prog.underlying 46=some (.slice 88):=by kernel_rfl
theorem ZW8:TE prog 46 88 8 64:=⟨Z2c,⟨Go.Proofs.Tryz.t88,(match Go.Proofs.Tryz.t88.zero with | some z=>z | none=>undef),by kernel_rfl,by kernel_rfl,by kernel_rfl,by kernel_rfl,by kernel_rfl⟩,by decide⟩
theorem Z0T:prog.underlying 49=some (.slice 54):=by kernel_rfl
theorem Z2j:TE prog 49 54 4 48:=⟨Z0T,⟨Go.Proofs.Tryz.t54,(match Go.Proofs.Tryz.t54.zero with | some z=>z | none=>undef),by kernel_rfl,by kernel_rfl,by kernel_rfl,by kernel_rfl,by kernel_rfl⟩,by decide⟩
theorem ZQM:prog.underlying 50=some (.slice 133):=by kernel_rfl
theorem ZRB:TE prog 50 133 3 24:=⟨ZQM,⟨Go.Proofs.Tryz.t133,(match Go.Proofs.Tryz.t133.zero with | some z=>z | none=>undef),by kernel_rfl,by kernel_rfl,by kernel_rfl,by kernel_rfl,by kernel_rfl⟩,by decide⟩
theorem ZYE:Zl prog 52=#[Iw 0,Iw 0,Iw 0,Sn,Sn,Sn,Sn]:=by kernel_rfl
theorem Z1c:Zl prog 54=#[Iw 0,Iw 0,Iw 0,Sn]:=by kernel_rfl
theorem Z15:prog.underlying 62=some (.slice 46):=by kernel_rfl
theorem Z1X:TE prog 62 46 1 24:=⟨Z15,⟨Go.Proofs.Tryz.t46,(match Go.Proofs.Tryz.t46.zero with | some z=>z | none=>undef),by kernel_rfl,by kernel_rfl,by kernel_rfl,by kernel_rfl,by kernel_rfl⟩,by decide⟩
theorem ZRf:prog.underlying 63=some (.slice 116):=by kernel_rfl
theorem ZRH:TE prog 63 116 1 16:=⟨ZRf,⟨Go.Proofs.Tryz.t116,(match Go.Proofs.Tryz.t116.zero with | some z=>z | none=>undef),by kernel_rfl,by kernel_rfl,by kernel_rfl,by kernel_rfl,by kernel_rfl⟩,by decide⟩
theorem ZYP:prog.underlying 80=some (.slice 85):=by kernel_rfl
theorem ZYs:TE prog 80 85 6 48:=⟨ZYP,⟨Go.Proofs.Tryz.t85,(match Go.Proofs.Tryz.t85.zero with | some z=>z | none=>undef),by kernel_rfl,by kernel_rfl,by kernel_rfl,by kernel_rfl,by kernel_rfl⟩,by decide⟩
theorem Z0i:Zl prog 83=#[Iw 0,Iw 0,Iw 0]:=by kernel_rfl
theorem ZYS:eqT prog 6 83=some 3:=by kernel_rfl
theorem ZYT:Zb7 prog 83=true:=by kernel_rfl
theorem ZZi:prog.eqGuardType prog.depth 83=false:=by kernel_rfl
theorem ZOc:Zl prog 85=#[Iw 0,Iw 0,Iw 0,Iw 0,Iw 0,Iw 0]:=by kernel_rfl
theorem ZWS:Zl prog 88=#[Iw 0,Iw 0,Iw 0,Iw 0,Iw 0,Iw 0,Iw 0,Iw 0]:=by kernel_rfl
theorem Z13:eqT prog 6 88=some 8:=by kernel_rfl
theorem Z16:Zb7 prog 88=true:=by kernel_rfl
theorem Z2b:prog.eqGuardType prog.depth 88=false:=by kernel_rfl
theorem ZRi:prog.underlying 92=some (.slice 97):=by kernel_rfl
theorem ZO0:TE prog 92 97 1 8:=⟨ZRi,⟨Go.Proofs.Tryz.t97,(match Go.Proofs.Tryz.t97.zero with | some z=>z | none=>undef),by kernel_rfl,by kernel_rfl,by kernel_rfl,by kernel_rfl,by kernel_rfl⟩,by decide⟩
theorem Z14:prog.underlying 93=some (.slice 100):=by kernel_rfl
theorem Z2g:TE prog 93 100 1 8:=⟨Z14,⟨Go.Proofs.Tryz.t100,(match Go.Proofs.Tryz.t100.zero with | some z=>z | none=>undef),by kernel_rfl,by kernel_rfl,by kernel_rfl,by kernel_rfl,by kernel_rfl⟩,by decide⟩
theorem Z10:prog.underlying 111=some (.slice 4):=by kernel_rfl
theorem Z0W:TE prog 111 4 1 1:=⟨Z10,⟨Go.Proofs.Tryz.t4,(match Go.Proofs.Tryz.t4.zero with | some z=>z | none=>undef),by kernel_rfl,by kernel_rfl,by kernel_rfl,by kernel_rfl,by kernel_rfl⟩,by decide⟩
theorem Z1u:Zl prog 114=#[Sn,Sn,Sn,Iw 0,Iw 0,Bf,Iw 0,Iw 0,Iw 0,Iw 0]:=by kernel_rfl
theorem ZYc:Zl prog 129=#[Iw 0,Iw 0,Iw 0,Iw 0,Iw 0,Iw 0,Iw 0]:=by kernel_rfl
theorem Z1U:eqT prog 6 129=some 7:=by kernel_rfl
theorem Z1Y:Zb7 prog 129=true:=by kernel_rfl
theorem Z1Z:prog.eqGuardType prog.depth 129=false:=by kernel_rfl
theorem ZYy:Zl prog 133=#[Iw 0,Iw 0,Iw 0]:=by kernel_rfl
theorem Z1V:eqT prog 6 133=some 3:=by kernel_rfl
theorem Z0e:prog.underlying 160=some (.map 3 3):=by kernel_rfl
theorem ZXY:Zx6 prog 160 3 3 (Iw 0):=⟨Z0e,⟨Go.Proofs.Tryz.t3,by kernel_rfl,by kernel_rfl⟩⟩
theorem ZXX:ZvT prog 3 (λn:Int=>Iw n):=Zwe (by kernel_rfl)
theorem Z1f:Zl prog 164=#[Iw 0,Iw 0]:=by kernel_rfl
theorem Z1n:Zl prog 167=#[Iw 0,Iw 0,Iw 0,Iw 0,Iw 0,Iw 0,Iw 0,Iw 0,Iw 0,Iw 0,Iw 0,Iw 0,Iw 0,Iw 0,Iw 0,Iw 0,Iw 0,Iw 0,Iw 0,Iw 0,Iw 0,Iw 0,Iw 0]:=by kernel_rfl
theorem Z1Q:prog.underlying 203=some (.slice 251):=by kernel_rfl
theorem ZZh:TE prog 203 251 10 96:=⟨Z1Q,⟨Go.Proofs.Tryz.t251,(match Go.Proofs.Tryz.t251.zero with | some z=>z | none=>undef),by kernel_rfl,by kernel_rfl,by kernel_rfl,by kernel_rfl,by kernel_rfl⟩,by decide⟩
theorem Z1j:Zl prog 213=#[(Value.map none),Iw 0]:=by kernel_rfl
theorem Z1J:prog.underlying 214=some (.map 83 3):=by kernel_rfl
theorem ZYl:Zx6 prog 214 83 3 (Iw 0):=⟨Z1J,⟨Go.Proofs.Tryz.t3,by kernel_rfl,by kernel_rfl⟩⟩
theorem Z1m:Zl prog 216=#[Iw 0,Sn,Value.map none]:=by kernel_rfl
theorem Z05:prog.underlying 222=some (.slice 246):=by kernel_rfl
theorem Z00:TE prog 222 246 10 96:=⟨Z05,⟨Go.Proofs.Tryz.t246,(match Go.Proofs.Tryz.t246.zero with | some z=>z | none=>undef),by kernel_rfl,by kernel_rfl,by kernel_rfl,by kernel_rfl,by kernel_rfl⟩,by decide⟩
theorem Z01:prog.underlying 225=some (.slice 280):=by kernel_rfl
theorem Z0S:TE prog 225 280 9 72:=⟨Z01,⟨Go.Proofs.Tryz.t280,(match Go.Proofs.Tryz.t280.zero with | some z=>z | none=>undef),by kernel_rfl,by kernel_rfl,by kernel_rfl,by kernel_rfl,by kernel_rfl⟩,by decide⟩
theorem ZN8:Zl prog 227=#[Iw 0,Sn]:=by kernel_rfl
theorem Z1o:Zl prog 231=#[Sn,Iw 0,Iw 0]:=by kernel_rfl
theorem Z1w:Zl prog 233=#[Iw 0,Sn]:=by kernel_rfl
theorem Z0V:prog.underlying 234=some (.slice 288):=by kernel_rfl
theorem ZYV:TE prog 234 288 9 72:=⟨Z0V,⟨Go.Proofs.Tryz.t288,(match Go.Proofs.Tryz.t288.zero with | some z=>z | none=>undef),by kernel_rfl,by kernel_rfl,by kernel_rfl,by kernel_rfl,by kernel_rfl⟩,by decide⟩
theorem Z1l:Zl prog 236=#[Iw 0,Sn]:=by kernel_rfl
theorem Zxk:Zl prog 246=#[Iw 0,Iw 0,Iw 0,Iw 0,Iw 0,Iw 0,Iw 0,Iw 0,Iw 0,Sn]:=by kernel_rfl
theorem Z1M:prog.underlying 265=some (.map 267 4):=by kernel_rfl
theorem Z0r:Zx6 prog 265 267 4 Bf:=⟨Z1M,⟨Go.Proofs.Tryz.t4,by kernel_rfl,by kernel_rfl⟩⟩
theorem Z1B:Zl prog 267=#[Iw 0,Iw 0]:=by kernel_rfl
theorem Z11:eqT prog 6 267=some 2:=by kernel_rfl
theorem Z1N:Zb7 prog 267=true:=by kernel_rfl
theorem ZZw:Zl prog 280=#[Iw 0,Iw 0,Iw 0,Iw 0,Iw 0,Iw 0,Iw 0,Iw 0,Iw 0]:=by kernel_rfl
theorem Z0x:Zl prog 288=#[Iw 0,Iw 0,Iw 0,Iw 0,Iw 0,Iw 0,Iw 0,Iw 0,Iw 0]:=by kernel_rfl
theorem ZZq:Zl prog 343=#[Pn]:=by kernel_rfl
theorem Z1O:prog.underlying 369=some (.slice 83):=by kernel_rfl
theorem Z12:TE prog 369 83 3 24:=⟨Z1O,⟨Go.Proofs.Tryz.t83,(match Go.Proofs.Tryz.t83.zero with | some z=>z | none=>undef),by kernel_rfl,by kernel_rfl,by kernel_rfl,by kernel_rfl,by kernel_rfl⟩,by decide⟩
variable {t0 t1 t2 t3 t4 t5 t6 t7 t8 t9 t10 t11 t12 t13 t14 t15 t16 t17 t18 t19 t20 t21 t22 t23 t24 t25 t26 t27 t28 t29:Value} {w:World} {K:KV}
def ZWf (a b c w) (K:KV):=
 (AL (Value.cells a) 25 λd=>LN 3 d λe=>CC 4 #[e] λf=>BN f λh=>MF h c λi=>GF h (lnS i) λj=>GF h (bi .gtr .i64 j<|Iw 120) λl=>PP h Bt l λm=>II m (CC 5 #[] λn=>K n)<|LN 3 d λo=>CC 6 #[o,b] λp=>XT 0 p λq=>XT 1 p λr=>LN 3 d λs=>CC 7 #[s,b] λt=>XT 0 t λu=>XT 1 t λv=>BB .neq r v λx=>MF x q λy=>GF x (bn .eql y) λz=>MF x u λa0=>GF x (bn .eql a0) λa1=>GF x (bb .neq z a1) λa2=>PP x Bt a2 λa3=>GF a3 (Cl prog 5 #[]) λa4=>GF a3 (Zb3 a4) λa5=>PP a3 Bt a5 λa6=>II a6 (K Bf)<|SS (bn .eql u) λa7=>II a7 (K Bt)<|L1 (Iw 0) λa8 a9=>NS c λb0=>BB .lss a8 b0 λb1=>II b1 (DD0<|IQ 3 c a8 λb2=>LM 3 b2 λb3=>IQ 3 c a8 λb4=>FQ 0 b4 λb5=>LQ b5 λb6=>IQ 3 c a8 λb7=>FQ 1 b7 λb8=>LQ b8 λb9=>IQ 3 c a8 λc0=>FQ 2 c0 λc1=>LQ c1 λc2=>CC 8 #[q,b3] λc3=>OO (ld1 c1) c2<|OO (ld1 b8) b9<|OO (ld1 b5) b6<|CC 9 #[u,b6,b9,c2] λc4=>BQ .neq c3 c4 λc5=>NF c5 q λc6=>NF c5 u λc7=>GF c5 (Cl prog 10 #[c6]) λc8=>GF c5 (Cl prog 11 #[c7]) λc9=>GQ false c5 (bi .neq .i64 c8 c9) λd0=>PQ c5 Bt d0 λd1=>NF d1 q λd2=>NF d1 u λd3=>GF d1 (Cl prog 12 #[d2]) λd4=>GF d1 (Cl prog 13 #[d3]) λd5=>GQ false d1 (bb .neq d4 d5) λd6=>PQ d1 Bt d6 λd7=>II d7 (K Bf)<|BB .add a8 (Iw 1) λd8=>a9 [d8])<|L1 (Iw (-1)) λd9 e0=>FL 1 d λe1=>NS e1 λe2=>BB .leq d9 e2 λe3=>II e3 (CC 14 #[q,d9] λe4=>CC 15 #[u,d9] λe5=>BB .neq e4 e5 λe6=>MF e6 q λe7=>MF e6 d9 λe8=>GF e6 (Cl prog 17 #[e7,e8]) λe9=>MF e6 u λf0=>MF e6 d9 λf1=>GF e6 (Cl prog 18 #[f0,f1]) λf2=>GF e6 (Cl prog 16 #[e9,f2]) λf3=>GF e6 (Zb3 f3) λf4=>PP e6 Bt f4 λf5=>MF f5 q λf6=>MF f5 d9 λf7=>GF f5 (Cl prog 20 #[f6,f7]) λf8=>MF f5 u λf9=>MF f5 d9 λh0=>GF f5 (Cl prog 21 #[f9,h0]) λh1=>GF f5 (Cl prog 19 #[f8,h1]) λh2=>GF f5 (Zb3 h2) λh3=>PP f5 Bt h3 λh4=>II h4 (K Bf)<|BB .add d9 (Iw 1) λh5=>e0 [h5])<|K Bt) w
theorem ZXt (h:ZWf t0 t1 t2 w K):Cl prog 3 #[t0,t1,t2] w K:=
 ZML 128 [6] Tryz.func3 h
def ZJJ (a w) (K:KV):=
 (AL (Value.cells a) 25 λb=>FL 0 b λc=>NS c λd=>BB .gtr d (Iw 50) λe=>GF e (fld 1 b) λf=>GF e (ld1 f) λh=>GF e (lnS h) λi=>GF e (bi .gtr .i64 i<|Iw 20) λj=>PP e Bt j λl=>II l (K Bf)<|L1 (Iw 0) λm n=>FL 1 b λo=>NS o λp=>BB .lss m p λq=>II q (FL 1 b λr=>IX 7 r m λs=>LN 7 s λt=>AL (Zl prog 52) 52 λu=>TN 7 u t<|FL 3 u λv=>NS v λx=>BB .gtr x (Iw 60) λy=>GF y (fld 4 u) λz=>GF y (ld1 z) λa0=>GF y (lnS a0) λa1=>GF y (bi .gtr .i64 a1<|Iw 50) λa2=>PP y Bt a2 λa3=>GF a3 (fld 5 u) λa4=>GF a3 (ld1 a4) λa5=>GF a3 (lnS a5) λa6=>GF a3 (bi .gtr .i64 a6<|Iw 50) λa7=>PP a3 Bt a7 λa8=>GF a8 (fld 6 u) λa9=>GF a8 (ld1 a9) λb0=>GF a8 (lnS b0) λb1=>GF a8 (bi .gtr .i64 b1<|Iw 20) λb2=>PP a8 Bt b2 λb3=>II b3 (K Bf)<|L1 (Iw 0) λb4 b5=>FL 3 u λb6=>NS b6 λb7=>BB .lss b4 b7 λb8=>II b8 (FL 3 u λb9=>IX 4 b9 b4 λc0=>FL 3 c0 λc1=>NS c1 λc2=>BB .gtr c2 (Iw 20) λc3=>II c3 (K Bf)<|BB .add b4 (Iw 1) λc4=>b5 [c4])<|BB .add m (Iw 1) λc5=>n [c5])<|K Bt) w
theorem ZJ1 (h:ZJJ t0 w K):Cl prog 4 #[t0] w K:=
 ZML 65 [2] Tryz.func4 h
def ZcY (w) (K:KV):=
 (CC 22 #[Iw 0,Iw 1] λa=>CC 6 #[a,Iw 8] λb=>XT 0 b λc=>XT 1 b λd=>BB .neq d (Iw 0) λe=>MF e c λf=>GF e (bn .eql f) λh=>PP e Bt h λi=>MF i c λj=>GF i (Cl prog 20 #[j,Iw 0]) λl=>GF i (lnS l) λm=>GF i (bi .neq .i64 m<|Iw 1) λn=>PP i Bt n λo=>MF o c λp=>GF o (Cl prog 12 #[p]) λq=>PP o Bt q λr=>II r (K Bf)<|L1 (Iw 0) λs t=>BB .lss s (Iw 30) λu=>II u (CC 23 #[c,Iw 2] λ_=>BB .add s (Iw 1) λv=>t [v])<|CC 12 #[c] λx=>MT x c λy=>GT x (Cl prog 17 #[y,Iw 0]) λz=>GT x (lnS z) λa0=>GT x (bi .gtr .i64 a0<|Iw 2) λa1=>PP x a1 Bf λa2=>MT a2 c λa3=>GT a2 (Cl prog 17 #[a3,Iw 1]) λa4=>GT a2 (lnS a4) λa5=>GT a2 (bi .gtr .i64 a5<|Iw 2) λa6=>PP a2 a6 Bf λa7=>K a7) w
theorem ZdB (h:ZcY w K):Cl prog 5 #[] w K:=
 ZML 45 [0] Tryz.func5 h
def ZvL (a b w) (K:KV):=
 (AL (Value.cells a) 25 λc=>LN 3 c λd=>CC 24 #[d] λe=>XT 0 e λ_=>XT 1 e λf=>BB .neq f (Iw 0) λh=>II h (K<|Value.tuple #[Pn,f])<|FL 1 c λi=>NS i λj=>CC 25 #[j,b] λl=>XT 0 l λm=>XT 1 l λn=>BB .neq n (Iw 0) λo=>II o (K<|Value.tuple #[Pn,n])<|DD0<|FQ 2 c λp=>LQ p λq=>FM 1 c λr=>NQ r λs=>SS (mkS prog 62 s s) λt=>OO (ld1 p) q<|SS (bld (Zl prog 66) #[(0,1),(1,1),(2,1),(3,1),(4,1)] [(0,q),(3,m),(2,t)]) λu=>AL (Value.cells u) 66 λv=>FL 1 c λx=>NS x λy=>L2 (Iw 0) (Iw 0) λz a0 a1=>BB .lss a0 y λa2=>II a2 (JB (λa3=>BB .add a0 (Iw 1) λa4=>a1 [a3,a4]) λa5=>IX 7 x a0 λa6=>LN 7 a6 λa7=>AL (Zl prog 52) 52 λa8=>TN 7 a8 a7<|FL 0 a8 λa9=>BB .eql a9 (Iw 0) λb0=>II b0 (LN 3 c λb1=>CC 26 #[b1,a0] λb2=>XT 0 b2 λb3=>XT 1 b2 λ_=>NN v<|FL 1 v λb4=>SS (bld (Zl prog 71) #[(0,1)] [(0,b3)]) λb5=>SS (bsl 116 1 1 (Zl prog 116) [(0,(Value.iface 71 b5))]) λb6=>SS (apS prog #[63,63] 63 b4 b6) λb7=>NN v<|FF 1 v λb8=>TN 1 b8 b7<|a5 z)<|LN 3 c λb9=>CC 27 #[b9,a0] λc0=>XT 0 c0 λc1=>XT 1 c0 λ_=>NN v<|FL 1 v λc2=>SS (bld (Zl prog 77) #[(0,1),(1,1),(2,1)] [(0,c1),(1,z)]) λc3=>AL (Value.cells c3) 77 λc4=>SS (bsl 116 1 1 (Zl prog 116) [(0,(Value.iface 75 c4))]) λc5=>SS (apS prog #[63,63] 63 c2 c5) λc6=>NN v<|FF 1 v λc7=>TN 1 c7 c6<|BB .add z (Iw 1) λc8=>a5 c8)<|BB .gtr z (Iw 0) λc9=>JA (LN 3 c λd0=>CC 29 #[d0] λd1=>NS d1 λd2=>L1 (Iw 0) λd3 d4=>BB .lss d3 d2 λd5=>II d5 (IX 6 d1 d3 λd6=>LN 6 d6 λd7=>AL (Zl prog 85) 85 λd8=>TN 6 d8 d7<|FF 0 d8 λd9=>FL 1 d9 λe0=>LN 6 d8 λe1=>SS (bld (Zl prog 88) #[(0,1),(1,6),(7,1)] [(1,e1)]) λe2=>SS (bsl 88 8 1 (Zl prog 88) [(0,e2)]) λe3=>CC 30 #[v,e0,e3] λ_=>BB .add d3 (Iw 1) λe4=>d4 [e4])<|K<|Value.tuple #[v,Iw 0]) λe5=>II c9 (CC 28 #[z] λe6=>XT 0 e6 λe7=>XT 1 e6 λ_=>NN v<|FF 4 v λe8=>TN 1 e8 e7<|e5)<|e5) w
theorem ZoN (h:ZvL t0 t1 w K):Cl prog 6 #[t0,t1] w K:=
 ZML 127 [4,5] Tryz.func6 h
def ZKc (a b w) (K:KV):=
 (AL (Value.cells a) 25 λc=>LN 3 c λd=>CC 31 #[d] λe=>XT 0 e λ_=>XT 1 e λf=>BB .neq f (Iw 0) λh=>II h (K<|Value.tuple #[Pn,f])<|FL 1 c λi=>NS i λj=>CC 32 #[j,b] λl=>XT 0 l λm=>XT 1 l λn=>BB .neq n (Iw 0) λo=>II o (K<|Value.tuple #[Pn,n])<|DD0<|LM 3 c λp=>FQ 1 c λq=>LQ q λr=>NQ r λs=>FQ 1 c λt=>LQ t λu=>NQ u λv=>AN (SS (mkS prog 22 s s) λx=>OO (ld1 t) u<|OO (ldN 3 c) p<|SS (mkS prog 62 v v) λy=>OO (ld1 q) r<|OO (ldN 3 c) p<|SS (bld (Zl prog 96) #[(0,3),(3,1),(4,1),(5,1),(6,1),(7,1),(8,1),(9,1)] [(0,p),(6,m),(5,x),(4,y)]) λz=>AL (Value.cells z) 96 λa0=>L2 (Iw 0) (Iw 0) λa1 a2 a3=>FL 1 c λa4=>NS a4 λa5=>BB .lss a2 a5 λa6=>II a6 (JB (λa7=>BB .add a2 (Iw 1) λa8=>a3 [a7,a8]) λa9=>LN 3 c λb0=>CC 33 #[b0,a2] λb1=>XT 0 b1 λb2=>XT 1 b1 λ_=>LN 3 c λb3=>CC 34 #[b3,a2] λb4=>XT 0 b4 λb5=>XT 1 b4 λ_=>NN a0<|FL 3 a0 λb6=>SS (bsl 97 1 1 (Zl prog 97) [(0,b2)]) λb7=>SS (apS prog #[92,92] 92 b6 b7) λb8=>NN a0<|FF 3 a0 λb9=>TN 1 b9 b8<|NN a0<|FL 4 a0 λc0=>SS (bsl 100 1 1 (Zl prog 100) [(0,b5)]) λc1=>SS (apS prog #[93,93] 93 c0 c1) λc2=>NN a0<|FF 4 a0 λc3=>TN 1 c3 c2<|SS (bn .eql b5) λc4=>II c4 (NN a0<|FL 5 a0 λc5=>SS (bsl 3 1 1 (Zl prog 3) [(0,(Iw (-1)))]) λc6=>SS (apS prog #[22,22] 22 c5 c6) λc7=>NN a0<|FF 5 a0 λc8=>TN 1 c8 c7<|a9 a1)<|NN a0<|FL 5 a0 λc9=>SS (bsl 3 1 1 (Zl prog 3) [(0,a1)]) λd0=>SS (apS prog #[22,22] 22 c9 d0) λd1=>NN a0<|FF 5 a0 λd2=>TN 1 d2 d1<|BB .add a1 (Iw 1) λd3=>a9 d3)<|BB .gtr a1 (Iw 0) λd4=>JA (LN 3 c λd5=>CC 36 #[d5] λd6=>L1 (Iw 0) λd7 d8=>NS d6 λd9=>BB .lss d7 d9 λe0=>II e0 (DD0<|NN a0<|FQ 6 a0 λe1=>LQ e1 λe2=>IQ 6 d6 d7 λe3=>FQ 0 e3 λe4=>FQ 1 e4 λe5=>LQ e5 λe6=>NN a0<|FQ 6 a0 λe7=>LQ e7 λe8=>IQ 6 d6 d7 λe9=>FQ 0 e9 λf0=>FQ 1 f0 λf1=>LQ f1 λf2=>IQ 1 e8 f2 λf3=>LQ f3 λf4=>IQ 6 d6 d7 λf5=>LM 6 f5 λf6=>SS (bld (Zl prog 88) #[(0,1),(1,6),(7,1)] [(1,f6)]) λf7=>OO (ld1 f3) f4<|OO (ld1 f1) f2<|OO (ld1 e7) e8<|OO (ld1 e5) e6<|OO (ld1 e1) e2<|SS (bsl 88 8 1 (Zl prog 88) [(0,f7)]) λf8=>OO (ld1 f3) f4<|OO (ld1 f1) f2<|OO (ld1 e7) e8<|OO (ld1 e5) e6<|OO (ld1 e1) e2<|SS (apS prog #[46,46] 46 f4 f8) λf9=>OO (ld1 e5) e6<|OO (ld1 e1) e2<|IQ 1 e2 e6 λh0=>TN 1 h0 f9<|BB .add d7 (Iw 1) λh1=>d8 [h1])<|K<|Value.tuple #[a0,Iw 0]) λh2=>II d4 (CC 35 #[a1] λh3=>XT 0 h3 λh4=>XT 1 h3 λ_=>NN a0<|FF 9 a0 λh5=>TN 1 h5 h4<|h2)<|h2)<|SS (mkS prog 62 v v) λh6=>OO (ld1 q) r<|OO (ldN 3 c) p<|SS (mkS prog 22 s s) λh7=>OO (ld1 t) u<|OO (ldN 3 c) p<|SS (bld (Zl prog 96) #[(0,3),(3,1),(4,1),(5,1),(6,1),(7,1),(8,1),(9,1)] [(0,p),(6,m),(5,h7),(4,h6)]) λh8=>AL (Value.cells h8) 96 λh9=>L2 (Iw 0) (Iw 0) λi0 i1 i2=>FL 1 c λi3=>NS i3 λi4=>BB .lss i1 i4 λi5=>II i5 (JB (λi6=>BB .add i1 (Iw 1) λi7=>i2 [i6,i7]) λi8=>LN 3 c λi9=>CC 33 #[i9,i1] λj0=>XT 0 j0 λj1=>XT 1 j0 λ_=>LN 3 c λj2=>CC 34 #[j2,i1] λj3=>XT 0 j3 λj4=>XT 1 j3 λ_=>NN h9<|FL 3 h9 λj5=>SS (bsl 97 1 1 (Zl prog 97) [(0,j1)]) λj6=>SS (apS prog #[92,92] 92 j5 j6) λj7=>NN h9<|FF 3 h9 λj8=>TN 1 j8 j7<|NN h9<|FL 4 h9 λj9=>SS (bsl 100 1 1 (Zl prog 100) [(0,j4)]) λl0=>SS (apS prog #[93,93] 93 j9 l0) λl1=>NN h9<|FF 4 h9 λl2=>TN 1 l2 l1<|SS (bn .eql j4) λl3=>II l3 (NN h9<|FL 5 h9 λl4=>SS (bsl 3 1 1 (Zl prog 3) [(0,(Iw (-1)))]) λl5=>SS (apS prog #[22,22] 22 l4 l5) λl6=>NN h9<|FF 5 h9 λl7=>TN 1 l7 l6<|i8 i0)<|NN h9<|FL 5 h9 λl8=>SS (bsl 3 1 1 (Zl prog 3) [(0,i0)]) λl9=>SS (apS prog #[22,22] 22 l8 l9) λm0=>NN h9<|FF 5 h9 λm1=>TN 1 m1 m0<|BB .add i0 (Iw 1) λm2=>i8 m2)<|BB .gtr i0 (Iw 0) λm3=>JA (LN 3 c λm4=>CC 36 #[m4] λm5=>L1 (Iw 0) λm6 m7=>NS m5 λm8=>BB .lss m6 m8 λm9=>II m9 (DD0<|NN h9<|FQ 6 h9 λn0=>LQ n0 λn1=>IQ 6 m5 m6 λn2=>FQ 0 n2 λn3=>FQ 1 n3 λn4=>LQ n4 λn5=>NN h9<|FQ 6 h9 λn6=>LQ n6 λn7=>IQ 6 m5 m6 λn8=>FQ 0 n8 λn9=>FQ 1 n9 λo0=>LQ o0 λo1=>IQ 1 n7 o1 λo2=>LQ o2 λo3=>IQ 6 m5 m6 λo4=>LM 6 o4 λo5=>SS (bld (Zl prog 88) #[(0,1),(1,6),(7,1)] [(1,o5)]) λo6=>OO (ld1 o2) o3<|OO (ld1 o0) o1<|OO (ld1 n6) n7<|OO (ld1 n4) n5<|OO (ld1 n0) n1<|SS (bsl 88 8 1 (Zl prog 88) [(0,o6)]) λo7=>OO (ld1 o2) o3<|OO (ld1 o0) o1<|OO (ld1 n6) n7<|OO (ld1 n4) n5<|OO (ld1 n0) n1<|SS (apS prog #[46,46] 46 o3 o7) λo8=>OO (ld1 n4) n5<|OO (ld1 n0) n1<|IQ 1 n1 n5 λo9=>TN 1 o9 o8<|BB .add m6 (Iw 1) λp0=>m7 [p0])<|K<|Value.tuple #[h9,Iw 0]) λp1=>II m3 (CC 35 #[i0] λp2=>XT 0 p2 λp3=>XT 1 p2 λ_=>NN h9<|FF 9 h9 λp4=>TN 1 p4 p3<|p1)<|p1) w
theorem ZKg (h:ZKc t0 t1 w K):Cl prog 7 #[t0,t1] w K:=
 ZML 164 [4,5] Tryz.func7 h
def Zij (a b w) (K:KV):=
 (AL (Value.cells b) 38 λc=>FL 0 c λd=>BB .lss d (Iw 0) λe=>GF e (fld 0 c) λf=>GF e (ld1 f) λh=>GF e (bi .gtr .i64 h<|Iw 6) λi=>PP e Bt i λj=>GF j (fld 0 c) λl=>GF j (ld1 l) λm=>GF j (bi .neq .i64 m<|Iw 4) λn=>MF j n λo=>MT o a λp=>GT o (fld 1 c) λq=>GT o (ld1 q) λr=>GT o (Cl prog 37 #[p,r]) λs=>GT o (Zb3 s) λt=>GF j (pk o t Bf) λu=>PP j Bt u λv=>GF v (fld 0 c) λx=>GF v (ld1 x) λy=>GF v (bi .eql .i64 y<|Iw 2) λz=>MF v z λa0=>MT a0 a λa1=>GT a0 (fld 2 c) λa2=>GT a0 (ld1 a2) λa3=>GT a0 (Cl prog 37 #[a1,a3]) λa4=>GT a0 (Zb3 a4) λa5=>GF v (pk a0 a5 Bf) λa6=>PP v Bt a6 λa7=>II a7 (K<|Iw 1)<|FL 0 c λa8=>BB .eql a8 (Iw 0) λa9=>II a9 (FL 1 c λb0=>CC 38 #[a,b0] λb1=>K b1)<|BB .eql a8 (Iw 1) λb2=>II b2 (FL 1 c λb3=>CC 39 #[a,b3] λb4=>K b4)<|BB .eql a8 (Iw 2) λb5=>II b5 (FL 1 c λb6=>FL 2 c λb7=>CC 40 #[a,b6,b7] λb8=>K b8)<|BB .eql a8 (Iw 3) λb9=>II b9 (FL 1 c λc0=>CC 41 #[a,c0] λc1=>K c1)<|BB .eql a8 (Iw 4) λc2=>II c2 (NN a<|FL 4 a λc3=>SS (bn .eql c3) λc4=>II c4 (K<|Iw 150)<|NN a<|FL 4 a λc5=>CC 42 #[c5] λc6=>K c6)<|FL 1 c λc7=>CC 43 #[a,c7] λc8=>SS (bn .eql c8) λc9=>II c9 (K<|Iw 1)<|FL 0 c λd0=>BB .eql d0 (Iw 5) λd1=>II d1 (DD0<|NN a<|FM 4 a λd2=>NN c8<|FM 1 c8 λd3=>CC 44 #[d2,d3] λd4=>K d4)<|FL 1 c λd5=>CC 45 #[a,d5,c8] λd6=>K d6) w
theorem ZhK (h:Zij t0 t1 w K):Cl prog 8 #[t0,t1] w K:=
 ZML 103 [4] Tryz.func8 h
def ZWs (a b c d w) (K:KV):=
 (BB .lss b (Iw 0) λe=>MF e b λf=>GF e (bi .gtr .i64 f<|Iw 6) λh=>PP e Bt h λi=>MF i b λj=>GF i (bi .neq .i64 j<|Iw 4) λl=>MF i l λm=>MT m a λn=>MT m c λo=>GT m (Cl prog 46 #[n,o]) λp=>GT m (Zb3 p) λq=>GF i (pk m q Bf) λr=>PP i Bt r λs=>MF s b λt=>GF s (bi .eql .i64 t<|Iw 2) λu=>MF s u λv=>MT v a λx=>MT v d λy=>GT v (Cl prog 46 #[x,y]) λz=>GT v (Zb3 z) λa0=>GF s (pk v a0 Bf) λa1=>PP s Bt a1 λa2=>MF a2 b λa3=>GF a2 (bi .gtr .i64 a3<|Iw 4) λa4=>MF a2 a4 λa5=>MT a5 a λa6=>GT a5 (nc a6) λa7=>GT a5 (fld 5 a7) λa8=>GT a5 (ld1 a8) λa9=>MT a5 c λb0=>GT a5 (ixS 1 a9 b0) λb1=>GT a5 (ld1 b1) λb2=>GT a5 (bi .lss .i64 b2<|Iw 0) λb3=>GF a2 (pk a5 b3 Bf) λb4=>PP a2 Bt b4 λb5=>II b5 (K<|Iw 1)<|BB .eql b (Iw 0) λb6=>II b6 (CC 47 #[a,c] λb7=>K b7)<|BB .eql b (Iw 1) λb8=>II b8 (CC 48 #[a,c] λb9=>K b9)<|BB .eql b (Iw 2) λc0=>II c0 (CC 49 #[a,c,d] λc1=>K c1)<|BB .eql b (Iw 3) λc2=>II c2 (CC 50 #[a,c] λc3=>K c3)<|BB .eql b (Iw 4) λc4=>II c4 (NN a<|FL 9 a λc5=>SS (bn .eql c5) λc6=>II c6 (K<|Iw 150)<|NN a<|FL 9 a λc7=>CC 51 #[c7] λc8=>K c8)<|BB .eql b (Iw 5) λc9=>II c9 (DD0<|NN a<|FM 9 a λd0=>NN a<|FM 5 a λd1=>IQ 1 d1 c λd2=>LQ d2 λd3=>CC 52 #[d0,d3] λd4=>K d4)<|CC 53 #[a,c] λd5=>K d5) w
theorem ZXn (h:ZWs t0 t1 t2 t3 w K):Cl prog 9 #[t0,t1,t2,t3] w K:=
 ZML 100 [8] Tryz.func9 h
def ZKn (a w) (K:KV):=
 (NN a<|FL 4 a λb=>SS (bn .eql b) λc=>II c (K<|Iw 0)<|NN a<|FL 4 a λd=>CC 54 #[d] λe=>K e) w
theorem ZKq (h:ZKn t0 w K):Cl prog 10 #[t0] w K:=
 ZML 13 [2] Tryz.func10 h
def ZVK (a w) (K:KV):=
 (NN a<|FL 9 a λb=>SS (bn .eql b) λc=>II c (K<|Iw 0)<|NN a<|FL 9 a λd=>NN d<|FL 8 d λe=>K e) w
theorem ZWD (h:ZVK t0 w K):Cl prog 11 #[t0] w K:=
 ZML 15 [2] Tryz.func11 h
def ZeG (a w) (K:KV):=
 (DD0<|NN a<|FM 3 a λb=>NN a<|FQ 3 a λc=>LQ c λd=>CC 55 #[b,Iw 0] λe=>OO (ld1 c) d<|CC 55 #[d,Iw 1] λf=>BQ .add e f λh=>BQ .gtr h (Iw 0) λi=>II i (K Bf)<|NN a<|FL 1 a λj=>NS j λl=>L1 (Iw 0) λm n=>BB .lss m l λo=>II o (IX 1 j m λp=>LL p λq=>NN a<|FL 2 a λr=>IX 1 r m λs=>LL s λt=>CC 56 #[t,Value.func (.func 57) #[] #[]] λu=>II u (K Bf)<|SS (clI prog q "Waiting" #[]) λv=>DD0<|NQ v λx=>BQ .gtr x (Iw 0) λy=>NT y v λz=>GQ true y (ixS 6 z<|Iw 0) λa0=>GQ true y (fld 0 a0) λa1=>GQ true y (fld 0 a1) λa2=>GQ true y (ld1 a2) λa3=>NT y a λa4=>GQ true y (nc a4) λa5=>GQ true y (fld 0 a5) λa6=>GQ true y (ld1 a6) λa7=>GQ true y (bi .lss .i64 a3 a7) λa8=>PQ y a8 Bf λa9=>II a9 (K Bf)<|CC 43 #[a,m] λb0=>SS (bn .neq b0) λb1=>MT b1 b0 λb2=>GT b1 (nc b2) λb3=>GT b1 (fld 0 b3) λb4=>GT b1 (ld1 b4) λb5=>GT b1 (Cl prog 58 #[b5]) λb6=>GT b1 (bi .gtr .i64 b6<|Iw 0) λb7=>PP b1 b7 Bf λb8=>II b8 (K Bf)<|BB .add m (Iw 1) λb9=>n [b9])<|K Bt) w
theorem ZeO (h:ZeG t0 w K):Cl prog 12 #[t0] w K:=
 ZML 68 [2] Tryz.func12 h
def ZVH (a w) (K:KV):=
 (NN a<|FL 8 a λb=>CC 59 #[b,Iw 0] λc=>BB .gtr c (Iw 0) λd=>MF d a λe=>GF d (nc e) λf=>GF d (fld 8 f) λh=>GF d (ld1 h) λi=>GF d (Cl prog 59 #[i,Iw 1]) λj=>GF d (bi .gtr .i64 j<|Iw 0) λl=>PP d Bt l λm=>II m (K Bf)<|L1 (Iw 0) λn o=>NN a<|FF 0 a λp=>FL 1 p λq=>NS q λr=>BB .lss n r λs=>II s (L1 (Iw 0) λt u=>NN a<|FL 6 a λv=>IX 1 v n λx=>LL x λy=>NS y λz=>BB .lss t z λa0=>II a0 (NN a<|FL 6 a λa1=>IX 1 a1 n λa2=>LL a2 λa3=>IX 8 a3 t λa4=>FL 0 a4 λa5=>BB .neq a5 (Iw 2) λa6=>II a6 (K Bf)<|BB .add t (Iw 1) λa7=>u [a7])<|SS (bsl 85 6 0 #[] []) λ_=>NN a<|FL 5 a λa8=>IX 1 a8 n λa9=>LL a9 λb0=>BB .lss b0 (Iw 0) λb1=>JB (λb2=>DD0<|NQ b2 λb3=>BQ .gtr b3 (Iw 0) λb4=>NT b4 b2 λb5=>GQ true b4 (ixS 6 b5<|Iw 0) λb6=>GQ true b4 (fld 0 b6) λb7=>GQ true b4 (fld 0 b7) λb8=>GQ true b4 (ld1 b8) λb9=>NT b4 a λc0=>GQ true b4 (nc c0) λc1=>GQ true b4 (fld 0 c1) λc2=>GQ true b4 (fld 2 c2) λc3=>GQ true b4 (ld1 c3) λc4=>GQ true b4 (bi .lss .i64 b9 c4) λc5=>PQ b4 c5 Bf λc6=>II c6 (K Bf)<|BB .add n (Iw 1) λc7=>o [c7]) λc8=>II b1 (NN a<|FL 3 a λc9=>IX 1 c9 n λd0=>LL d0 λd1=>CC 60 #[d1] λd2=>c8 d2)<|NN a<|FL 4 a λd3=>IX 1 d3 n λd4=>LL d4 λd5=>CC 61 #[d5] λd6=>NN a<|FL 4 a λd7=>IX 1 d7 n λd8=>LL d8 λd9=>CC 62 #[d9] λe0=>BB .gtr e0 (Iw 0) λe1=>II e1 (K Bf)<|c8 d6)<|K Bt) w
theorem ZWH (h:ZVH t0 w K):Cl prog 13 #[t0] w K:=
 ZML 104 [2] Tryz.func13 h
def ZKo (a b w) (K:KV):=
 (CC 37 #[a,b] λc=>BN c λd=>II d (K<|Iw (-1))<|NN a<|FL 1 a λe=>IX 1 e b λf=>LL f λh=>SS (clI prog h "State" #[]) λi=>K i) w
theorem ZKs (h:ZKo t0 t1 w K):Cl prog 14 #[t0,t1] w K:=
 ZML 17 [4] Tryz.func14 h
def ZVL (a b w) (K:KV):=
 (CC 46 #[a,b] λc=>BN c λd=>II d (K<|Iw (-1))<|NN a<|FL 5 a λe=>IX 1 e b λf=>LL f λh=>BB .lss h (Iw 0) λi=>II i (NN a<|FL 3 a λj=>IX 1 j b λl=>LL l λm=>NN m<|FL 4 m λn=>K n)<|NN a<|FL 4 a λo=>IX 1 o b λp=>LL p λq=>NN q<|FL 4 q λr=>K r) w
theorem ZWB (h:ZVL t0 t1 w K):Cl prog 15 #[t0,t1] w K:=
 ZML 37 [4] Tryz.func15 h
def Zdv (a b w) (K:KV):=
 (NS a λc=>NS b λd=>BB .neq c d λe=>II e (K Bf)<|L1 (Iw 0) λf h=>NS a λi=>BB .lss f i λj=>II j (DD0<|IQ 7 a f λl=>LM 7 l λm=>IQ 7 b f λn=>LM 7 n λo=>SS (bO prog .neq 129 (Operand.tmp 20) (Operand.tmp 24) m o) λp=>II p (K Bf)<|BB .add f (Iw 1) λq=>h [q])<|K Bt) w
theorem Zd2 (h:Zdv t0 t1 w K):Cl prog 16 #[t0,t1] w K:=
 ZML 26 [4] Tryz.func16 h
def Zhc (a b w) (K:KV):=
 (CC 37 #[a,b] λc=>BN c λd=>II d (K Sn)<|NN a<|FL 1 a λe=>IX 1 e b λf=>LL f λh=>SS (clI prog h "Log" #[]) λi=>K i) w
theorem Zgr (h:Zhc t0 t1 w K):Cl prog 17 #[t0,t1] w K:=
 ZML 17 [4] Tryz.func17 h
def ZWb (a b w) (K:KV):=
 (CC 46 #[a,b] λc=>BN c λd=>II d (K Sn)<|NN a<|FL 5 a λe=>IX 1 e b λf=>LL f λh=>BB .lss h (Iw 0) λi=>II i (NN a<|FL 3 a λj=>IX 1 j b λl=>LL l λm=>CC 63 #[m] λn=>K n)<|NN a<|FL 4 a λo=>IX 1 o b λp=>LL p λq=>CC 64 #[q] λr=>K r) w
theorem ZW7 (h:ZWb t0 t1 w K):Cl prog 18 #[t0,t1] w K:=
 ZML 33 [4] Tryz.func18 h
def ZJq (a b w) (K:KV):=
 (NS a λc=>NS b λd=>BB .neq c d λe=>II e (K Bf)<|L1 (Iw 0) λf h=>NS a λi=>BB .lss f i λj=>II j (DD0<|IQ 8 a f λl=>LM 8 l λm=>IQ 8 b f λn=>LM 8 n λo=>SS (bO prog .neq 88 (Operand.tmp 20) (Operand.tmp 24) m o) λp=>II p (K Bf)<|BB .add f (Iw 1) λq=>h [q])<|K Bt) w
theorem ZJy (h:ZJq t0 t1 w K):Cl prog 19 #[t0,t1] w K:=
 ZML 26 [4] Tryz.func19 h
def Zg4 (a b w) (K:KV):=
 (CC 37 #[a,b] λc=>BN c λd=>II d (K Sn)<|NN a<|FL 2 a λe=>IX 1 e b λf=>LL f λh=>CC 65 #[h] λi=>K i) w
theorem ZgI (h:Zg4 t0 t1 w K):Cl prog 20 #[t0,t1] w K:=
 ZML 17 [4] Tryz.func20 h
def ZV4 (a b w) (K:KV):=
 (SS (bsl 88 8 0 #[] []) λc=>CC 46 #[a,b] λd=>BN d λe=>II e (K c)<|NN a<|FL 6 a λf=>IX 1 f b λh=>LL h λi=>SS (apS prog #[46,46] 46 c i) λj=>K j) w
theorem ZW4 (h:ZV4 t0 t1 w K):Cl prog 21 #[t0,t1] w K:=
 ZML 21 [4] Tryz.func21 h
def ZdY (a b w) (K:KV):=
 (AL (Zl prog 25) 25 λc=>SS (bld (Zl prog 133) #[(0,1),(1,1),(2,1)] [(0,(Iw 0)),(1,(Iw 2)),(2,(Iw 1))]) λd=>SS (bsl 133 3 1 (Zl prog 133) [(0,d)]) λe=>SS (bld (Zl prog 54) #[(0,1),(1,1),(2,1),(3,1)] [(0,(Iw 0)),(1,(Iw 0)),(2,(Iw 1)),(3,e)]) λf=>SS (bld (Zl prog 133) #[(0,1),(1,1),(2,1)] [(0,(Iw 0)),(1,(Iw 3)),(2,(Iw 1))]) λh=>SS (bsl 133 3 1 (Zl prog 133) [(0,h)]) λi=>SS (bld (Zl prog 54) #[(0,1),(1,1),(2,1),(3,1)] [(0,(Iw 1)),(1,(Iw 0)),(2,(Iw 0)),(3,i)]) λj=>SS (bsl 54 4 2 (Zl prog 54) [(0,f),(1,j)]) λl=>SS (bsl 3 1 1 (Zl prog 3) [(0,(Iw (-1)))]) λm=>SS (bsl 3 1 1 (Zl prog 3) [(0,(Iw 0))]) λn=>SS (bsl 3 1 1 (Zl prog 3) [(0,(Iw 0))]) λo=>SS (bld (Zl prog 133) #[(0,1),(1,1),(2,1)] [(1,(Iw 3))]) λp=>SS (bsl 133 3 1 (Zl prog 133) [(0,p)]) λq=>SS (bld (Zl prog 52) #[(0,1),(1,1),(2,1),(3,1),(4,1),(5,1),(6,1)] [(0,a),(1,(Iw 2)),(3,l),(4,n),(5,o),(6,q)]) λr=>SS (bsl 3 1 1 (Zl prog 3) [(0,(Iw 0))]) λs=>SS (bsl 3 1 1 (Zl prog 3) [(0,(Iw 0))]) λt=>SS (bld (Zl prog 52) #[(0,1),(1,1),(2,1),(3,1),(4,1),(5,1),(6,1)] [(0,b),(1,(Iw 2)),(3,l),(4,s),(5,t)]) λu=>SS (bsl 52 7 2 (Zl prog 52) [(0,r),(1,u)]) λv=>SS (bld (Zl prog 25) #[(0,1),(1,1),(2,1)] [(0,m),(2,(Iw 20)),(1,v)]) λx=>TN 3 c x<|LM 3 c λy=>K y) w
theorem Zed (h:ZdY t0 t1 w K):Cl prog 22 #[t0,t1] w K:=
 ZMM 28 [(4,some 25)] Tryz.func22 h
def Zc2 (a b w) (K:KV):=
 (L2 Bt (Iw 0) λc d e=>BB .lss d b λf=>II f (L1 (Iw 0) λh i=>BB .lss h (Iw 24) λj=>II j (SS (bld (Zl prog 38) #[(0,1),(1,1),(2,1)] [(0,(Iw 1)),(1,d)]) λl=>CC 8 #[a,l] λ_=>BB .add h (Iw 1) λm=>i [m])<|L2 c (Iw 0) λn o p=>BB .lss o b λq=>II q (L2 n (Iw 0) λr s t=>BB .lss s (Iw 8) λu=>II u (MT r a λv=>MT r d λx=>MT r o λy=>GT r (bld (Zl prog 38) #[(0,1),(1,1),(2,1)] [(0,(Iw 2)),(1,x),(2,y)]) λz=>GT r (Cl prog 8 #[v,z]) λa0=>GT r (bi .neq .i64 a0<|Iw 2) λa1=>PP r a1 Bf λa2=>BB .add s (Iw 1) λa3=>t [a2,a3])<|BB .add o (Iw 1) λa4=>p [r,a4])<|BB .add d (Iw 1) λa5=>e [n,a5])<|L2 c (Iw 0) λa6 a7 a8=>BB .lss a7 b λa9=>II a9 (CC 20 #[a,a7] λb0=>NS b0 λb1=>BB .eql b1 (Iw 0) λb2=>SS (bld (Zl prog 38) #[(0,1),(1,1),(2,1)] [(0,(Iw 0)),(1,a7)]) λb3=>CC 8 #[a,b3] λb4=>MT a6 b4 λb5=>GT a6 (bi .neq .i64 b5<|Iw 2) λb6=>MT a6 b6 λb7=>MF b7 b2 λb8=>GF b7 (Zb3 b8) λb9=>GT a6 (pk b7 Bt b9) λc0=>PP a6 c0 Bf λc1=>SS (bld (Zl prog 38) #[(0,1),(1,1),(2,1)] [(0,(Iw 3)),(1,a7)]) λc2=>CC 8 #[a,c2] λ_=>BB .add a7 (Iw 1) λc3=>a8 [c1,c3])<|SS (bld (Zl prog 38) #[(0,1),(1,1),(2,1)] [(0,(Iw 4))]) λc4=>CC 8 #[a,c4] λ_=>L1 (Iw 0) λc5 c6=>BB .lss c5 b λc7=>II c7 (SS (bld (Zl prog 38) #[(0,1),(1,1),(2,1)] [(0,(Iw 5)),(1,c5)]) λc8=>CC 8 #[a,c8] λ_=>BB .add c5 (Iw 1) λc9=>c6 [c9])<|L1 (Iw 0) λd0 d1=>BB .lss d0 b λd2=>II d2 (SS (bld (Zl prog 38) #[(0,1),(1,1),(2,1)] [(0,(Iw 6)),(1,d0)]) λd3=>CC 8 #[a,d3] λ_=>BB .add d0 (Iw 1) λd4=>d1 [d4])<|K a6) w
theorem ZdG (h:Zc2 t0 t1 w K):Cl prog 23 #[t0,t1] w K:=
 ZML 95 [4] Tryz.func23 h
def Zks (a w) (K:KV):=
 (AL (Value.cells a) 25 λb=>FL 2 b λc=>CC 70 #[c,Iw 0,Iw 1099511627776] λd=>GT d (fld 1 b) λe=>GT d (ld1 e) λf=>GT d (lnS f) λh=>GT d (Cl prog 70 #[h,Iw 1,Iw 8]) λi=>PP d i Bf λj=>CC 69 #[j,Iw 1] λl=>SS (bsl 108 1 2 (Zl prog 108) [(0,(Value.func (Fn.func 67) #[] #[b])),(1,l)]) λm=>CC 66 #[m] λn=>BB .neq n (Iw 0) λo=>II o (K<|Value.tuple #[(Iw (-1)),n])<|FL 1 b λp=>NS p λq=>L1 (Iw 0) λr s=>BB .lss r q λt=>II t (IX 7 p r λu=>LN 7 u λv=>AL (Zl prog 52) 52 λx=>TN 7 x v<|LN 7 x λy=>FL 0 b λz=>NS z λa0=>CC 71 #[y,a0] λa1=>BB .neq a1 (Iw 0) λa2=>II a2 (K<|Value.tuple #[r,a1])<|BB .add r (Iw 1) λa3=>s [a3])<|K<|Value.tuple #[(Iw (-1)),Iw 0]) w
theorem Ziy (h:Zks t0 w K):Cl prog 24 #[t0] w K:=
 ZML 42 [2,3] Tryz.func24 h
def Zn6 (a b w) (K:KV):=
 (BB .lss a (Iw 1) λc=>MF c a λd=>GF c (bi .gtr .i64 d<|Iw 8) λe=>PP c Bt e λf=>MF f b λh=>GF f (bi .lss .i64 h<|Iw 1) λi=>PP f Bt i λj=>MF j b λl=>GF j (bi .gtr .i64 l<|Iw 16) λm=>PP j Bt m λn=>II n (K<|Value.tuple #[Pn,Iw 1])<|SS (bld (Zl prog 145) #[(0,1),(1,1),(2,8320)] [(0,a),(1,b)]) λo=>AL (Value.cells o) 145 λp=>K<|Value.tuple #[p,Iw 0]) w
theorem Zhf (h:Zn6 t0 t1 w K):Cl prog 25 #[t0,t1] w K:=
 ZML 24 [4,5] Tryz.func25 h
def ZvA (a b w) (K:KV):=
 (AL (Value.cells a) 25 λc=>LN 3 c λd=>CC 24 #[d] λe=>XT 0 e λ_=>XT 1 e λf=>BB .neq f (Iw 0) λh=>II h (K<|Value.tuple #[Pn,f])<|BB .lss b (Iw 0) λi=>MF i b λj=>GF i (fld 1 c) λl=>GF i (ld1 l) λm=>GF i (lnS m) λn=>GF i (bi .geq .i64 j n) λo=>PP i Bt o λp=>GF p (fld 1 c) λq=>GF p (ld1 q) λr=>MF p b λs=>GF p (ixS 7 r s) λt=>GF p (fld 0 t) λu=>GF p (ld1 u) λv=>GF p (bi .neq .i64 v<|Iw 0) λx=>PP p Bt x λy=>II y (K<|Value.tuple #[Pn,Iw 1])<|FL 1 c λz=>NS z λa0=>CC 72 #[a0,b] λa1=>XT 0 a1 λa2=>XT 1 a1 λa3=>BB .neq a3 (Iw 0) λa4=>II a4 (K<|Value.tuple #[Pn,a3])<|DD0<|LM 3 c λa5=>FQ 1 c λa6=>LQ a6 λa7=>IQ 7 a7 b λa8=>FQ 2 a8 λa9=>LQ a9 λb0=>FQ 1 c λb1=>LQ b1 λb2=>IQ 7 b2 b λb3=>FQ 6 b3 λb4=>LQ b4 λb5=>NQ b5 λb6=>CC 73 #[Iw 64] λb7=>OO (ld1 b4) b5<|OO (ld1 b1) b2<|OO (ld1 a9) b0<|OO (ld1 a6) a7<|OO (ldN 3 c) a5<|AN (SS (bld (Zl prog 152) #[(0,1)] [(0,b7)]) λb8=>OO (ld1 b4) b5<|OO (ld1 b1) b2<|OO (ld1 a9) b0<|OO (ld1 a6) a7<|OO (ldN 3 c) a5<|CC 74 #[a5] λb9=>OO (ld1 b4) b5<|OO (ld1 b1) b2<|OO (ld1 a9) b0<|OO (ld1 a6) a7<|SS (bld (Zl prog 155) #[(0,1),(1,1),(2,3),(5,1),(6,1),(7,1),(8,1)] [(0,a2),(1,b8),(2,b9),(3,b),(4,b0),(5,b6)]) λc0=>AL (Value.cells c0) 155 λc1=>K<|Value.tuple #[c1,Iw 0])<|CC 74 #[a5] λc2=>OO (ld1 b4) b5<|OO (ld1 b1) b2<|OO (ld1 a9) b0<|OO (ld1 a6) a7<|SS (bld (Zl prog 152) #[(0,1)] [(0,b7)]) λc3=>OO (ld1 b4) b5<|OO (ld1 b1) b2<|OO (ld1 a9) b0<|OO (ld1 a6) a7<|OO (ldN 3 c) a5<|SS (bld (Zl prog 155) #[(0,1),(1,1),(2,3),(5,1),(6,1),(7,1),(8,1)] [(0,a2),(1,c3),(2,c2),(3,b),(4,b0),(5,b6)]) λc4=>AL (Value.cells c4) 155 λc5=>K<|Value.tuple #[c5,Iw 0]) w
theorem Zol (h:ZvA t0 t1 w K):Cl prog 26 #[t0,t1] w K:=
 ZML 68 [4,5] Tryz.func26 h
def ZrQ (a b w) (K:KV):=
 (AL (Value.cells a) 25 λc=>LN 3 c λd=>CC 24 #[d] λe=>XT 0 e λ_=>XT 1 e λf=>BB .neq f (Iw 0) λh=>II h (K<|Value.tuple #[Pn,f])<|BB .lss b (Iw 0) λi=>MF i b λj=>GF i (fld 1 c) λl=>GF i (ld1 l) λm=>GF i (lnS m) λn=>GF i (bi .geq .i64 j n) λo=>PP i Bt o λp=>GF p (fld 1 c) λq=>GF p (ld1 q) λr=>MF p b λs=>GF p (ixS 7 r s) λt=>GF p (fld 0 t) λu=>GF p (ld1 u) λv=>GF p (bi .neq .i64 v<|Iw 1) λx=>PP p Bt x λy=>II y (K<|Value.tuple #[Pn,Iw 1])<|DD0<|LM 3 c λz=>FQ 1 c λa0=>LQ a0 λa1=>IQ 7 a1 b λa2=>FQ 2 a2 λa3=>LQ a3 λa4=>FQ 1 c λa5=>LQ a5 λa6=>IQ 7 a6 b λa7=>FQ 6 a7 λa8=>LQ a8 λa9=>NQ a9 λb0=>AN (CC 75 #[z] λb1=>OO (ld1 a8) a9<|OO (ld1 a5) a6<|OO (ld1 a3) a4<|OO (ld1 a0) a1<|AN (CC 73 #[Iw 64] λb2=>OO (ld1 a8) a9<|OO (ld1 a5) a6<|OO (ld1 a3) a4<|OO (ld1 a0) a1<|AN (CC 76 #[] λb3=>OO (ld1 a8) a9<|OO (ld1 a5) a6<|OO (ld1 a3) a4<|OO (ld1 a0) a1<|AN (CC 77 #[] λb4=>OO (ld1 a8) a9<|OO (ld1 a5) a6<|OO (ld1 a3) a4<|OO (ld1 a0) a1<|SS (ZlQ) λb5=>OO (ld1 a8) a9<|OO (ld1 a5) a6<|OO (ld1 a3) a4<|OO (ld1 a0) a1<|OO (ldN 3 c) z<|SS (bld (Zl prog 162) #[(0,3),(3,1),(4,1),(5,1),(6,1),(7,1),(8,1),(9,1),(10,1)] [(0,b1),(1,b),(2,a4),(3,b0),(4,b2),(5,b3),(6,b4),(7,b5)]) λb6=>AL (Value.cells b6) 162 λb7=>FL 1 c λb8=>NS b8 λb9=>L1 (Iw 0) λc0 c1=>BB .lss c0 b9 λc2=>II c2 (JA (BB .add c0 (Iw 1) λc3=>c1 [c3]) λc4=>IX 7 b8 c0 λc5=>LN 7 c5 λc6=>AL (Zl prog 52) 52 λc7=>TN 7 c7 c6<|FL 0 c7 λc8=>BB .eql c8 (Iw 0) λc9=>II c9 (NN b7<|FL 9 b7 λd0=>SS (upM prog 160 d0 c0<|Iw 0) λ_=>c4)<|c4)<|K<|Value.tuple #[b7,Iw 0])<|SS (ZlQ) λd1=>OO (ld1 a8) a9<|OO (ld1 a5) a6<|OO (ld1 a3) a4<|OO (ld1 a0) a1<|OO (ldN 3 c) z<|CC 77 #[] λd2=>OO (ld1 a8) a9<|OO (ld1 a5) a6<|OO (ld1 a3) a4<|OO (ld1 a0) a1<|SS (bld (Zl prog 162) #[(0,3),(3,1),(4,1),(5,1),(6,1),(7,1),(8,1),(9,1),(10,1)] [(0,b1),(1,b),(2,a4),(3,b0),(4,b2),(5,b3),(6,d2),(7,d1)]) λd3=>AL (Value.cells d3) 162 λd4=>FL 1 c λd5=>NS d5 λd6=>L1 (Iw 0) λd7 d8=>BB .lss d7 d6 λd9=>II d9 (JA (BB .add d7 (Iw 1) λe0=>d8 [e0]) λe1=>IX 7 d5 d7 λe2=>LN 7 e2 λe3=>AL (Zl prog 52) 52 λe4=>TN 7 e4 e3<|FL 0 e4 λe5=>BB .eql e5 (Iw 0) λe6=>II e6 (NN d4<|FL 9 d4 λe7=>SS (upM prog 160 e7 d7<|Iw 0) λ_=>e1)<|e1)<|K<|Value.tuple #[d4,Iw 0])<|SS (ZlQ) λe8=>OO (ld1 a8) a9<|OO (ld1 a5) a6<|OO (ld1 a3) a4<|OO (ld1 a0) a1<|OO (ldN 3 c) z<|CC 76 #[] λe9=>OO (ld1 a8) a9<|OO (ld1 a5) a6<|OO (ld1 a3) a4<|OO (ld1 a0) a1<|CC 77 #[] λf0=>OO (ld1 a8) a9<|OO (ld1 a5) a6<|OO (ld1 a3) a4<|OO (ld1 a0) a1<|SS (bld (Zl prog 162) #[(0,3),(3,1),(4,1),(5,1),(6,1),(7,1),(8,1),(9,1),(10,1)] [(0,b1),(1,b),(2,a4),(3,b0),(4,b2),(5,e9),(6,f0),(7,e8)]) λf1=>AL (Value.cells f1) 162 λf2=>FL 1 c λf3=>NS f3 λf4=>L1 (Iw 0) λf5 f6=>BB .lss f5 f4 λf7=>II f7 (JA (BB .add f5 (Iw 1) λf8=>f6 [f8]) λf9=>IX 7 f3 f5 λh0=>LN 7 h0 λh1=>AL (Zl prog 52) 52 λh2=>TN 7 h2 h1<|FL 0 h2 λh3=>BB .eql h3 (Iw 0) λh4=>II h4 (NN f2<|FL 9 f2 λh5=>SS (upM prog 160 h5 f5<|Iw 0) λ_=>f9)<|f9)<|K<|Value.tuple #[f2,Iw 0])<|SS (ZlQ) λh6=>OO (ld1 a8) a9<|OO (ld1 a5) a6<|OO (ld1 a3) a4<|OO (ld1 a0) a1<|OO (ldN 3 c) z<|CC 73 #[Iw 64] λh7=>OO (ld1 a8) a9<|OO (ld1 a5) a6<|OO (ld1 a3) a4<|OO (ld1 a0) a1<|CC 76 #[] λh8=>OO (ld1 a8) a9<|OO (ld1 a5) a6<|OO (ld1 a3) a4<|OO (ld1 a0) a1<|CC 77 #[] λh9=>OO (ld1 a8) a9<|OO (ld1 a5) a6<|OO (ld1 a3) a4<|OO (ld1 a0) a1<|SS (bld (Zl prog 162) #[(0,3),(3,1),(4,1),(5,1),(6,1),(7,1),(8,1),(9,1),(10,1)] [(0,b1),(1,b),(2,a4),(3,b0),(4,h7),(5,h8),(6,h9),(7,h6)]) λi0=>AL (Value.cells i0) 162 λi1=>FL 1 c λi2=>NS i2 λi3=>L1 (Iw 0) λi4 i5=>BB .lss i4 i3 λi6=>II i6 (JA (BB .add i4 (Iw 1) λi7=>i5 [i7]) λi8=>IX 7 i2 i4 λi9=>LN 7 i9 λj0=>AL (Zl prog 52) 52 λj1=>TN 7 j1 j0<|FL 0 j1 λj2=>BB .eql j2 (Iw 0) λj3=>II j3 (NN i1<|FL 9 i1 λj4=>SS (upM prog 160 j4 i4<|Iw 0) λ_=>i8)<|i8)<|K<|Value.tuple #[i1,Iw 0])<|SS (ZlQ) λj5=>OO (ld1 a8) a9<|OO (ld1 a5) a6<|OO (ld1 a3) a4<|OO (ld1 a0) a1<|OO (ldN 3 c) z<|CC 75 #[z] λj6=>OO (ld1 a8) a9<|OO (ld1 a5) a6<|OO (ld1 a3) a4<|OO (ld1 a0) a1<|CC 73 #[Iw 64] λj7=>OO (ld1 a8) a9<|OO (ld1 a5) a6<|OO (ld1 a3) a4<|OO (ld1 a0) a1<|CC 76 #[] λj8=>OO (ld1 a8) a9<|OO (ld1 a5) a6<|OO (ld1 a3) a4<|OO (ld1 a0) a1<|CC 77 #[] λj9=>OO (ld1 a8) a9<|OO (ld1 a5) a6<|OO (ld1 a3) a4<|OO (ld1 a0) a1<|SS (bld (Zl prog 162) #[(0,3),(3,1),(4,1),(5,1),(6,1),(7,1),(8,1),(9,1),(10,1)] [(0,j6),(1,b),(2,a4),(3,b0),(4,j7),(5,j8),(6,j9),(7,j5)]) λl0=>AL (Value.cells l0) 162 λl1=>FL 1 c λl2=>NS l2 λl3=>L1 (Iw 0) λl4 l5=>BB .lss l4 l3 λl6=>II l6 (JA (BB .add l4 (Iw 1) λl7=>l5 [l7]) λl8=>IX 7 l2 l4 λl9=>LN 7 l9 λm0=>AL (Zl prog 52) 52 λm1=>TN 7 m1 m0<|FL 0 m1 λm2=>BB .eql m2 (Iw 0) λm3=>II m3 (NN l1<|FL 9 l1 λm4=>SS (upM prog 160 m4 l4<|Iw 0) λ_=>l8)<|l8)<|K<|Value.tuple #[l1,Iw 0]) w
theorem Zm5 (h:ZrQ t0 t1 w K):Cl prog 27 #[t0,t1] w K:=
 ZML 77 [4,5] Tryz.func27 h
def Zvg (a w) (K:KV):=
 (BB .lss a (Iw 1) λb=>MF b a λc=>GF b (bi .gtr .i64 c<|Iw 8) λd=>PP b Bt d λe=>II e (K<|Value.tuple #[Pn,Iw 1])<|SS (bld (Zl prog 167) #[(0,1),(1,1),(2,1),(3,16),(19,2),(21,1),(22,1)] [(0,a)]) λf=>AL (Value.cells f) 167 λh=>K<|Value.tuple #[h,Iw 0]) w
theorem ZoD (h:Zvg t0 w K):Cl prog 28 #[t0] w K:=
 ZML 13 [2,3] Tryz.func28 h
def Ziq (a w) (K:KV):=
 (AL (Value.cells a) 25 λb=>FL 1 b λc=>NS c λd=>L2 Sn (Iw 0) λe f h=>BB .lss f d λi=>II i (IX 7 c f λj=>LN 7 j λl=>AL (Zl prog 52) 52 λm=>TN 7 m l<|LN 3 b λn=>FL 6 m λo=>CC 78 #[n,f,Iw 0,Iw 0,Iw 0,o] λp=>SS (apS prog #[80,80] 80 e p) λq=>BB .add f (Iw 1) λr=>h [q,r])<|K e) w
theorem ZhE (h:Ziq t0 w K):Cl prog 29 #[t0] w K:=
 ZML 23 [2] Tryz.func29 h
def ZgU (a b c w) (K:KV):=
 (DD0<|NN a<|FQ 2 a λd=>LQ d λe=>NN a<|FM 2 a λf=>IQ 1 f b λh=>LQ h λi=>SS (apS prog #[46,46] 46 i c) λj=>OO (ld1 d) e<|IQ 1 e b λl=>TN 1 l j<|K<|Value.tuple #[]) w
theorem Zgq (h:ZgU t0 t1 t2 w K):Cl prog 30 #[t0,t1,t2] w K:=
 ZML 21 [] Tryz.func30 h
def ZJN (a w) (K:KV):=
 (AL (Value.cells a) 25 λb=>FL 0 b λc=>CC 79 #[c] λd=>BB .neq d (Iw 0) λe=>II e (K<|Value.tuple #[(Iw (-1)),d])<|FL 2 b λf=>BB .lss f (Iw 0) λh=>GF h (fld 2 b) λi=>GF h (ld1 i) λj=>GF h (bi .gtr .i64 j<|Iw 1099511627776) λl=>PP h Bt l λm=>GF m (fld 1 b) λn=>GF m (ld1 n) λo=>GF m (lnS o) λp=>GF m (bi .lss .i64 p<|Iw 1) λq=>PP m Bt q λr=>GF r (fld 1 b) λs=>GF r (ld1 s) λt=>GF r (lnS t) λu=>GF r (bi .gtr .i64 u<|Iw 8) λv=>PP r Bt v λx=>II x (K<|Value.tuple #[(Iw (-1)),Iw 1])<|L1 (Iw 0) λy z=>FL 1 b λa0=>NS a0 λa1=>BB .lss y a1 λa2=>II a2 (DD0<|FM 1 b λa3=>IQ 7 a3 y λa4=>LM 7 a4 λa5=>FM 0 b λa6=>NQ a6 λa7=>CC 80 #[a5,a7] λa8=>BB .neq a8 (Iw 0) λa9=>II a9 (K<|Value.tuple #[y,a8])<|BB .add y (Iw 1) λb0=>z [b0])<|K<|Value.tuple #[(Iw (-1)),Iw 0]) w
theorem ZJY (h:ZJN t0 w K):Cl prog 31 #[t0] w K:=
 ZML 53 [2,3] Tryz.func31 h
def ZMT (a b w) (K:KV):=
 (BB .lss a (Iw 1) λc=>MF c a λd=>GF c (bi .gtr .i64 d<|Iw 8) λe=>PP c Bt e λf=>MF f b λh=>GF f (bi .lss .i64 h<|Iw 1) λi=>PP f Bt i λj=>MF j b λl=>GF j (bi .gtr .i64 l<|Iw 16) λm=>PP j Bt m λn=>II n (K<|Value.tuple #[Pn,Iw 1])<|BB .mul a a λo=>SS (mkS prog 62 o o) λp=>SS (bld (Zl prog 170) #[(0,1),(1,1),(2,1)] [(0,a),(1,b),(2,p)]) λq=>AL (Value.cells q) 170 λr=>K<|Value.tuple #[r,Iw 0]) w
theorem ZMX (h:ZMT t0 t1 w K):Cl prog 32 #[t0,t1] w K:=
 ZML 28 [4,5] Tryz.func32 h
def ZMP (a b w) (K:KV):=
 (AL (Value.cells a) 25 λc=>LN 3 c λd=>CC 31 #[d] λe=>XT 0 e λ_=>XT 1 e λf=>BB .neq f (Iw 0) λh=>II h (K<|Value.tuple #[Pn,f])<|BB .lss b (Iw 0) λi=>MF i b λj=>GF i (fld 1 c) λl=>GF i (ld1 l) λm=>GF i (lnS m) λn=>GF i (bi .geq .i64 j n) λo=>PP i Bt o λp=>GF p (fld 1 c) λq=>GF p (ld1 q) λr=>MF p b λs=>GF p (ixS 7 r s) λt=>GF p (fld 0 t) λu=>GF p (ld1 u) λv=>GF p (bi .neq .i64 v<|Iw 0) λx=>PP p Bt x λy=>II y (K<|Value.tuple #[Pn,Iw 1])<|FL 1 c λz=>NS z λa0=>CC 81 #[a0,b] λa1=>XT 0 a1 λa2=>XT 1 a1 λ_=>DD0<|LM 3 c λa3=>FQ 1 c λa4=>LQ a4 λa5=>IQ 7 a5 b λa6=>FQ 2 a6 λa7=>LQ a7 λa8=>FQ 1 c λa9=>LQ a9 λb0=>IQ 7 b0 b λb1=>FQ 6 b1 λb2=>LQ b2 λb3=>NQ b3 λb4=>CC 82 #[Iw 64] λb5=>OO (ld1 b2) b3<|OO (ld1 a9) b0<|OO (ld1 a7) a8<|OO (ld1 a4) a5<|OO (ldN 3 c) a3<|SS (bld (Zl prog 123) #[(0,3),(3,1),(4,1),(5,1),(6,1),(7,1),(8,1)] [(0,a3),(1,b),(2,a8),(3,b4),(4,a2),(5,b5)]) λb6=>AL (Value.cells b6) 123 λb7=>K<|Value.tuple #[b7,Iw 0]) w
theorem ZMY (h:ZMP t0 t1 w K):Cl prog 33 #[t0,t1] w K:=
 ZML 63 [4,5] Tryz.func33 h
def ZMW (a b w) (K:KV):=
 (AL (Value.cells a) 25 λc=>LN 3 c λd=>CC 31 #[d] λe=>XT 0 e λ_=>XT 1 e λf=>BB .neq f (Iw 0) λh=>II h (K<|Value.tuple #[Pn,f])<|BB .lss b (Iw 0) λi=>MF i b λj=>GF i (fld 1 c) λl=>GF i (ld1 l) λm=>GF i (lnS m) λn=>GF i (bi .geq .i64 j n) λo=>PP i Bt o λp=>GF p (fld 1 c) λq=>GF p (ld1 q) λr=>MF p b λs=>GF p (ixS 7 r s) λt=>GF p (fld 0 t) λu=>GF p (ld1 u) λv=>GF p (bi .neq .i64 v<|Iw 1) λx=>PP p Bt x λy=>II y (K<|Value.tuple #[Pn,Iw 1])<|DD0<|LM 3 c λz=>FQ 1 c λa0=>LQ a0 λa1=>IQ 7 a1 b λa2=>FQ 2 a2 λa3=>LQ a3 λa4=>FQ 1 c λa5=>LQ a5 λa6=>IQ 7 a6 b λa7=>FQ 6 a7 λa8=>LQ a8 λa9=>NQ a9 λb0=>CC 82 #[Iw 64] λb1=>OO (ld1 a8) a9<|OO (ld1 a5) a6<|OO (ld1 a3) a4<|OO (ld1 a0) a1<|OO (ldN 3 c) z<|CC 83 #[] λb2=>OO (ld1 a8) a9<|OO (ld1 a5) a6<|OO (ld1 a3) a4<|OO (ld1 a0) a1<|OO (ldN 3 c) z<|CC 84 #[] λb3=>OO (ld1 a8) a9<|OO (ld1 a5) a6<|OO (ld1 a3) a4<|OO (ld1 a0) a1<|OO (ldN 3 c) z<|SS (bld (Zl prog 127) #[(0,3),(3,1),(4,1),(5,1),(6,1),(7,1),(8,1),(9,1),(10,1)] [(0,z),(1,b),(2,a4),(3,b0),(4,b1),(5,b2),(6,b3)]) λb4=>AL (Value.cells b4) 127 λb5=>L1 (Iw 0) λb6 b7=>FL 1 c λb8=>NS b8 λb9=>BB .lss b6 b9 λc0=>II c0 (JA (BB .add b6 (Iw 1) λc1=>b7 [c1]) λc2=>NN b5<|FL 9 b5 λc3=>SS (bsl 3 1 1 (Zl prog 3) [(0,(Iw (-1)))]) λc4=>SS (apS prog #[22,22] 22 c3 c4) λc5=>NN b5<|FF 9 b5 λc6=>TN 1 c6 c5<|FL 1 c λc7=>IX 7 c7 b6 λc8=>FL 0 c8 λc9=>BB .eql c9 (Iw 0) λd0=>II d0 (NN b5<|FL 9 b5 λd1=>IX 1 d1 b6 λd2=>TN 1 d2 (Iw 0)<|c2)<|c2)<|K<|Value.tuple #[b5,Iw 0]) w
theorem ZM2 (h:ZMW t0 t1 w K):Cl prog 34 #[t0,t1] w K:=
 ZML 86 [4,5] Tryz.func34 h
def ZMS (a w) (K:KV):=
 (BB .lss a (Iw 1) λb=>MF b a λc=>GF b (bi .gtr .i64 c<|Iw 8) λd=>PP b Bt d λe=>II e (K<|Value.tuple #[Pn,Iw 1])<|DD0<|AN (SS (mkS prog 22 a a) λf=>AN (SS (mkS prog 111 a a) λh=>SS (mkS prog 111 a a) λi=>SS (bld (Zl prog 114) #[(0,1),(1,1),(2,1),(3,2),(5,1),(6,1),(7,1),(8,1),(9,1)] [(0,f),(1,h),(2,i)]) λj=>AL (Value.cells j) 114 λl=>K<|Value.tuple #[l,Iw 0])<|SS (mkS prog 111 a a) λm=>SS (mkS prog 111 a a) λn=>SS (bld (Zl prog 114) #[(0,1),(1,1),(2,1),(3,2),(5,1),(6,1),(7,1),(8,1),(9,1)] [(0,f),(1,n),(2,m)]) λo=>AL (Value.cells o) 114 λp=>K<|Value.tuple #[p,Iw 0])<|AN (SS (mkS prog 111 a a) λq=>AN (SS (mkS prog 22 a a) λr=>SS (mkS prog 111 a a) λs=>SS (bld (Zl prog 114) #[(0,1),(1,1),(2,1),(3,2),(5,1),(6,1),(7,1),(8,1),(9,1)] [(0,r),(1,q),(2,s)]) λt=>AL (Value.cells t) 114 λu=>K<|Value.tuple #[u,Iw 0])<|SS (mkS prog 111 a a) λv=>SS (mkS prog 22 a a) λx=>SS (bld (Zl prog 114) #[(0,1),(1,1),(2,1),(3,2),(5,1),(6,1),(7,1),(8,1),(9,1)] [(0,x),(1,q),(2,v)]) λy=>AL (Value.cells y) 114 λz=>K<|Value.tuple #[z,Iw 0])<|SS (mkS prog 111 a a) λa0=>AN (SS (mkS prog 22 a a) λa1=>SS (mkS prog 111 a a) λa2=>SS (bld (Zl prog 114) #[(0,1),(1,1),(2,1),(3,2),(5,1),(6,1),(7,1),(8,1),(9,1)] [(0,a1),(1,a2),(2,a0)]) λa3=>AL (Value.cells a3) 114 λa4=>K<|Value.tuple #[a4,Iw 0])<|SS (mkS prog 111 a a) λa5=>SS (mkS prog 22 a a) λa6=>SS (bld (Zl prog 114) #[(0,1),(1,1),(2,1),(3,2),(5,1),(6,1),(7,1),(8,1),(9,1)] [(0,a6),(1,a5),(2,a0)]) λa7=>AL (Value.cells a7) 114 λa8=>K<|Value.tuple #[a8,Iw 0]) w
theorem ZMZ (h:ZMS t0 w K):Cl prog 35 #[t0] w K:=
 ZML 18 [2,3] Tryz.func35 h
def ZJB (a w) (K:KV):=
 (AL (Value.cells a) 25 λb=>SS (bsl 85 6 0 #[] []) λc=>L2 c (Iw 0) λd e f=>FL 1 b λh=>NS h λi=>BB .lss e i λj=>II j (DD0<|LM 3 b λl=>FM 1 b λm=>IQ 7 m e λn=>FM 6 n λo=>CC 85 #[l,e,Iw 0,Iw 0,Iw 0,o] λp=>SS (apS prog #[80,80] 80 d p) λq=>BB .add e (Iw 1) λr=>f [q,r])<|K d) w
theorem ZJO (h:ZJB t0 w K):Cl prog 36 #[t0] w K:=
 ZML 25 [2] Tryz.func36 h
def Zip (a b w) (K:KV):=
 (BB .geq b (Iw 0) λc=>MT c b λd=>MT c a λe=>GT c (nc e) λf=>GT c (fld 1 f) λh=>GT c (ld1 h) λi=>GT c (lnS i) λj=>GT c (bi .lss .i64 d j) λl=>PP c l Bf λm=>K m) w
theorem ZhU (h:Zip t0 t1 w K):Cl prog 37 #[t0,t1] w K:=
 ZML 16 [4] Tryz.func37 h
def Zfw (a b w) (K:KV):=
 (NN a<|FL 2 a λc=>IX 1 c b λd=>LL d λe=>NS e λf=>BB .gtr f (Iw 0) λh=>II h (K<|Iw 2)<|NN a<|FL 1 a λi=>IX 1 i b λj=>LL j λl=>SS (clI prog l "paceline/fed.step" #[]) λm=>XT 0 m λn=>XT 1 m λo=>CC 30 #[a,b,n] λ_=>K o) w
theorem ZfK (h:Zfw t0 t1 w K):Cl prog 38 #[t0,t1] w K:=
 ZML 32 [4] Tryz.func38 h
def ZeM (a b w) (K:KV):=
 (NN a<|FL 2 a λc=>IX 1 c b λd=>LL d λe=>NS e λf=>BB .eql f (Iw 0) λh=>II h (K<|Iw 150)<|NN a<|FL 2 a λi=>IX 1 i b λj=>LL j λl=>IX 8 l (Iw 0) λm=>LN 8 m λn=>AL (Zl prog 88) 88 λo=>TN 8 o n<|DD0<|NN a<|FM 3 a λp=>FQ 1 o λq=>FM 3 q λr=>CC 86 #[p,b,r] λs=>BQ .eql s (Iw 0) λt=>II t (K<|Iw 2)<|FF 1 o λu=>FL 3 u λv=>LN 8 o λx=>CC 87 #[a,b,v,x] λy=>XT 0 y λz=>XT 1 y λ_=>XT 2 y λa0=>JA (DD0<|NN a<|FQ 2 a λa1=>LQ a1 λa2=>NN a<|FM 2 a λa3=>IQ 1 a3 b λa4=>LQ a4 λa5=>SQ (slc 8 a5 (some<|Iw 1) none) λa6=>CC 65 #[a6] λa7=>OO (ld1 a1) a2<|IQ 1 a2 b λa8=>TN 1 a8 a7<|DD0<|NN a<|FM 3 a λa9=>FQ 1 o λb0=>FM 3 b0 λb1=>LM 8 o λb2=>CC 89 #[a9,b,b1,b2] λb3=>K b3) λb4=>II a0 (DD0<|NN a<|FM 4 a λb5=>NN z<|FM 1 z λb6=>FQ 1 o λb7=>FQ 0 b7 λb8=>FM 0 b8 λb9=>CC 88 #[b5,b6,b9] λc0=>XQ 0 c0 λc1=>XQ 1 c0 λ_=>FQ 7 o λc2=>TN 1 c2 c1<|b4)<|b4) w
theorem Ze0 (h:ZeM t0 t1 w K):Cl prog 39 #[t0,t1] w K:=
 ZML 91 [4] Tryz.func39 h
def Zdf (a b c w) (K:KV):=
 (NN a<|FL 3 a λd=>CC 90 #[d,b,c] λe=>XT 0 e λf=>XT 1 e λh=>AL (Zl prog 88) 88 λi=>TN 8 i f<|BN h λj=>II j (K<|Iw 150)<|DD0<|NN a<|FM 1 a λl=>IQ 1 l c λm=>LQ m λn=>LM 8 i λo=>SS (clI prog n "paceline/fed.hear" #[b,o]) λp=>XQ 0 p λq=>XQ 1 p λr=>BB .neq r (Iw 0) λs=>II s (K r)<|NN a<|FL 3 a λt=>CC 91 #[t,b,c] λ_=>LN 8 i λu=>CC 87 #[a,b,c,u] λv=>XT 0 v λ_=>XT 1 v λx=>XT 2 v λy=>JA (CC 30 #[a,c,q] λ_=>K<|Iw 0) λz=>II y (DD0<|NN a<|FM 4 a λa0=>NN x<|FM 1 x λa1=>FM 7 i λa2=>CC 92 #[a0,a1,a2] λ_=>z)<|z) w
theorem ZdS (h:Zdf t0 t1 t2 w K):Cl prog 40 #[t0,t1,t2] w K:=
 ZML 74 [6] Tryz.func40 h
def ZfA (a b w) (K:KV):=
 (NN a<|FL 2 a λc=>IX 1 c b λd=>LL d λe=>NS e λf=>BB .gtr f (Iw 0) λh=>II h (K<|Iw 2)<|NN a<|FL 1 a λi=>IX 1 i b λj=>LL j λl=>SS (clI prog l "paceline/fed.tell" #[]) λm=>XT 0 m λn=>XT 1 m λo=>BN o λp=>II p (K<|Iw 150)<|NN a<|FL 1 a λq=>NS q λr=>L1 (Iw 0) λs t=>BB .lss s r λu=>II u (JA (BB .add s (Iw 1) λv=>t [v]) λx=>BB .neq s b λy=>MT y a λz=>MT y b λa0=>GT y (Cl prog 43 #[z,a0]) λa1=>GT y (bn .eql a1) λa2=>MT y a2 λa3=>MF a3 a λa4=>MF a3 s λa5=>GF a3 (Cl prog 43 #[a4,a5]) λa6=>GF a3 (bn .eql a6) λa7=>GT y (pk a3 Bt a7) λa8=>PP y a8 Bf λa9=>II a9 (SS (bld (Zl prog 83) #[(0,1),(1,1),(2,1)] [(0,n)]) λb0=>SS (bld (Zl prog 85) #[(0,3),(3,1),(4,1),(5,1)] [(0,b0),(1,s)]) λb1=>SS (bld (Zl prog 88) #[(0,1),(1,6),(7,1)] [(0,(Iw 2)),(1,b1)]) λb2=>SS (bsl 88 8 1 (Zl prog 88) [(0,b2)]) λb3=>CC 30 #[a,b,b3] λ_=>x)<|x)<|K<|Iw 0) w
theorem Ze9 (h:ZfA t0 t1 w K):Cl prog 41 #[t0,t1] w K:=
 ZML 63 [4] Tryz.func41 h
def Ziu (a w) (K:KV):=
 (CC 93 #[a] λb=>II b (K<|Iw 130)<|NN a<|FL 1 a λc=>BB .add c (Iw 1) λd=>NN a<|FF 1 a λe=>TN 1 e d<|NN a<|FF 21 a λf=>TN 1 f (Iw 1125899906842624)<|K<|Iw 0) w
theorem Zh4 (h:Ziu t0 w K):Cl prog 42 #[t0] w K:=
 ZML 15 [2] Tryz.func42 h
def Zfp (a b w) (K:KV):=
 (NN a<|FL 1 a λc=>IX 1 c b λd=>LL d λe=>SS (tyA prog e 116 75 true) λf=>XT 1 f λh=>XT 0 f λi=>II h (K i)<|K Pn) w
theorem Zfq (h:Zfp t0 t1 w K):Cl prog 43 #[t0,t1] w K:=
 ZML 17 [4] Tryz.func43 h
def ZkB (a b w) (K:KV):=
 (CC 94 #[a,b] λc=>BN c λd=>II d (K<|Iw 1)<|DD0<|CC 93 #[a] λe=>SQ (Zb3 e) λf=>NF f a λh=>NF f b λi=>GQ false f (nc h) λj=>GQ false f (fld 3 j) λl=>GQ false f (ixA 8 2 l i) λm=>GQ false f (ldN 2 m) λn=>NF f a λo=>GQ false f (nc o) λp=>GQ false f (fld 1 p) λq=>GQ false f (ld1 q) λr=>GF f (Cl prog 95 #[n,r]) λs=>PQ f Bt s λt=>II t (K<|Iw 130)<|DD0<|NN a<|FM 1 a λu=>NN a<|FQ 3 a λv=>SQ (ixA 8 2 v b) λx=>FQ 0 x λy=>TN 1 y u<|K<|Iw 0) w
theorem Zjr (h:ZkB t0 t1 w K):Cl prog 44 #[t0,t1] w K:=
 ZML 37 [4] Tryz.func44 h
def Zd5 (a b c w) (K:KV):=
 (NN c<|FL 0 c λd=>CC 96 #[d] λe=>SS (bsl 3 1 1 (Zl prog 3) [(0,e)]) λf=>NN a<|FL 2 a λh=>IX 1 h b λi=>LL i λj=>NS j λl=>L2 f (Iw 0) λm n o=>BB .lss n l λp=>II p (JB (λq=>BB .add n (Iw 1) λr=>o [q,r]) λs=>IX 8 j n λt=>LN 8 t λu=>AL (Zl prog 88) 88 λv=>TN 8 v u<|FF 1 v λx=>FL 3 x λy=>LN 8 v λz=>CC 87 #[a,b,y,z] λa0=>XT 0 a0 λ_=>XT 1 a0 λ_=>XT 2 a0 λa1=>II a1 (FF 1 v λa2=>FF 0 a2 λa3=>FL 0 a3 λa4=>SS (bsl 3 1 1 (Zl prog 3) [(0,a4)]) λa5=>SS (apS prog #[22,22] 22 m a5) λa6=>s a6)<|s m)<|NN a<|FL 4 a λa7=>CC 97 #[a7] λa8=>DD0<|NN a<|FQ 4 a λa9=>LQ a9 λb0=>NN c<|FQ 1 c λb1=>LQ b1 λb2=>CC 99 #[m] λb3=>OO (ld1 b1) b2<|OO (ld1 a9) b0<|CC 98 #[b0,b2,b3] λb4=>BB .neq b4 (Iw 0) λb5=>MF b5 a λb6=>GF b5 (nc b6) λb7=>GF b5 (fld 4 b7) λb8=>GF b5 (ld1 b8) λb9=>GF b5 (Cl prog 97 #[b9]) λc0=>MF b5 a8 λc1=>GF b5 (bi .eql .i64 c0 c1) λc2=>PP b5 Bt c2 λc3=>II c3 (K b4)<|NN a<|FL 1 a λc4=>NS c4 λc5=>L1 (Iw 0) λc6 c7=>BB .lss c6 c5 λc8=>II c8 (JA (BB .add c6 (Iw 1) λc9=>c7 [c9]) λd0=>CC 43 #[a,c6] λd1=>SS (bn .neq d1) λd2=>II d2 (DD0<|NN d1<|FQ 0 d1 λd3=>LQ d3 λd4=>NN a<|FM 4 a λd5=>CC 54 #[d5] λd6=>OO (ld1 d3) d4<|CC 100 #[d4,d6] λd7=>XQ 0 d7 λ_=>XQ 1 d7 λd8=>XQ 2 d7 λ_=>CC 101 #[d8] λd9=>CC 30 #[a,c6,d9] λ_=>d0)<|d0)<|K<|Iw 0) w
theorem Zei (h:Zd5 t0 t1 t2 w K):Cl prog 45 #[t0,t1,t2] w K:=
 ZML 119 [6] Tryz.func45 h
def ZWg (a b w) (K:KV):=
 (BB .geq b (Iw 0) λc=>MT c b λd=>MT c a λe=>GT c (nc e) λf=>GT c (fld 0 f) λh=>GT c (fld 1 h) λi=>GT c (ld1 i) λj=>GT c (lnS j) λl=>GT c (bi .lss .i64 d l) λm=>PP c m Bf λn=>K n) w
theorem ZXs (h:ZWg t0 t1 w K):Cl prog 46 #[t0,t1] w K:=
 ZML 17 [4] Tryz.func46 h
def ZVY (a b w) (K:KV):=
 (NN a<|FL 6 a λc=>IX 1 c b λd=>LL d λe=>NS e λf=>BB .gtr f (Iw 0) λh=>II h (K<|Iw 2)<|NN a<|FL 5 a λi=>IX 1 i b λj=>LL j λl=>BB .lss l (Iw 0) λm=>II m (NN a<|FL 3 a λn=>IX 1 n b λo=>LL o λp=>CC 102 #[p] λq=>XT 0 q λr=>XT 1 q λs=>XT 2 q λt=>AL (Zl prog 129) 129 λu=>TN 7 u r<|CC 104 #[s] λv=>CC 103 #[a,b,v] λ_=>K t)<|NN a<|FL 4 a λx=>IX 1 x b λy=>LL y λz=>CC 105 #[z] λa0=>XT 0 a0 λa1=>XT 1 a0 λa2=>XT 2 a0 λa3=>AL (Zl prog 129) 129 λa4=>TN 7 a4 a1<|CC 103 #[a,b,a2] λ_=>K a3) w
theorem ZWU (h:ZVY t0 t1 w K):Cl prog 47 #[t0,t1] w K:=
 ZML 63 [4] Tryz.func47 h
def ZVJ (a b w) (K:KV):=
 (NN a<|FL 6 a λc=>IX 1 c b λd=>LL d λe=>NS e λf=>BB .eql f (Iw 0) λh=>II h (K<|Iw 150)<|NN a<|FL 6 a λi=>IX 1 i b λj=>LL j λl=>IX 8 l (Iw 0) λm=>LN 8 m λn=>AL (Zl prog 88) 88 λo=>TN 8 o n<|FF 1 o λp=>FL 3 p λq=>NN a<|FL 8 a λr=>CC 106 #[r,b,q] λs=>BB .eql s (Iw 0) λt=>II t (K<|Iw 2)<|LN 8 o λu=>CC 107 #[a,b,q,u] λv=>JA (DD0<|NN a<|FM 8 a λx=>LM 8 o λy=>CC 109 #[x,b,q,y] λz=>BB .eql z (Iw 0) λa0=>JA (K z) λa1=>II a0 (SS (bsl 88 8 0 #[] []) λa2=>DD0<|NN a<|FQ 6 a λa3=>LQ a3 λa4=>NN a<|FM 6 a λa5=>IQ 1 a5 b λa6=>LQ a6 λa7=>SQ (slc 8 a7 (some<|Iw 1) none) λa8=>SS (apS prog #[46,46] 46 a2 a8) λa9=>OO (ld1 a3) a4<|IQ 1 a4 b λb0=>TN 1 b0 a9<|a1)<|a1) λb1=>II v (DD0<|NN a<|FM 9 a λb2=>NN a<|FM 5 a λb3=>IQ 1 b3 b λb4=>LQ b4 λb5=>FQ 1 o λb6=>FQ 0 b6 λb7=>FM 0 b7 λb8=>CC 108 #[b2,b5,b8] λb9=>XQ 0 b9 λc0=>XQ 1 b9 λ_=>FF 7 o λc1=>TN 1 c1 c0<|b1)<|b1) w
theorem ZWE (h:ZVJ t0 t1 w K):Cl prog 48 #[t0,t1] w K:=
 ZML 94 [4] Tryz.func48 h
def ZVD (a b c w) (K:KV):=
 (NN a<|FL 8 a λd=>CC 110 #[d,b,c] λe=>XT 0 e λf=>XT 1 e λh=>AL (Zl prog 88) 88 λi=>TN 8 i f<|BN h λj=>II j (K<|Iw 150)<|SS (bsl 88 8 0 #[] []) λl=>NN a<|FL 5 a λm=>IX 1 m c λn=>LL n λo=>BB .lss o (Iw 0) λp=>JC (λq r=>BB .neq r (Iw 0) λs=>II s (K r)<|NN a<|FL 8 a λt=>CC 113 #[t,b,c] λ_=>LN 8 i λu=>CC 107 #[a,b,c,u] λv=>JA (CC 103 #[a,c,q] λ_=>K<|Iw 0) λx=>II v (DD0<|NN a<|FM 9 a λy=>NN a<|FM 5 a λz=>IQ 1 z c λa0=>LQ a0 λa1=>FM 7 i λa2=>CC 114 #[y,a1,a2] λ_=>x)<|x) λa3=>II p (DD0<|NN a<|FM 3 a λa4=>IQ 1 a4 c λa5=>LQ a5 λa6=>LM 8 i λa7=>CC 111 #[a6,b,a7] λa8=>a3 l a8)<|DD0<|NN a<|FM 4 a λa9=>IQ 1 a9 c λb0=>LQ b0 λb1=>LM 8 i λb2=>CC 112 #[b1,b,b2] λb3=>XQ 0 b3 λb4=>XQ 1 b3 λb5=>a3 b4 b5) w
theorem ZWd (h:ZVD t0 t1 t2 w K):Cl prog 49 #[t0,t1,t2] w K:=
 ZML 88 [6] Tryz.func49 h
def ZVQ (a b w) (K:KV):=
 (NN a<|FL 6 a λc=>IX 1 c b λd=>LL d λe=>NS e λf=>BB .gtr f (Iw 0) λh=>II h (K<|Iw 2)<|NN a<|FL 5 a λi=>IX 1 i b λj=>LL j λl=>BB .lss l (Iw 0) λm=>JB (λn=>L1 (Iw 0) λo p=>NN a<|FF 0 a λq=>FL 1 q λr=>NS r λs=>BB .lss o s λt=>II t (JA (BB .add o (Iw 1) λu=>p [u]) λv=>BB .neq o b λx=>MT x a λy=>GT x (nc y) λz=>GT x (fld 5 z) λa0=>GT x (ld1 a0) λa1=>MT x b λa2=>GT x (ixS 1 a1 a2) λa3=>GT x (ld1 a3) λa4=>GT x (bi .lss .i64 a4<|Iw 0) λa5=>MT x a5 λa6=>MF a6 a λa7=>GF a6 (nc a7) λa8=>GF a6 (fld 5 a8) λa9=>GF a6 (ld1 a9) λb0=>MF a6 o λb1=>GF a6 (ixS 1 b0 b1) λb2=>GF a6 (ld1 b2) λb3=>GF a6 (bi .lss .i64 b3<|Iw 0) λb4=>GT x (pk a6 Bt b4) λb5=>PP x b5 Bf λb6=>II b6 (SS (bld (Zl prog 83) #[(0,1),(1,1),(2,1)] [(0,n)]) λb7=>SS (bld (Zl prog 85) #[(0,3),(3,1),(4,1),(5,1)] [(0,b7),(1,o)]) λb8=>SS (bld (Zl prog 88) #[(0,1),(1,6),(7,1)] [(0,(Iw 2)),(1,b8)]) λb9=>SS (bsl 88 8 1 (Zl prog 88) [(0,b9)]) λc0=>CC 103 #[a,b,c0] λ_=>v)<|v)<|K<|Iw 0) λc1=>II m (NN a<|FL 3 a λc2=>IX 1 c2 b λc3=>LL c3 λc4=>CC 115 #[c4] λc5=>XT 0 c5 λc6=>XT 1 c5 λc7=>BN c7 λc8=>II c8 (K<|Iw 150)<|c1 c6)<|NN a<|FL 4 a λc9=>IX 1 c9 b λd0=>LL d0 λd1=>CC 116 #[d1] λd2=>NN a<|FL 7 a λd3=>IX 1 d3 b λd4=>LL d4 λd5=>BB .leq d2 d5 λd6=>II d6 (K<|Iw 150)<|NN a<|FL 7 a λd7=>IX 1 d7 b λd8=>TN 1 d8 d2<|c1 d2) w
theorem ZWW (h:ZVQ t0 t1 w K):Cl prog 50 #[t0,t1] w K:=
 ZML 108 [4] Tryz.func50 h
def ZWx (a w) (K:KV):=
 (NN a<|FL 5 a λb=>II b (K<|Iw 130)<|NN a<|FF 5 a λc=>TN 1 c Bt<|NN a<|FL 0 a λd=>IX 1 d (Iw 0) λe=>LL e λf=>NN a<|FF 6 a λh=>TN 1 h f<|NN a<|FF 7 a λi=>TN 1 i (Iw 1125899906842624)<|NN a<|FL 0 a λj=>NS j λl=>SS (mkS prog 111 l l) λm=>NN a<|FF 1 a λn=>TN 1 n m<|NN a<|FL 0 a λo=>NS o λp=>SS (mkS prog 111 p p) λq=>NN a<|FF 2 a λr=>TN 1 r q<|K<|Iw 0) w
theorem ZXp (h:ZWx t0 w K):Cl prog 51 #[t0] w K:=
 ZML 40 [2] Tryz.func51 h
def ZWN (a b w) (K:KV):=
 (CC 117 #[a,b] λc=>BN c λd=>II d (K<|Iw 1)<|NN a<|FL 5 a λe=>BN e λf=>MF f a λh=>GF f (nc h) λi=>GF f (fld 1 i) λj=>GF f (ld1 j) λl=>MF f b λm=>GF f (ixS 1 l m) λn=>GF f (ld1 n) λo=>PP f Bt o λp=>II p (K<|Iw 130)<|NN a<|FL 1 a λq=>IX 1 q b λr=>TN 1 r Bt<|DD0<|NN a<|FM 0 a λs=>NN a<|FM 6 a λt=>BQ .sub (Iw 1) t λu=>IQ 1 s b λv=>TN 1 v u<|K<|Iw 0) w
theorem ZXG (h:ZWN t0 t1 w K):Cl prog 52 #[t0,t1] w K:=
 ZML 40 [4] Tryz.func52 h
def ZVF (a b w) (K:KV):=
 (NN a<|FL 4 a λc=>IX 1 c b λd=>LL d λe=>CC 118 #[e] λf=>SS (bsl 3 1 1 (Zl prog 3) [(0,f)]) λh=>L2 h (Iw 0) λi j l=>NN a<|FL 6 a λm=>IX 1 m b λn=>LL n λo=>NS o λp=>BB .lss j p λq=>II q (JB (λr=>BB .add j (Iw 1) λs=>l [r,s]) λt=>NN a<|FL 6 a λu=>IX 1 u b λv=>LL v λx=>IX 8 x j λy=>LN 8 y λz=>AL (Zl prog 88) 88 λa0=>TN 8 a0 z<|FF 1 a0 λa1=>FL 3 a1 λa2=>LN 8 a0 λa3=>CC 107 #[a,b,a2,a3] λa4=>II a4 (FF 1 a0 λa5=>FF 0 a5 λa6=>FL 0 a6 λa7=>SS (bsl 3 1 1 (Zl prog 3) [(0,a7)]) λa8=>SS (apS prog #[22,22] 22 i a8) λa9=>t a9)<|t i)<|NN a<|FL 9 a λb0=>CC 119 #[b0] λb1=>DD0<|NN a<|FQ 9 a λb2=>LQ b2 λb3=>NN a<|FQ 5 a λb4=>LQ b4 λb5=>IQ 1 b5 b λb6=>LQ b6 λb7=>CC 121 #[i] λb8=>OO (ld1 b6) b7<|OO (ld1 b4) b5<|OO (ld1 b2) b3<|CC 120 #[b3,b7,b8] λb9=>BB .neq b9 (Iw 0) λc0=>MF c0 a λc1=>GF c0 (nc c1) λc2=>GF c0 (fld 9 c2) λc3=>GF c0 (ld1 c3) λc4=>GF c0 (Cl prog 119 #[c4]) λc5=>MF c0 b1 λc6=>GF c0 (bi .eql .i64 c5 c6) λc7=>PP c0 Bt c7 λc8=>II c8 (K b9)<|L1 (Iw 0) λc9 d0=>NN a<|FF 0 a λd1=>FL 1 d1 λd2=>NS d2 λd3=>BB .lss c9 d3 λd4=>II d4 (JA (BB .add c9 (Iw 1) λd5=>d0 [d5]) λd6=>NN a<|FL 5 a λd7=>IX 1 d7 c9 λd8=>LL d8 λd9=>BB .geq d9 (Iw 0) λe0=>II e0 (DD0<|NN a<|FQ 4 a λe1=>LQ e1 λe2=>IQ 1 e2 c9 λe3=>LQ e3 λe4=>NN a<|FM 9 a λe5=>CC 123 #[e5] λe6=>OO (ld1 e3) e4<|OO (ld1 e1) e2<|CC 122 #[e4,e6] λe7=>XQ 0 e7 λ_=>XQ 1 e7 λe8=>XQ 2 e7 λ_=>CC 104 #[e8] λe9=>CC 103 #[a,c9,e9] λ_=>d6)<|d6)<|K<|Iw 0) w
theorem ZWj (h:ZVF t0 t1 w K):Cl prog 53 #[t0,t1] w K:=
 ZML 130 [4] Tryz.func53 h
def ZiR (a w) (K:KV):=
 (NN a<|FL 22 a λb=>K b) w
theorem Zhn (h:ZiR t0 w K):Cl prog 54 #[t0] w K:=
 ZML 7 [2] Tryz.func54 h
def Zez (t0 t1 w) (K:KV):=
 al (Value.cells t1) 3 w λt3 w=>
 al (Zl prog 3) 3 w λt5 w=>
 stN 1 t5 (Iw 0) w λ_ w=>
 Cl prog 124 #[t0] w λt9 w=>
 rfW prog t9 2 (λl a w k=>
 al (Zl prog 88) 88 w λt7 w=>
 stN 8 t7 (a 1) w λ_ w=>
 bgn l w λw=>
 fld 0 t7 w λt12 w=>
 ld1 t12 w λt13 w=>
 bi .neq .i64 t13 (Iw 2) w λt14 w=>
 gd t14 true (λk=>fld 7 t7 w k) w λt16 w=>
 gd t14 true (λk=>ld1 t16 w k) w λt17 w=>
 gd t14 true (λk=>ld1 t3 w k) w λt18 w=>
 gd t14 true (λk=>bi .eql .i64 t17 t18 w k) w λt19 w=>
 pk t14 t19 Bf w λt20 w=>
 Zr t20
 (ld1 t5 w λt21 w=>
 bi .add .i64 t21 (Iw 1) w λt22 w=>
 stN 1 t5 t22 w λ_ w=>
 edn l w k)
 (edn l w k)) w λD w=>
 ld1 t5 w λt23 w=>
 Zz7 D w λw=>
 K t23 w
theorem ZeT (h:Zez t0 t1 w K):Cl prog 55 #[t0,t1] w K:=
 Cl.mk (by kernel_rfl) (Zm6 (fn:=Tryz.f55) (nt:=24) (rs:=[4]) Zm Tryz.func55 (by kernel_rfl) (by kernel_rfl) (Nat.le_of_ble_eq_true<|by kernel_rfl) (by kernel_rfl) (by kernel_rfl) h)
def Zas (a b w) (K:KV):=
 (CC 125 #[a,b] λc=>BB .geq c (Iw 0) λd=>K d) w
theorem Za8 (h:Zas t0 t1 w K):Cl prog 56 #[t0,t1] w K:=
 ZML 9 [4] Tryz.func56 h
def Zds (a w) (K:KV):=
 (AL (Value.cells a) 88 λb=>FL 0 b λc=>BB .neq c (Iw 2) λd=>K d) w
theorem ZdX (h:Zds t0 w K):Cl prog 57 #[t0] w K:=
 ZML 6 [2] Tryz.func57 h
def Zfc (a w) (K:KV):=
 (NN a<|FL 7 a λb=>CC 126 #[b] λc=>K c) w
theorem ZfZ (h:Zfc t0 w K):Cl prog 58 #[t0] w K:=
 ZML 8 [2] Tryz.func58 h
def ZVW (a b w) (K:KV):=
 (L2 (Iw 0) (Iw 0) λc d e=>NN a<|FL 2 a λf=>NS f λh=>BB .lss d h λi=>II i (L2 c (Iw 0) λj l m=>NN a<|FL 2 a λn=>IX 1 n d λo=>LL o λp=>NS p λq=>BB .lss l q λr=>II r (JB (λs=>BB .add l (Iw 1) λt=>m [s,t]) λu=>NN a<|FL 2 a λv=>IX 1 v d λx=>LL x λy=>IX 8 y l λz=>FL 0 z λa0=>BB .neq a0 (Iw 2) λa1=>MT a1 a λa2=>GT a1 (nc a2) λa3=>GT a1 (fld 2 a3) λa4=>GT a1 (ld1 a4) λa5=>MT a1 d λa6=>GT a1 (ixS 1 a5 a6) λa7=>GT a1 (ld1 a7) λa8=>MT a1 l λa9=>GT a1 (ixS 8 a8 a9) λb0=>GT a1 (fld 7 b0) λb1=>GT a1 (ld1 b1) λb2=>MT a1 b λb3=>GT a1 (bi .eql .i64 b2 b3) λb4=>PP a1 b4 Bf λb5=>II b5 (BB .add j (Iw 1) λb6=>u b6)<|u j)<|BB .add d (Iw 1) λb7=>e [j,b7])<|K c) w
theorem ZWQ (h:ZVW t0 t1 w K):Cl prog 59 #[t0,t1] w K:=
 ZML 59 [4] Tryz.func59 h
def ZVG (a w) (K:KV):=
 (NN a<|FL 7 a λb=>CC 127 #[b] λc=>K c) w
theorem ZWI (h:ZVG t0 w K):Cl prog 60 #[t0] w K:=
 ZML 8 [2] Tryz.func60 h
def ZVM (a w) (K:KV):=
 (NN a<|FL 6 a λb=>CC 127 #[b] λc=>K c) w
theorem ZWF (h:ZVM t0 w K):Cl prog 61 #[t0] w K:=
 ZML 8 [2] Tryz.func61 h
def ZV0 (a w) (K:KV):=
 (NN a<|FL 7 a λb=>NN b<|FL 1 b λc=>NS c λd=>K d) w
theorem ZW9 (h:ZV0 t0 w K):Cl prog 62 #[t0] w K:=
 ZML 11 [2] Tryz.func62 h
def ZWM (a w) (K:KV):=
 (SS (bsl 129 7 0 #[] []) λb=>NN a<|FL 8 a λc=>SS (apS prog #[43,43] 43 b c) λd=>K d) w
theorem ZXF (h:ZWM t0 w K):Cl prog 63 #[t0] w K:=
 ZML 11 [2] Tryz.func63 h
def ZWP (a w) (K:KV):=
 (SS (bsl 129 7 0 #[] []) λb=>NN a<|FL 10 a λc=>SS (apS prog #[43,43] 43 b c) λd=>K d) w
theorem ZXJ (h:ZWP t0 w K):Cl prog 64 #[t0] w K:=
 ZML 11 [2] Tryz.func64 h
def ZaZ (a w) (K:KV):=
 (SS (bO prog .eql 46 (Operand.tmp 3) (Operand.const Sn) a Sn) λb=>II b (K Sn)<|SS (bsl 88 8 0 #[] []) λc=>SS (apS prog #[46,46] 46 c a) λd=>K d) w
theorem ZbK (h:ZaZ t0 w K):Cl prog 65 #[t0] w K:=
 ZML 8 [2] Tryz.func65 h
def Zkn (a w) (K:KV):=
 (NS a λb=>L1 (Iw 0) λc d=>BB .lss c b λe=>II e (IX 1 a c λf=>LL f λh=>SS (clV prog h #[]) λi=>BB .neq i (Iw 0) λj=>II j (K i)<|BB .add c (Iw 1) λl=>d [l])<|K<|Iw 0) w
theorem ZiT (h:Zkn t0 w K):Cl prog 66 #[t0] w K:=
 ZML 18 [2] Tryz.func66 h
def Zhe (a w) (K:KV):=
 (FL 0 a λb=>CC 68 #[b] λc=>K c) w
theorem ZgJ (h:Zhe t0 w K):Cl prog 67 #[t0] w K:=
 ZML 5 [1] Tryz.func67 h
def ZnC (a w) (K:KV):=
 (NS a λb=>BB .lss b (Iw 1) λc=>MF c b λd=>GF c (bi .gtr .i64 d<|Iw 16) λe=>PP c Bt e λf=>II f (K<|Iw 50)<|NS a λh=>L1 (Iw 0) λi j=>BB .lss i h λl=>II l (IX 1 a i λm=>LL m λn=>BB .lss n (Iw (-1)) λo=>MF o n λp=>MF o i λq=>GF o (bi .geq .i64 p q) λr=>PP o Bt r λs=>II s (K<|Iw 50)<|BB .add i (Iw 1) λt=>j [t])<|K<|Iw 0) w
theorem Zk1 (h:ZnC t0 w K):Cl prog 68 #[t0] w K:=
 ZML 29 [2] Tryz.func68 h
def Ziv (a b w) (K:KV):=
 (AL (Value.cells a) 4 λc=>AL (Value.cells b) 30 λd=>K<|Value.func (Fn.func 128) #[] #[c,d]) w
theorem Zhy (h:Ziv t0 t1 w K):Cl prog 69 #[t0,t1] w K:=
 ZML 6 [4] Tryz.func69 h
def Zjk (a b c w) (K:KV):=
 (BB .geq a b λd=>MT d a λe=>MT d c λf=>GT d (bi .leq .i64 e f) λh=>PP d h Bf λi=>K i) w
theorem Zh6 (h:Zjk t0 t1 t2 w K):Cl prog 70 #[t0,t1,t2] w K:=
 ZML 15 [6] Tryz.func70 h
def ZnF (a b w) (K:KV):=
 (AL (Value.cells a) 52 λc=>AL (Value.cells b) 3 λd=>DD0<|FM 0 c λe=>FQ 1 c λf=>LQ f λh=>FQ 2 c λi=>LQ i λj=>FQ 4 c λl=>LQ l λm=>FQ 6 c λn=>LQ n λo=>NQ o λp=>BQ .leq p (Iw 4) λq=>CC 70 #[e,Iw 0,Iw 1] λr=>OO (ld1 n) o<|OO (ld1 l) m<|OO (ld1 i) j<|OO (ld1 f) h<|CC 69 #[r,Iw 1] λs=>OO (ld1 n) o<|OO (ld1 l) m<|OO (ld1 i) j<|OO (ld1 f) h<|CC 70 #[h,Iw 1,Iw 1048576] λt=>OO (ld1 n) o<|OO (ld1 l) m<|OO (ld1 i) j<|CC 69 #[t,Iw 80] λu=>OO (ld1 n) o<|OO (ld1 l) m<|OO (ld1 i) j<|CC 70 #[j,Iw 0,Iw 7] λv=>OO (ld1 n) o<|OO (ld1 l) m<|CC 69 #[v,Iw 70] λx=>OO (ld1 n) o<|OO (ld1 l) m<|SS (clV prog (Value.func (Fn.func 129) #[] #[d]) #[m]) λy=>OO (ld1 n) o<|NT y (Value.func (Fn.func 129) #[] #[d]) λz=>GQ true y (fld 5 c) λa0=>GQ true y (ld1 a0) λa1=>GT y (clV prog z #[a1]) λa2=>OO (ld1 n) o<|PQ y a2 Bf λa3=>CC 69 #[a3,Iw 81] λa4=>OO (ld1 n) o<|GQ true q (fld 6 c) λa5=>GQ true q (ld1 a5) λa6=>NT q (Value.func (Fn.func 132) #[] #[c]) λa7=>GT q (Cl prog 135 #[a6,a7]) λa8=>GQ true q (Zb3 a8) λa9=>PQ q a9 Bf λb0=>CC 69 #[b0,Iw 82] λb1=>SS (bsl 108 1 7 (Zl prog 108) [(0,s),(1,u),(2,x),(3,(Value.func (Fn.func 133) #[] #[c])),(4,a4),(5,(Value.func (Fn.func 130) #[] #[c,d])),(6,b1)]) λb2=>CC 66 #[b2] λb3=>K b3) w
theorem Zk6 (h:ZnF t0 t1 w K):Cl prog 71 #[t0,t1] w K:=
 ZML 50 [4] Tryz.func71 h
def ZpA (a b w) (K:KV):=
 (BB .lss a (Iw 1) λc=>MF c a λd=>GF c (bi .gtr .i64 d<|Iw 8) λe=>PP c Bt e λf=>MF f b λh=>GF f (bi .lss .i64 h<|Iw 0) λi=>PP f Bt i λj=>MF j b λl=>MF j a λm=>GF j (bi .geq .i64 l m) λn=>PP j Bt n λo=>II o (K<|Value.tuple #[Pn,Iw 1])<|SS (ZlQ) λp=>SS (bld (Zl prog 213) #[(0,1),(1,1)] [(0,p)]) λq=>AL (Value.cells q) 213 λr=>L1 (Iw 0) λs t=>BB .lss s a λu=>II u (JA (BB .add s (Iw 1) λv=>t [v]) λx=>BB .neq s b λy=>II y (NN r<|FL 0 r λz=>SS (upM prog 160 z s<|Iw 0) λ_=>x)<|x)<|K<|Value.tuple #[r,Iw 0]) w
theorem Zlo (h:ZpA t0 t1 w K):Cl prog 72 #[t0,t1] w K:=
 ZML 40 [4,5] Tryz.func72 h
def Zso (a w) (K:KV):=
 (SS (mnI .i64 a<|Iw 64) λb=>SS (mxI .i64 (Iw 0) b) λc=>SS (ZlQ) λd=>SS (bld (Zl prog 216) #[(0,1),(1,1),(2,1)] [(0,c),(2,d)]) λe=>AL (Value.cells e) 216 λf=>K f) w
theorem Zm2 (h:Zso t0 w K):Cl prog 73 #[t0] w K:=
 ZML 9 [2] Tryz.func73 h
def ZnQ (a w) (K:KV):=
 (AL (Value.cells a) 25 λb=>AL (Zl prog 25) 25 λc=>FL 0 b λd=>CC 136 #[d] λe=>FF 0 b λf=>TN 1 f e<|FL 1 b λh=>CC 137 #[h] λi=>FF 1 b λj=>TN 1 j i<|FL 1 b λl=>NS l λm=>L1 (Iw 0) λn o=>BB .lss n m λp=>II p (FL 1 b λq=>IX 7 q n λr=>DD0<|NN r<|FM 4 r λs=>NN r<|FQ 5 r λt=>LQ t λu=>NN r<|FQ 6 r λv=>LQ v λx=>NN r<|FQ 3 r λy=>LQ y λz=>CC 136 #[s] λa0=>OO (ld1 y) z<|OO (ld1 v) x<|OO (ld1 t) u<|CC 136 #[u] λa1=>OO (ld1 y) z<|OO (ld1 v) x<|CC 138 #[x] λa2=>OO (ld1 y) z<|CC 139 #[z] λa3=>NN r<|FQ 4 r λa4=>TN 1 a4 a0<|NN r<|FQ 5 r λa5=>TN 1 a5 a1<|NN r<|FQ 6 r λa6=>TN 1 a6 a2<|NN r<|FQ 3 r λa7=>TN 1 a7 a3<|NN r<|FL 3 r λa8=>NS a8 λa9=>L1 (Iw 0) λb0 b1=>BB .lss b0 a9 λb2=>II b2 (DD0<|NN r<|FQ 3 r λb3=>LQ b3 λb4=>NN r<|FM 3 r λb5=>IQ 4 b5 b0 λb6=>FM 3 b6 λb7=>CC 138 #[b7] λb8=>OO (ld1 b3) b4<|IQ 4 b4 b0 λb9=>FQ 3 b9 λc0=>TN 1 c0 b8<|BB .add b0 (Iw 1) λc1=>b1 [c1])<|BB .add n (Iw 1) λc2=>o [c2])<|LN 3 b λc3=>TN 3 c c3<|LM 3 c λc4=>K c4) w
theorem ZkZ (h:ZnQ t0 w K):Cl prog 74 #[t0] w K:=
 ZMM 83 [(2,some 25)] Tryz.func74 h
def ZlG (a w) (K:KV):=
 (AL (Value.cells a) 25 λb=>AL (Zl prog 25) 25 λc=>FL 0 b λd=>CC 136 #[d] λe=>FF 0 b λf=>TN 1 f e<|FL 1 b λh=>CC 137 #[h] λi=>FF 1 b λj=>TN 1 j i<|FL 1 b λl=>NS l λm=>L1 (Iw 0) λn o=>BB .lss n m λp=>II p (FL 1 b λq=>IX 7 q n λr=>DD0<|NN r<|FM 4 r λs=>NN r<|FQ 5 r λt=>LQ t λu=>NN r<|FQ 6 r λv=>LQ v λx=>NN r<|FQ 3 r λy=>LQ y λz=>CC 136 #[s] λa0=>OO (ld1 y) z<|OO (ld1 v) x<|OO (ld1 t) u<|CC 136 #[u] λa1=>OO (ld1 y) z<|OO (ld1 v) x<|CC 138 #[x] λa2=>OO (ld1 y) z<|CC 139 #[z] λa3=>NN r<|FQ 4 r λa4=>TN 1 a4 a0<|NN r<|FQ 5 r λa5=>TN 1 a5 a1<|NN r<|FQ 6 r λa6=>TN 1 a6 a2<|NN r<|FQ 3 r λa7=>TN 1 a7 a3<|NN r<|FL 3 r λa8=>NS a8 λa9=>L1 (Iw 0) λb0 b1=>BB .lss b0 a9 λb2=>II b2 (DD0<|NN r<|FQ 3 r λb3=>LQ b3 λb4=>NN r<|FM 3 r λb5=>IQ 4 b5 b0 λb6=>FM 3 b6 λb7=>CC 138 #[b7] λb8=>OO (ld1 b3) b4<|IQ 4 b4 b0 λb9=>FQ 3 b9 λc0=>TN 1 c0 b8<|BB .add b0 (Iw 1) λc1=>b1 [c1])<|BB .add n (Iw 1) λc2=>o [c2])<|LN 3 b λc3=>TN 3 c c3<|LM 3 c λc4=>K c4) w
theorem Zj5 (h:ZlG t0 w K):Cl prog 75 #[t0] w K:=
 ZMM 83 [(2,some 25)] Tryz.func75 h
def ZrX (w) (K:KV):=
 (SS (bld (Zl prog 224) #[(0,1),(1,1)] []) λa=>AL (Value.cells a) 224 λb=>K b) w
theorem ZmL (h:ZrX w K):Cl prog 76 #[] w K:=
 ZML 3 [0] Tryz.func76 h
def Zsc (w) (K:KV):=
 (SS (bld (Zl prog 227) #[(0,1),(1,1)] []) λa=>AL (Value.cells a) 227 λb=>K b) w
theorem ZmT (h:Zsc w K):Cl prog 77 #[] w K:=
 ZML 3 [0] Tryz.func77 h
def ZiW (a b c d e f w) (K:KV):=
 (AL (Value.cells a) 25 λh=>NS f λi=>L2 Sn (Iw 0) λj l m=>BB .lss l i λn=>II n (IX 3 f l λo=>LN 3 o λp=>AL (Zl prog 133) 133 λq=>TN 3 q p<|BB .add c l λr=>LN 3 q λs=>CC 140 #[b,r,d,e,s] λt=>AL (Zl prog 85) 85 λu=>TN 6 u t<|LN 3 h λv=>FL 4 u λx=>CC 141 #[v,b,x] λy=>NS y λz=>L2 j (Iw 0) λa0 a1 a2=>BB .lss a1 z λa3=>II a3 (IX 1 y a1 λa4=>LL a4 λa5=>FF 3 u λa6=>TN 1 a6 a5<|LN 6 u λa7=>SS (bsl 85 6 1 (Zl prog 85) [(0,a7)]) λa8=>SS (apS prog #[80,80] 80 a0 a8) λa9=>BB .add a1 (Iw 1) λb0=>a2 [a9,b0])<|BB .add l (Iw 1) λb1=>m [a0,b1])<|K j) w
theorem Zht (h:ZiW t0 t1 t2 t3 t4 t5 w K):Cl prog 78 #[t0,t1,t2,t3,t4,t5] w K:=
 ZML 53 [12] Tryz.func78 h
def ZJG (a w) (K:KV):=
 (NS a λb=>BB .lss b (Iw 1) λc=>MF c a λd=>GF c (lnS d) λe=>GF c (bi .gtr .i64 e<|Iw 16) λf=>PP c Bt f λh=>II h (K<|Iw 50)<|L1 (Iw 0) λi j=>NS a λl=>BB .lss i l λm=>II m (IX 1 a i λn=>LL n λo=>BB .lss o (Iw (-1)) λp=>MF p a λq=>MF p i λr=>GF p (ixS 1 q r) λs=>GF p (ld1 s) λt=>MF p i λu=>GF p (bi .geq .i64 t u) λv=>PP p Bt v λx=>II x (K<|Iw 50)<|BB .add i (Iw 1) λy=>j [y])<|K<|Iw 0) w
theorem ZJ0 (h:ZJG t0 w K):Cl prog 79 #[t0] w K:=
 ZML 31 [2] Tryz.func79 h
def ZJ7 (a b w) (K:KV):=
 (AL (Value.cells a) 52 λc=>FL 0 c λd=>BB .neq d (Iw 0) λe=>GT e (fld 0 c) λf=>GT e (ld1 f) λh=>GT e (bi .neq .i64 h<|Iw 1) λi=>PP e i Bf λj=>II j (K<|Iw 1)<|FL 1 c λl=>BB .lss l (Iw 1) λm=>GF m (fld 1 c) λn=>GF m (ld1 n) λo=>GF m (bi .gtr .i64 o<|Iw 1048576) λp=>PP m Bt p λq=>II q (K<|Iw 80)<|FL 2 c λr=>BB .lss r (Iw 0) λs=>GF s (fld 2 c) λt=>GF s (ld1 t) λu=>GF s (bi .geq .i64 u<|Iw 8) λv=>PP s Bt v λx=>GF x (fld 3 c) λy=>GF x (ld1 y) λz=>GF x (Cl prog 142 #[z]) λa0=>GF x (bi .neq .i64 a0<|Iw 0) λa1=>PP x Bt a1 λa2=>II a2 (K<|Iw 70)<|FL 4 c λa3=>CC 143 #[a3,b] λa4=>BN a4 λa5=>GF a5 (fld 5 c) λa6=>GF a5 (ld1 a6) λa7=>MF a5 b λa8=>GF a5 (Cl prog 143 #[a7,a8]) λa9=>GF a5 (Zb3 a9) λb0=>PP a5 Bt b0 λb1=>II b1 (K<|Iw 81)<|L1 (Iw 0) λb2 b3=>FL 3 c λb4=>NS b4 λb5=>BB .lss b2 b5 λb6=>II b6 (FL 3 c λb7=>IX 4 b7 b2 λb8=>FL 1 b8 λb9=>BB .geq b9 b λc0=>II c0 (K<|Iw 81)<|L1 (Iw 0) λc1 c2=>FL 3 c λc3=>IX 4 c3 b2 λc4=>FL 3 c4 λc5=>NS c5 λc6=>BB .lss c1 c6 λc7=>II c7 (FL 3 c λc8=>IX 4 c8 b2 λc9=>FL 3 c9 λd0=>IX 3 d0 c1 λd1=>LN 3 d1 λd2=>AL (Zl prog 133) 133 λd3=>TN 3 d3 d2<|FL 4 c λd4=>FL 0 d3 λd5=>CC 144 #[d4,d5] λd6=>BN d6 λd7=>II d7 (K<|Iw 81)<|FL 1 d3 λd8=>FL 1 c λd9=>BB .lss d8 d9 λe0=>II e0 (K<|Iw 80)<|BB .add c1 (Iw 1) λe1=>c2 [e1])<|BB .add b2 (Iw 1) λe2=>b3 [e2])<|FL 6 c λe3=>NS e3 λe4=>BB .gtr e4 (Iw 4) λe5=>II e5 (K<|Iw 82)<|L1 (Iw 0) λe6 e7=>FL 6 c λe8=>NS e8 λe9=>BB .lss e6 e9 λf0=>II f0 (FL 6 c λf1=>IX 3 f1 e6 λf2=>LN 3 f2 λf3=>AL (Zl prog 133) 133 λf4=>TN 3 f4 f3<|FL 4 c λf5=>FL 0 f4 λf6=>CC 144 #[f5,f6] λf7=>BN f7 λf8=>GF f8 (fld 1 f4) λf9=>GF f8 (ld1 f9) λh0=>GF f8 (bi .lss .i64 h0<|Iw 0) λh1=>PP f8 Bt h1 λh2=>GF h2 (fld 1 f4) λh3=>GF h2 (ld1 h3) λh4=>GF h2 (bi .gtr .i64 h4<|Iw 1099511627776) λh5=>PP h2 Bt h5 λh6=>GF h6 (fld 2 f4) λh7=>GF h6 (ld1 h7) λh8=>GF h6 (bi .lss .i64 h8<|Iw 0) λh9=>PP h6 Bt h9 λi0=>GF i0 (fld 2 f4) λi1=>GF i0 (ld1 i1) λi2=>GF i0 (bi .geq .i64 i2<|Iw 1000) λi3=>PP i0 Bt i3 λi4=>II i4 (K<|Iw 82)<|BB .add e6 (Iw 1) λi5=>e7 [i5])<|K<|Iw 0) w
theorem ZKl (h:ZJ7 t0 t1 w K):Cl prog 80 #[t0,t1] w K:=
 ZML 140 [4] Tryz.func80 h
def ZMR (a b w) (K:KV):=
 (BB .lss a (Iw 1) λc=>MF c a λd=>GF c (bi .gtr .i64 d<|Iw 8) λe=>PP c Bt e λf=>MF f b λh=>GF f (bi .lss .i64 h<|Iw 0) λi=>PP f Bt i λj=>MF j b λl=>MF j a λm=>GF j (bi .geq .i64 l m) λn=>PP j Bt n λo=>II o (K<|Value.tuple #[Pn,Iw 1])<|SS (mkS prog 22 a a) λp=>SS (bld (Zl prog 231) #[(0,1),(1,1),(2,1)] [(0,p),(1,b)]) λq=>AL (Value.cells q) 231 λr=>K<|Value.tuple #[r,Iw 0]) w
theorem ZM0 (h:ZMR t0 t1 w K):Cl prog 81 #[t0,t1] w K:=
 ZML 26 [4,5] Tryz.func81 h
def ZMQ (a w) (K:KV):=
 (SS (mnI .i64 a<|Iw 64) λb=>SS (mxI .i64 (Iw 0) b) λc=>SS (bld (Zl prog 233) #[(0,1),(1,1)] [(0,c)]) λd=>AL (Value.cells d) 233 λe=>K e) w
theorem ZM1 (h:ZMQ t0 w K):Cl prog 82 #[t0] w K:=
 ZML 8 [2] Tryz.func82 h
def ZMU (w) (K:KV):=
 (SS (bld (Zl prog 205) #[(0,1),(1,1)] []) λa=>AL (Value.cells a) 205 λb=>K b) w
theorem ZM4 (h:ZMU w K):Cl prog 83 #[] w K:=
 ZML 3 [0] Tryz.func83 h
def ZMV (w) (K:KV):=
 (SS (bld (Zl prog 236) #[(0,1),(1,1)] []) λa=>AL (Value.cells a) 236 λb=>K b) w
theorem ZM3 (h:ZMV w K):Cl prog 84 #[] w K:=
 ZML 3 [0] Tryz.func84 h
def ZJA (a b c d e f w) (K:KV):=
 (AL (Value.cells a) 25 λh=>SS (bsl 85 6 0 #[] []) λi=>L2 i (Iw 0) λj l m=>NS f λn=>BB .lss l n λo=>II o (BB .add c l λp=>IX 3 f l λq=>LN 3 q λr=>CC 145 #[b,p,d,e,r] λs=>AL (Zl prog 85) 85 λt=>TN 6 t s<|LN 3 h λu=>FL 4 t λv=>CC 146 #[u,b,v] λx=>L2 j (Iw 0) λy z a0=>NS x λa1=>BB .lss z a1 λa2=>II a2 (IX 1 x z λa3=>LL a3 λa4=>FF 3 t λa5=>TN 1 a5 a4<|LN 6 t λa6=>SS (bsl 85 6 1 (Zl prog 85) [(0,a6)]) λa7=>SS (apS prog #[80,80] 80 y a7) λa8=>BB .add z (Iw 1) λa9=>a0 [a8,a9])<|BB .add l (Iw 1) λb0=>m [y,b0])<|K j) w
theorem ZJP (h:ZJA t0 t1 t2 t3 t4 t5 w K):Cl prog 85 #[t0,t1,t2,t3,t4,t5] w K:=
 ZML 57 [12] Tryz.func85 h
def Zi1 (a b c w) (K:KV):=
 (CC 147 #[a,b,c] λd=>SS (bn .neq d) λe=>II e (DD0<|NN a<|FM 1 a λf=>NN d<|FM 129 d λh=>BQ .sub f h λi=>K i)<|K<|Iw 0) w
theorem ZhN (h:Zi1 t0 t1 t2 w K):Cl prog 86 #[t0,t1,t2] w K:=
 ZML 23 [6] Tryz.func86 h
def ZfB (a b c d w) (K:KV):=
 (AL (Value.cells d) 88 λe=>CC 43 #[a,b] λf=>CC 43 #[a,c] λh=>FL 0 e λi=>BB .neq i (Iw 2) λj=>MT j f λl=>GT j (bn .neq l) λm=>PP j m Bf λn=>MT n h λo=>GT n (bn .neq o) λp=>PP n p Bf λq=>K<|Value.tuple #[f,h,q]) w
theorem ZfP (h:ZfB t0 t1 t2 t3 w K):Cl prog 87 #[t0,t1,t2,t3] w K:=
 ZML 32 [8,9,10] Tryz.func87 h
def ZkR (a b c w) (K:KV):=
 (CC 94 #[a,b] λd=>BN d λe=>MF e c λf=>GF e (Cl prog 148 #[f]) λh=>GF e (Zb3 h) λi=>PP e Bt i λj=>II j (K<|Value.tuple #[Iw 0,Iw 1])<|CC 149 #[a,b] λl=>DD0<|NN a<|FQ 19 a λm=>SQ (ixA 2 1 m l) λn=>LQ n λo=>BQ .add o (Iw 1) λp=>NN a<|FQ 19 a λq=>SQ (ixA 2 1 q l) λr=>TN 1 r p<|DD0<|CC 93 #[a] λs=>NT s a λt=>NT s b λu=>GQ true s (nc t) λv=>GQ true s (fld 3 v) λx=>GQ true s (ixA 8 2 x u) λy=>GQ true s (ldN 2 y) λz=>NT s a λa0=>GQ true s (nc a0) λa1=>GQ true s (fld 1 a1) λa2=>GQ true s (ld1 a2) λa3=>GT s (Cl prog 95 #[z,a3]) λa4=>PQ s a4 Bf λa5=>JA (K<|Value.tuple #[l,Iw 0]) λa6=>II a5 (NN a<|FL 21 a λa7=>SS (mnI .i64 a7 c) λa8=>NN a<|FF 21 a λa9=>TN 1 a9 a8<|a6)<|a6) w
theorem Zjy (h:ZkR t0 t1 t2 w K):Cl prog 88 #[t0,t1,t2] w K:=
 ZML 56 [6,7] Tryz.func88 h
def Ziw (a b c d w) (K:KV):=
 (AL (Value.cells d) 88 λe=>CC 147 #[a,b,c] λf=>SS (bn .eql f) λh=>GF h (fld 0 e) λi=>GF h (ld1 i) λj=>GF h (bi .lss .i64 j<|Iw 0) λl=>PP h Bt l λm=>GF m (fld 0 e) λn=>GF m (ld1 n) λo=>GF m (bi .gtr .i64 o<|Iw 2) λp=>PP m Bt p λq=>GF q (fld 7 e) λr=>GF q (ld1 r) λs=>GF q (bO prog .shr 3 (Operand.tmp 29) (Operand.const<|Value.int IntKind.u64 1) s<|Value.int IntKind.u64 1) λt=>GF q (bi .neq .i64 t<|Iw 0) λu=>PP q Bt u λv=>II v (K<|Iw 1)<|DD0<|NN f<|FM 129 f λx=>NN a<|FM 1 a λy=>BQ .eql x y λz=>II z (K<|Iw 2)<|DD0<|NN f<|FM 128 f λa0=>NN f<|FM 129 f λa1=>BQ .add a0 a1 λa2=>BQ .rem a2 (Iw 16) λa3=>LM 8 e λa4=>NN f<|FQ 0 f λa5=>SQ (ixA 16 8 a5 a3) λa6=>TN 8 a6 a4<|NN f<|FL 129 f λa7=>BB .add a7 (Iw 1) λa8=>NN f<|FF 129 f λa9=>TN 1 a9 a8<|K<|Iw 0) w
theorem ZhI (h:Ziw t0 t1 t2 t3 w K):Cl prog 89 #[t0,t1,t2,t3] w K:=
 ZML 65 [8] Tryz.func89 h
def ZdK (a b c w) (K:KV):=
 (AL (Zl prog 88) 88 λd=>CC 147 #[a,b,c] λe=>SS (bn .eql e) λf=>MF f e λh=>GF f (nc h) λi=>GF f (fld 129 i) λj=>GF f (ld1 j) λl=>GF f (bi .eql .i64 l<|Iw 0) λm=>PP f Bt m λn=>II n (SS (bld (Zl prog 88) #[(0,1),(1,6),(7,1)] []) λo=>TN 8 d o<|LM 8 d λp=>K<|Value.tuple #[p,Bf])<|DD0<|NN e<|FM 128 e λq=>NN e<|FQ 0 e λr=>SQ (ixA 16 8 r q) λs=>LM 8 s λt=>TN 8 d t<|LM 8 d λu=>K<|Value.tuple #[u,Bt]) w
theorem ZcH (h:ZdK t0 t1 t2 w K):Cl prog 90 #[t0,t1,t2] w K:=
 ZMM 32 [(6,some 88),(7,none)] Tryz.func90 h
def ZiP (a b c w) (K:KV):=
 (AL (Zl prog 88) 88 λd=>CC 90 #[a,b,c] λe=>XT 0 e λf=>XT 1 e λh=>AL (Zl prog 88) 88 λi=>TN 8 i f<|JA (LN 8 i λj=>TN 8 d j<|LM 8 d λl=>K<|Value.tuple #[l,h]) λm=>II h (CC 147 #[a,b,c] λn=>NN n<|FL 128 n λo=>BB .add o (Iw 1) λp=>BB .rem p (Iw 16) λq=>NN n<|FF 128 n λr=>TN 1 r q<|NN n<|FL 129 n λs=>BB .sub s (Iw 1) λt=>NN n<|FF 129 n λu=>TN 1 u t<|m)<|m) w
theorem ZhB (h:ZiP t0 t1 t2 w K):Cl prog 91 #[t0,t1,t2] w K:=
 ZMM 41 [(6,some 88),(7,none)] Tryz.func91 h
def ZmI (a b c w) (K:KV):=
 (CC 94 #[a,b] λd=>BN d λe=>MF e c λf=>GF e (bO prog .shr 3 (Operand.tmp 12) (Operand.const<|Value.int IntKind.u64 1) f<|Value.int IntKind.u64 1) λh=>GF e (bi .neq .i64 h<|Iw 0) λi=>PP e Bt i λj=>MF j a λl=>MF j c λm=>GF j (nc l) λn=>GF j (fld 19 n) λo=>GF j (ixA 2 1 o m) λp=>GF j (ld1 p) λq=>GF j (bi .eql .i64 q<|Iw 0) λr=>PP j Bt r λs=>II s (K<|Iw 1)<|DD0<|NN a<|FQ 19 a λt=>SQ (ixA 2 1 t c) λu=>LQ u λv=>BQ .sub v (Iw 1) λx=>NN a<|FQ 19 a λy=>SQ (ixA 2 1 y c) λz=>TN 1 z x<|K<|Iw 0) w
theorem ZjO (h:ZmI t0 t1 t2 w K):Cl prog 92 #[t0,t1,t2] w K:=
 ZML 35 [6] Tryz.func92 h
def Zjj (a w) (K:KV):=
 (DD0<|NN a<|FM 1 a λb=>NN a<|FM 2 a λc=>BQ .gtr b c λd=>K d) w
theorem Zh7 (h:Zjj t0 w K):Cl prog 93 #[t0] w K:=
 ZML 12 [2] Tryz.func93 h
def Zns (a b w) (K:KV):=
 (BB .geq b (Iw 0) λc=>MT c b λd=>MT c a λe=>GT c (nc e) λf=>GT c (fld 0 f) λh=>GT c (ld1 h) λi=>GT c (bi .lss .i64 d i) λj=>PP c j Bf λl=>K l) w
theorem Zk7 (h:Zns t0 t1 w K):Cl prog 94 #[t0,t1] w K:=
 ZML 15 [4] Tryz.func94 h
def Zg5 (a b w) (K:KV):=
 (AL (Value.cells a) 164 λc=>FL 0 c λd=>BB .eql d b λe=>K e) w
theorem ZgN (h:Zg5 t0 t1 w K):Cl prog 95 #[t0,t1] w K:=
 ZML 9 [4] Tryz.func95 h
def ZfF (a w) (K:KV):=
 (NN a<|FL 6 a λb=>CC 150 #[b] λc=>XT 0 c λd=>XT 1 c λe=>AL (Zl prog 85) 85 λf=>TN 6 f d<|JB (λh=>NN a<|FL 9 a λi=>SS (rgM prog 160 i) λj=>L1 h λl m=>SS (nxM prog j false 0) λn=>XT 0 n λo=>II o (SS (enM prog j) λp=>XT 1 p λq=>SS (bsl 3 1 1 (Zl prog 3) [(0,q)]) λr=>SS (apS prog #[22,22] 22 l r) λs=>m [s])<|CC 99 #[l] λt=>K t) λu=>II e (FF 0 f λv=>FL 0 v λx=>SS (bsl 3 1 1 (Zl prog 3) [(0,x)]) λy=>SS (apS prog #[22,22] 22 Sn y) λz=>u z)<|u Sn) w
theorem ZfJ (h:ZfF t0 w K):Cl prog 96 #[t0] w K:=
 ZML 38 [2] Tryz.func96 h
def ZgY (a w) (K:KV):=
 (NN a<|FL 2 a λb=>K b) w
theorem ZgA (h:ZgY t0 w K):Cl prog 97 #[t0] w K:=
 ZML 7 [2] Tryz.func97 h
def Zha (a b c w) (K:KV):=
 (CC 94 #[a,b] λd=>BN d λe=>MF e c λf=>GF e (Cl prog 148 #[f]) λh=>GF e (Zb3 h) λi=>PP e Bt i λj=>II j (K<|Iw 1)<|DD0<|CC 93 #[a] λl=>SQ (Zb3 l) λm=>NF m a λn=>GF m (Cl prog 151 #[n,Value.func (.func 95) #[] #[]]) λo=>GQ false m (Zb3 o) λp=>PQ m Bt p λq=>NF q a λr=>NF q b λs=>GQ false q (nc r) λt=>GQ false q (fld 3 t) λu=>GQ false q (ixA 8 2 u s) λv=>GQ false q (ldN 2 v) λx=>NF q a λy=>GQ false q (nc y) λz=>GQ false q (fld 1 z) λa0=>GQ false q (ld1 a0) λa1=>GF q (Cl prog 152 #[x,a1]) λa2=>PQ q Bt a2 λa3=>II a3 (K<|Iw 130)<|DD0<|NN a<|FM 2 a λa4=>NN a<|FQ 19 a λa5=>SS (bO prog .and 3 (Operand.tmp 44) (Operand.const<|Iw 1) a4<|Iw 1) λa6=>SQ (ixA 2 1 a5 a6) λa7=>LQ a7 λa8=>BQ .gtr a8 (Iw 0) λa9=>II a9 (K<|Iw 150)<|DD0<|NN a<|FM 1 a λb0=>NN a<|FQ 3 a λb1=>SQ (ixA 8 2 b1 b) λb2=>FQ 1 b2 λb3=>TN 1 b3 b0<|NN a<|FL 21 a λb4=>SS (mnI .i64 b4 c) λb5=>NN a<|FF 21 a λb6=>TN 1 b6 b5<|CC 151 #[a,Value.func (.func 152) #[] #[]] λb7=>JA (K<|Iw 0) λb8=>II b7 (NN a<|FL 1 a λb9=>NN a<|FF 2 a λc0=>TN 1 c0 b9<|DD0<|NN a<|FM 22 a λc1=>NN a<|FM 21 a λc2=>SS (mxI .i64 c1 c2) λc3=>NN a<|FQ 22 a λc4=>TN 1 c4 c3<|b8)<|b8) w
theorem ZgB (h:Zha t0 t1 t2 w K):Cl prog 98 #[t0,t1,t2] w K:=
 ZML 91 [6] Tryz.func98 h
def Zmt (a w) (K:KV):=
 (NS a λb=>L2 (Iw 1125899906842624) (Iw 0) λc d e=>BB .lss d b λf=>II f (IX 1 a d λh=>LL h λi=>CC 153 #[i] λj=>SS (mnI .i64 c j) λl=>BB .add d (Iw 1) λm=>e [l,m])<|K c) w
theorem ZjX (h:Zmt t0 w K):Cl prog 99 #[t0] w K:=
 ZML 18 [2] Tryz.func99 h
def ZeF (a b w) (K:KV):=
 (NN a<|FL 7 a λc=>CC 154 #[c] λd=>BB .lss b d λe=>II e (K<|Value.tuple #[Sn,Sn,Iw 110])<|CC 96 #[a] λf=>BB .gtr b f λh=>II h (K<|Value.tuple #[Sn,Sn,Iw 130])<|NN a<|FL 7 a λi=>CC 155 #[i,b] λj=>NS j λl=>L2 Sn (Iw 0) λm n o=>BB .lss n l λp=>II p (IX 10 j n λq=>LN 10 q λr=>AL (Zl prog 246) 246 λs=>TN 10 s r<|FF 0 s λt=>LN 6 t λu=>FL 8 s λv=>SS (bld (Zl prog 129) #[(0,6),(6,1)] [(0,u),(1,v)]) λx=>SS (bsl 129 7 1 (Zl prog 129) [(0,x)]) λy=>SS (apS prog #[43,43] 43 m y) λz=>BB .add n (Iw 1) λa0=>o [z,a0])<|NN a<|FL 10 a λa1=>SS (apS prog #[43,43] 43 a1 m) λa2=>NN a<|FF 10 a λa3=>TN 1 a3 a2<|NN a<|FL 8 a λa4=>CC 156 #[a4,b] λa5=>K<|Value.tuple #[m,a5,Iw 0]) w
theorem ZeP (h:ZeF t0 t1 w K):Cl prog 100 #[t0,t1] w K:=
 ZML 59 [4,5,6] Tryz.func100 h
def Zpz (a w) (K:KV):=
 (NS a λb=>L2 Sn (Iw 0) λc d e=>BB .lss d b λf=>II f (IX 6 a d λh=>LN 6 h λi=>AL (Zl prog 85) 85 λj=>TN 6 j i<|LN 6 j λl=>SS (bld (Zl prog 88) #[(0,1),(1,6),(7,1)] [(1,l)]) λm=>SS (bsl 88 8 1 (Zl prog 88) [(0,m)]) λn=>SS (apS prog #[46,46] 46 c n) λo=>BB .add d (Iw 1) λp=>e [o,p])<|K c) w
theorem Zlt (h:Zpz t0 w K):Cl prog 101 #[t0] w K:=
 ZML 19 [2] Tryz.func101 h
def ZWz (a w) (K:KV):=
 (AL (Zl prog 129) 129 λb=>CC 157 #[a] λc=>BN c λd=>II d (SS (bld (Zl prog 129) #[(0,6),(6,1)] []) λe=>TN 7 b e<|LM 7 b λf=>K<|Value.tuple #[f,Sn,Iw 150])<|NN a<|FL 7 a λh=>CC 158 #[h] λi=>XT 0 i λj=>XT 1 i λ_=>AL (Zl prog 85) 85 λl=>TN 6 l j<|DD0<|NN a<|FQ 0 a λm=>FM 1 m λn=>NN a<|FM 3 a λo=>IQ 7 n o λp=>FM 3 p λq=>NN a<|FM 4 a λr=>FM 4 l λs=>CC 159 #[q,r,s] λt=>XQ 0 t λu=>XQ 1 t λv=>NN a<|FF 4 a λx=>TN 1 x u<|DD0<|NN a<|FQ 0 a λy=>LM 3 y λz=>NN a<|FM 3 a λa0=>NN a<|FM 5 a λa1=>FQ 0 l λa2=>FM 0 a2 λa3=>FM 5 l λa4=>CC 85 #[z,a0,a1,a3,a4,v] λa5=>NN a<|FL 5 a λa6=>NS v λa7=>BB .add a6 a7 λa8=>NN a<|FF 5 a λa9=>TN 1 a9 a8<|LN 6 l λb0=>SS (bld (Zl prog 129) #[(0,6),(6,1)] [(0,b0),(1,u)]) λb1=>AL (Zl prog 129) 129 λb2=>TN 7 b2 b1<|DD0<|NN a<|FQ 8 a λb3=>LQ b3 λb4=>LM 7 b2 λb5=>SS (bsl 129 7 1 (Zl prog 129) [(0,b5)]) λb6=>OO (ld1 b3) b4<|SS (apS prog #[43,43] 43 b4 b6) λb7=>NN a<|FQ 8 a λb8=>TN 1 b8 b7<|LN 7 b2 λb9=>TN 7 b b9<|LM 7 b λc0=>K<|Value.tuple #[c0,a5,Iw 0]) w
theorem ZXu (h:ZWz t0 w K):Cl prog 102 #[t0] w K:=
 ZMM 93 [(2,some 129),(3,none),(4,none)] Tryz.func102 h
def ZWa (a b c w) (K:KV):=
 (SS (bsl 88 8 0 #[] []) λd=>NN a<|FL 6 a λe=>IX 1 e b λf=>LL f λh=>SS (apS prog #[46,46] 46 d h) λi=>DD0<|NN a<|FQ 6 a λj=>LQ j λl=>SS (apS prog #[46,46] 46 i c) λm=>OO (ld1 j) l<|IQ 1 l b λn=>TN 1 n m<|K<|Value.tuple #[]) w
theorem ZXe (h:ZWa t0 t1 t2 w K):Cl prog 103 #[t0,t1,t2] w K:=
 ZML 26 [] Tryz.func103 h
def ZXR (a w) (K:KV):=
 (SS (bsl 88 8 0 #[] []) λb=>L2 b (Iw 0) λc d e=>NS a λf=>BB .lss d f λh=>II h (IX 6 a d λi=>LN 6 i λj=>SS (bld (Zl prog 88) #[(0,1),(1,6),(7,1)] [(1,j)]) λl=>SS (bsl 88 8 1 (Zl prog 88) [(0,l)]) λm=>SS (apS prog #[46,46] 46 c m) λn=>BB .add d (Iw 1) λo=>e [n,o])<|K c) w
theorem ZX3 (h:ZXR t0 w K):Cl prog 104 #[t0] w K:=
 ZML 21 [2] Tryz.func104 h
def ZWw (a w) (K:KV):=
 (AL (Zl prog 129) 129 λb=>NN a<|FL 6 a λc=>CC 160 #[c] λd=>XT 0 d λe=>XT 1 d λf=>AL (Zl prog 85) 85 λh=>TN 6 h e<|DD0<|SQ (Zb3 f) λi=>GQ false i (fld 0 h) λj=>GQ false i (fld 0 j) λl=>GQ false i (ld1 l) λm=>NF i a λn=>GQ false i (nc n) λo=>GQ false i (fld 0 o) λp=>GQ false i (fld 2 p) λq=>GQ false i (ld1 q) λr=>GQ false i (bi .geq .i64 m r) λs=>PQ i Bt s λt=>II t (SS (bld (Zl prog 129) #[(0,6),(6,1)] []) λu=>TN 7 b u<|LM 7 b λv=>K<|Value.tuple #[v,Sn,Iw 150])<|NN a<|FL 7 a λx=>NN x<|FL 1 x λy=>NS y λz=>BB .geq z (Iw 64) λa0=>MF a0 a λa1=>GF a0 (nc a1) λa2=>GF a0 (fld 8 a2) λa3=>GF a0 (ld1 a3) λa4=>GF a0 (nc a4) λa5=>GF a0 (fld 1 a5) λa6=>GF a0 (ld1 a6) λa7=>GF a0 (lnS a7) λa8=>GF a0 (bi .gtr .i64 a8<|Iw 192) λa9=>PP a0 Bt a9 λb0=>II b0 (SS (bld (Zl prog 129) #[(0,6),(6,1)] []) λb1=>TN 7 b b1<|LM 7 b λb2=>K<|Value.tuple #[b2,Sn,Iw 2])<|NN a<|FL 6 a λb3=>CC 158 #[b3] λ_=>DD0<|NN a<|FQ 0 a λb4=>FM 1 b4 λb5=>NN a<|FM 3 a λb6=>IQ 7 b5 b6 λb7=>FM 3 b7 λb8=>NN a<|FM 4 a λb9=>FM 4 h λc0=>CC 159 #[b8,b9,c0] λc1=>XQ 0 c1 λc2=>XQ 1 c1 λc3=>DD0<|NN a<|FQ 0 a λc4=>LM 3 c4 λc5=>NN a<|FM 3 a λc6=>NN a<|FM 5 a λc7=>FQ 0 h λc8=>FM 0 c8 λc9=>FM 5 h λd0=>CC 85 #[c5,c6,c7,c9,d0,c3] λd1=>DD0<|NN a<|FQ 7 a λd2=>LQ d2 λd3=>LM 6 h λd4=>NN a<|FM 4 a λd5=>NN a<|FM 5 a λd6=>SS (bld (Zl prog 251) #[(0,6),(6,1),(7,1),(8,1),(9,1)] [(0,d4),(1,d5),(2,d6),(3,c2),(4,d1)]) λd7=>OO (ld1 d2) d3<|CC 161 #[d3,d7] λ_=>NN a<|FF 4 a λd8=>TN 1 d8 c2<|NN a<|FL 5 a λd9=>NS c3 λe0=>BB .add d9 e0 λe1=>NN a<|FF 5 a λe2=>TN 1 e2 e1<|SS (bsl 88 8 0 #[] []) λe3=>L2 e3 (Iw 0) λe4 e5 e6=>NS d1 λe7=>BB .lss e5 e7 λe8=>II e8 (JB (λe9=>BB .add e5 (Iw 1) λf0=>e6 [e9,f0]) λf1=>DD0<|NN a<|FQ 0 a λf2=>FM 1 f2 λf3=>IQ 6 d1 e5 λf4=>FM 3 f4 λf5=>IQ 7 f3 f5 λf6=>FM 0 f6 λf7=>BQ .eql f7 (Iw 1) λf8=>II f8 (IX 6 d1 e5 λf9=>LN 6 f9 λh0=>SS (bld (Zl prog 88) #[(0,1),(1,6),(7,1)] [(1,h0)]) λh1=>SS (bsl 88 8 1 (Zl prog 88) [(0,h1)]) λh2=>SS (apS prog #[46,46] 46 e4 h2) λh3=>f1 h3)<|DD0<|NN a<|FM 8 a λh4=>FQ 0 h λh5=>LM 3 h5 λh6=>IQ 6 d1 e5 λh7=>LM 6 h7 λh8=>CC 162 #[h4,h6,h8] λ_=>f1 e4)<|LN 6 h λh9=>SS (bld (Zl prog 129) #[(0,6),(6,1)] [(0,h9),(1,c2)]) λi0=>TN 7 b i0<|LM 7 b λi1=>K<|Value.tuple #[i1,e4,Iw 0]) w
theorem ZXk (h:ZWw t0 w K):Cl prog 105 #[t0] w K:=
 ZMM 176 [(2,some 129),(3,none),(4,none)] Tryz.func105 h
def ZWO (a b c w) (K:KV):=
 (CC 163 #[a,b,c] λd=>BN d λe=>II e (K<|Iw 0)<|DD0<|NN a<|FM 1 a λf=>NN a<|FM 2 a λh=>NN a<|FM 0 a λi=>BQ .mul b i λj=>BQ .add j c λl=>IQ 1 h l λm=>LQ m λn=>NQ n λo=>BQ .sub f o λp=>K p) w
theorem ZXI (h:ZWO t0 t1 t2 w K):Cl prog 106 #[t0,t1,t2] w K:=
 ZML 32 [6] Tryz.func106 h
def ZVE (a b c d w) (K:KV):=
 (AL (Value.cells d) 88 λe=>FL 0 e λf=>BB .neq f (Iw 2) λh=>MT h a λi=>GT h (nc i) λj=>GT h (fld 5 j) λl=>GT h (ld1 l) λm=>MT h b λn=>GT h (ixS 1 m n) λo=>GT h (ld1 o) λp=>GT h (bi .geq .i64 p<|Iw 0) λq=>PP h q Bf λr=>MT r a λs=>GT r (nc s) λt=>GT r (fld 5 t) λu=>GT r (ld1 u) λv=>MT r c λx=>GT r (ixS 1 v x) λy=>GT r (ld1 y) λz=>GT r (bi .geq .i64 z<|Iw 0) λa0=>PP r a0 Bf λa1=>K a1) w
theorem ZWc (h:ZVE t0 t1 t2 t3 w K):Cl prog 107 #[t0,t1,t2,t3] w K:=
 ZML 32 [8] Tryz.func107 h
def ZWL (a b c w) (K:KV):=
 (CC 117 #[a,b] λd=>BN d λe=>MF e c λf=>GF e (Cl prog 164 #[f]) λh=>GF e (Zb3 h) λi=>PP e Bt i λj=>II j (K<|Value.tuple #[Iw 0,Iw 1])<|DD0<|NN a<|FM 0 a λl=>IQ 1 l b λm=>LQ m λn=>NN a<|FM 0 a λo=>IQ 1 o b λp=>LQ p λq=>NN a<|FQ 3 a λr=>SQ (ixA 2 1 r q) λs=>LQ s λt=>BQ .add t (Iw 1) λu=>NN a<|FQ 3 a λv=>SQ (ixA 2 1 v n) λx=>TN 1 x u<|NN a<|FL 5 a λy=>MT y a λz=>GT y (nc z) λa0=>GT y (fld 1 a0) λa1=>GT y (ld1 a1) λa2=>MT y b λa3=>GT y (ixS 1 a2 a3) λa4=>GT y (ld1 a4) λa5=>PP y a5 Bf λa6=>JA (NN a<|FL 0 a λa7=>IX 1 a7 b λa8=>LL a8 λa9=>K<|Value.tuple #[a9,Iw 0]) λb0=>II a6 (NN a<|FL 7 a λb1=>SS (mnI .i64 b1 c) λb2=>NN a<|FF 7 a λb3=>TN 1 b3 b2<|b0)<|b0) w
theorem ZXM (h:ZWL t0 t1 t2 w K):Cl prog 108 #[t0,t1,t2] w K:=
 ZML 70 [6,7] Tryz.func108 h
def ZWJ (a b c d w) (K:KV):=
 (AL (Value.cells d) 88 λe=>CC 163 #[a,b,c] λf=>BN f λh=>GF h (fld 0 e) λi=>GF h (ld1 i) λj=>GF h (bi .lss .i64 j<|Iw 0) λl=>PP h Bt l λm=>GF m (fld 0 e) λn=>GF m (ld1 n) λo=>GF m (bi .gtr .i64 o<|Iw 2) λp=>PP m Bt p λq=>GF q (fld 7 e) λr=>GF q (ld1 r) λs=>GF q (bi .lss .i64 s<|Iw 0) λt=>PP q Bt t λu=>GF u (fld 7 e) λv=>GF u (ld1 v) λx=>GF u (bi .gtr .i64 x<|Iw 1) λy=>PP u Bt y λz=>II z (K<|Iw 1)<|CC 106 #[a,b,c] λa0=>BB .eql a0 (Iw 0) λa1=>II a1 (K<|Iw 2)<|SS (bsl 88 8 0 #[] []) λa2=>DD0<|NN a<|FM 2 a λa3=>NN a<|FM 0 a λa4=>BQ .mul b a4 λa5=>BQ .add a5 c λa6=>IQ 1 a3 a6 λa7=>LQ a7 λa8=>SS (apS prog #[46,46] 46 a2 a8) λa9=>DD0<|NN a<|FQ 2 a λb0=>LQ b0 λb1=>NN a<|FQ 0 a λb2=>LQ b2 λb3=>BQ .mul b b3 λb4=>BQ .add b4 c λb5=>LM 8 e λb6=>SS (bsl 88 8 1 (Zl prog 88) [(0,b6)]) λb7=>OO (ld1 b2) b3<|OO (ld1 b0) b1<|SS (apS prog #[46,46] 46 a9 b7) λb8=>OO (ld1 b2) b3<|OO (ld1 b0) b1<|IQ 1 b1 b5 λb9=>TN 1 b9 b8<|K<|Iw 0) w
theorem ZXK (h:ZWJ t0 t1 t2 t3 w K):Cl prog 109 #[t0,t1,t2,t3] w K:=
 ZML 74 [8] Tryz.func109 h
def ZWv (a b c w) (K:KV):=
 (AL (Zl prog 88) 88 λd=>DD0<|CC 163 #[a,b,c] λe=>SQ (Zb3 e) λf=>NF f a λh=>GQ false f (nc h) λi=>GQ false f (fld 2 i) λj=>GQ false f (ld1 j) λl=>NF f b λm=>NF f a λn=>GQ false f (nc n) λo=>GQ false f (fld 0 o) λp=>GQ false f (ld1 p) λq=>GQ false f (bi .mul .i64 m q) λr=>NF f c λs=>GQ false f (bi .add .i64 r s) λt=>GQ false f (ixS 1 l t) λu=>GQ false f (ld1 u) λv=>GQ false f (lnS v) λx=>GQ false f (bi .eql .i64 x<|Iw 0) λy=>PQ f Bt y λz=>II z (SS (bld (Zl prog 88) #[(0,1),(1,6),(7,1)] []) λa0=>TN 8 d a0<|LM 8 d λa1=>K<|Value.tuple #[a1,Bf])<|DD0<|NN a<|FM 2 a λa2=>NN a<|FM 0 a λa3=>BQ .mul b a3 λa4=>BQ .add a4 c λa5=>IQ 1 a2 a5 λa6=>LQ a6 λa7=>IQ 8 a7 (Iw 0) λa8=>LM 8 a8 λa9=>TN 8 d a9<|LM 8 d λb0=>K<|Value.tuple #[b0,Bt]) w
theorem ZXw (h:ZWv t0 t1 t2 w K):Cl prog 110 #[t0,t1,t2] w K:=
 ZMM 48 [(6,some 88),(7,none)] Tryz.func110 h
def ZWh (a b c w) (K:KV):=
 (AL (Value.cells c) 88 λd=>FL 0 d λe=>BB .eql e (Iw 2) λf=>II f (DD0<|NN a<|FM 6 a λh=>FQ 1 d λi=>FQ 0 i λj=>FM 0 j λl=>CC 165 #[h,b,l] λm=>K m)<|BB .eql e (Iw 0) λn=>II n (NN a<|FL 6 a λo=>CC 166 #[o,b] λp=>BB .lss p (Iw 0) λq=>II q (K<|Iw 1)<|DD0<|FQ 1 d λr=>FQ 0 r λs=>FQ 0 s λt=>LQ t λu=>NN a<|FM 6 a λv=>CC 166 #[v,b] λx=>OO (ld1 t) u<|BQ .lss u x λy=>II y (K<|Iw 110)<|DD0<|NN a<|FM 7 a λz=>FQ 1 d λa0=>LM 6 a0 λa1=>CC 167 #[z,a1] λa2=>K a2)<|K<|Iw 130) w
theorem ZXo (h:ZWh t0 t1 t2 w K):Cl prog 111 #[t0,t1,t2] w K:=
 ZML 48 [6] Tryz.func111 h
def ZWA (a b c w) (K:KV):=
 (AL (Value.cells c) 88 λd=>BB .lss b (Iw 0) λe=>MF e b λf=>MF e a λh=>GF e (nc h) λi=>GF e (fld 0 i) λj=>GF e (fld 1 j) λl=>GF e (ld1 l) λm=>GF e (lnS m) λn=>GF e (bi .geq .i64 f n) λo=>PP e Bt o λp=>MF p b λq=>MF p a λr=>GF p (nc r) λs=>GF p (fld 3 s) λt=>GF p (ld1 t) λu=>GF p (bi .eql .i64 q u) λv=>PP p Bt v λx=>II x (K<|Value.tuple #[Sn,Iw 1])<|FF 1 d λy=>FF 0 y λz=>LN 3 z λa0=>AL (Zl prog 83) 83 λa1=>TN 3 a1 a0<|FL 0 d λa2=>BB .eql a2 (Iw 2) λa3=>II a3 (NN a<|FL 9 a λa4=>IX 1 a4 b λa5=>LL a5 λa6=>BB .lss a6 (Iw 0) λa7=>GF a7 (fld 0 a1) λa8=>GF a7 (ld1 a8) λa9=>GF a7 (Cl prog 164 #[a9]) λb0=>GF a7 (Zb3 b0) λb1=>PP a7 Bt b1 λb2=>II b2 (K<|Value.tuple #[Sn,Iw 1])<|DD0<|FM 0 a1 λb3=>NN a<|FM 9 a λb4=>IQ 1 b4 b λb5=>LQ b5 λb6=>BQ .lss b3 b6 λb7=>II b7 (K<|Value.tuple #[Sn,Iw 110])<|DD0<|NN a<|FM 9 a λb8=>FM 0 a1 λb9=>IQ 1 b8 b λc0=>TN 1 c0 b9<|K<|Value.tuple #[Sn,Iw 0])<|BB .eql a2 (Iw 0) λc1=>II c1 (LN 3 a1 λc2=>CC 168 #[a,c2] λc3=>XT 0 c3 λc4=>XT 1 c3 λc5=>DD0<|FM 0 a1 λc6=>NN a<|FM 7 a λc7=>NN c7<|FM 0 c7 λc8=>BQ .lss c6 c8 λc9=>NF c9 a λd0=>GQ false c9 (nc d0) λd1=>GQ false c9 (fld 9 d1) λd2=>GQ false c9 (ld1 d2) λd3=>NF c9 b λd4=>GQ false c9 (ixS 1 d3 d4) λd5=>GQ false c9 (ld1 d5) λd6=>GQ false c9 (bi .geq .i64 d6<|Iw 0) λd7=>NF c9 d7 λd8=>GQ true d8 (fld 0 a1) λd9=>GQ true d8 (ld1 d9) λe0=>NT d8 a λe1=>GQ true d8 (nc e1) λe2=>GQ true d8 (fld 9 e2) λe3=>GQ true d8 (ld1 e3) λe4=>NT d8 b λe5=>GQ true d8 (ixS 1 e4 e5) λe6=>GQ true d8 (ld1 e6) λe7=>GQ true d8 (bi .lss .i64 e0 e7) λe8=>GQ false c9 (pk d8 e8 Bf) λe9=>PQ c9 Bt e9 λf0=>II f0 (K<|Value.tuple #[Sn,Iw 110])<|MF c5 a λf1=>GF c5 (ldN 3 a1) λf2=>GF c5 (Cl prog 169 #[f1,f2]) λf3=>PP c5 Bt f3 λf4=>II f4 (K<|Value.tuple #[Sn,Iw 3])<|NN a<|FL 6 a λf5=>CC 170 #[f5] λf6=>BB .add f6 c4 λf7=>BB .add f7 (Iw 1) λf8=>BB .gtr f8 (Iw 64) λf9=>II f9 (K<|Value.tuple #[Sn,Iw 2])<|LN 3 a1 λh0=>CC 171 #[a,h0] λh1=>DD0<|NN a<|FQ 6 a λh2=>LQ h2 λh3=>NN a<|FM 6 a λh4=>NN h4<|FM 1 h4 λh5=>FQ 1 d λh6=>LM 6 h6 λh7=>CC 172 #[h5,h7] λh8=>OO (ld1 h2) h3<|NN h3<|FQ 1 h3 λh9=>TN 1 h9 h8<|K<|Value.tuple #[h1,Iw 0])<|BB .eql a2 (Iw 1) λi0=>II i0 (LN 3 a1 λi1=>CC 168 #[a,i1] λi2=>XT 0 i2 λi3=>XT 1 i2 λi4=>NN a<|FL 9 a λi5=>IX 1 i5 b λi6=>LL i6 λi7=>BB .geq i7 (Iw 0) λi8=>II i8 (K<|Value.tuple #[Sn,Iw 1])<|DD0<|FM 0 a1 λi9=>NN a<|FM 7 a λj0=>NN j0<|FM 0 j0 λj1=>BQ .lss i9 j1 λj2=>II j2 (K<|Value.tuple #[Sn,Iw 110])<|LN 3 a1 λj3=>CC 169 #[a,j3] λj4=>II j4 (DD0<|NN a<|FM 6 a λj5=>LM 3 a1 λj6=>CC 173 #[j5,j6] λ_=>K<|Value.tuple #[Sn,Iw 0])<|BN i4 λj7=>II j7 (K<|Value.tuple #[Sn,Iw 4])<|NN a<|FL 6 a λj8=>CC 170 #[j8] λj9=>BB .add j9 i3 λl0=>BB .gtr l0 (Iw 65) λl1=>II l1 (K<|Value.tuple #[Sn,Iw 2])<|LN 3 a1 λl2=>CC 171 #[a,l2] λl3=>DD0<|NN a<|FM 6 a λl4=>LM 3 a1 λl5=>CC 173 #[l4,l5] λ_=>K<|Value.tuple #[l3,Iw 0])<|K<|Value.tuple #[Sn,Iw 130]) w
theorem ZXA (h:ZWA t0 t1 t2 w K):Cl prog 112 #[t0,t1,t2] w K:=
 ZML 204 [6,7] Tryz.func112 h
def ZWK (a b c w) (K:KV):=
 (AL (Zl prog 88) 88 λd=>CC 110 #[a,b,c] λe=>XT 0 e λf=>XT 1 e λh=>AL (Zl prog 88) 88 λi=>TN 8 i f<|JA (LN 8 i λj=>TN 8 d j<|LM 8 d λl=>K<|Value.tuple #[l,h]) λm=>II h (SS (bsl 88 8 0 #[] []) λn=>DD0<|NN a<|FQ 2 a λo=>LQ o λp=>NN a<|FQ 0 a λq=>LQ q λr=>BQ .mul b r λs=>BQ .add s c λt=>NN a<|FM 2 a λu=>NN a<|FM 0 a λv=>BQ .mul b v λx=>BQ .add x c λy=>IQ 1 u y λz=>LQ z λa0=>SQ (slc 8 a0 (some<|Iw 1) none) λa1=>SS (apS prog #[46,46] 46 n a1) λa2=>OO (ld1 q) r<|OO (ld1 o) p<|IQ 1 p t λa3=>TN 1 a3 a2<|m)<|m) w
theorem ZXL (h:ZWK t0 t1 t2 w K):Cl prog 113 #[t0,t1,t2] w K:=
 ZMM 52 [(6,some 88),(7,none)] Tryz.func113 h
def ZXf (a b c w) (K:KV):=
 (CC 117 #[a,b] λd=>BN d λe=>MF e c λf=>GF e (bi .lss .i64 f<|Iw 0) λh=>PP e Bt h λi=>MF i c λj=>GF i (bi .gtr .i64 j<|Iw 1) λl=>PP i Bt l λm=>MF m a λn=>MF m c λo=>GF m (nc n) λp=>GF m (fld 3 p) λq=>GF m (ixA 2 1 q o) λr=>GF m (ld1 r) λs=>GF m (bi .eql .i64 s<|Iw 0) λt=>PP m Bt t λu=>II u (K<|Iw 1)<|DD0<|NN a<|FQ 3 a λv=>SQ (ixA 2 1 v c) λx=>LQ x λy=>BQ .sub y (Iw 1) λz=>NN a<|FQ 3 a λa0=>SQ (ixA 2 1 a0 c) λa1=>TN 1 a1 z<|K<|Iw 0) w
theorem ZXP (h:ZXf t0 t1 t2 w K):Cl prog 114 #[t0,t1,t2] w K:=
 ZML 40 [6] Tryz.func114 h
def ZWk (a w) (K:KV):=
 (NN a<|FL 7 a λb=>CC 160 #[b] λc=>XT 0 c λd=>XT 1 c λe=>AL (Zl prog 85) 85 λf=>TN 6 f d<|JB (λh=>DD0<|NN a<|FM 6 a λi=>NN a<|FQ 0 a λj=>FM 1 j λl=>NN a<|FM 3 a λm=>IQ 7 l m λn=>FM 1 n λo=>CC 174 #[i,h,o] λp=>XQ 0 p λq=>XQ 1 p λr=>K<|Value.tuple #[q,r]) λs=>II e (FF 0 f λt=>FL 0 t λu=>s u)<|s<|Iw 1125899906842624) w
theorem ZXh (h:ZWk t0 w K):Cl prog 115 #[t0] w K:=
 ZML 39 [2,3] Tryz.func115 h
def ZVI (a w) (K:KV):=
 (DD0<|NN a<|FM 7 a λb=>NN b<|FM 0 b λc=>NN a<|FQ 0 a λd=>FM 1 d λe=>NN a<|FM 3 a λf=>IQ 7 e f λh=>FM 1 h λi=>CC 175 #[c,i] λj=>K j) w
theorem ZWG (h:ZVI t0 w K):Cl prog 116 #[t0] w K:=
 ZML 23 [2] Tryz.func116 h
def ZXD (a b w) (K:KV):=
 (BB .geq b (Iw 0) λc=>MT c b λd=>MT c a λe=>GT c (nc e) λf=>GT c (fld 0 f) λh=>GT c (ld1 h) λi=>GT c (lnS i) λj=>GT c (bi .lss .i64 d j) λl=>PP c l Bf λm=>K m) w
theorem ZXW (h:ZXD t0 t1 w K):Cl prog 117 #[t0,t1] w K:=
 ZML 16 [4] Tryz.func117 h
def ZV1 (a w) (K:KV):=
 (SS (bsl 3 1 0 #[] []) λb=>NN a<|FL 6 a λc=>CC 160 #[c] λd=>XT 0 d λe=>XT 1 d λf=>AL (Zl prog 85) 85 λh=>TN 6 h e<|JB (λi=>L2 i (Iw 0) λj l m=>NN a<|FL 9 a λn=>NS n λo=>BB .lss l o λp=>II p (JB (λq=>BB .add l (Iw 1) λr=>m [q,r]) λs=>NN a<|FL 9 a λt=>IX 1 t l λu=>LL u λv=>BB .geq v (Iw 0) λx=>II x (NN a<|FL 9 a λy=>IX 1 y l λz=>LL z λa0=>SS (bsl 3 1 1 (Zl prog 3) [(0,a0)]) λa1=>SS (apS prog #[22,22] 22 j a1) λa2=>s a2)<|s j)<|CC 121 #[j] λa3=>K a3) λa4=>II f (FF 0 h λa5=>FL 0 a5 λa6=>SS (bsl 3 1 1 (Zl prog 3) [(0,a6)]) λa7=>SS (apS prog #[22,22] 22 b a7) λa8=>a4 a8)<|a4 b) w
theorem ZW3 (h:ZV1 t0 w K):Cl prog 118 #[t0] w K:=
 ZML 52 [2] Tryz.func118 h
def ZV7 (a w) (K:KV):=
 (NN a<|FL 9 a λb=>K b) w
theorem ZW0 (h:ZV7 t0 w K):Cl prog 119 #[t0] w K:=
 ZML 7 [2] Tryz.func119 h
def ZV5 (a b c w) (K:KV):=
 (CC 117 #[a,b] λd=>BN d λe=>MF e c λf=>GF e (Cl prog 164 #[f]) λh=>GF e (Zb3 h) λi=>PP e Bt i λj=>II j (K<|Iw 1)<|NN a<|FL 5 a λl=>BN l λm=>MF m a λn=>GF m (nc n) λo=>GF m (fld 1 o) λp=>GF m (ld1 p) λq=>GF m (Cl prog 176 #[q]) λr=>GF m (Zb3 r) λs=>PP m Bt s λt=>MF t a λu=>GF t (nc u) λv=>GF t (fld 2 v) λx=>GF t (ld1 x) λy=>MF t b λz=>GF t (ixS 1 y z) λa0=>GF t (ld1 a0) λa1=>PP t Bt a1 λa2=>II a2 (K<|Iw 130)<|DD0<|NN a<|FM 6 a λa3=>NN a<|FQ 3 a λa4=>SQ (ixA 2 1 a4 a3) λa5=>LQ a5 λa6=>BQ .gtr a6 (Iw 0) λa7=>II a7 (K<|Iw 150)<|NN a<|FL 2 a λa8=>IX 1 a8 b λa9=>TN 1 a9 Bt<|NN a<|FL 7 a λb0=>SS (mnI .i64 b0 c) λb1=>NN a<|FF 7 a λb2=>TN 1 b2 b1<|NN a<|FL 2 a λb3=>CC 176 #[b3] λb4=>JA (K<|Iw 0) λb5=>II b4 (NN a<|FF 5 a λb6=>TN 1 b6 Bf<|DD0<|NN a<|FM 8 a λb7=>NN a<|FM 7 a λb8=>SS (mxI .i64 b7 b8) λb9=>NN a<|FQ 8 a λc0=>TN 1 c0 b9<|NN a<|FL 9 a λc1=>BB .add c1 (Iw 1) λc2=>NN a<|FF 9 a λc3=>TN 1 c3 c2<|b5)<|b5) w
theorem ZXc (h:ZV5 t0 t1 t2 w K):Cl prog 120 #[t0,t1,t2] w K:=
 ZML 91 [6] Tryz.func120 h
def ZXS (a w) (K:KV):=
 (L2 (Iw 1125899906842624) (Iw 0) λb c d=>NS a λe=>BB .lss c e λf=>II f (IX 1 a c λh=>LL h λi=>CC 177 #[i] λj=>SS (mnI .i64 b j) λl=>BB .add c (Iw 1) λm=>d [l,m])<|K b) w
theorem ZX1 (h:ZXS t0 w K):Cl prog 121 #[t0] w K:=
 ZML 19 [2] Tryz.func121 h
def ZVS (a b w) (K:KV):=
 (NN a<|FL 7 a λc=>NN c<|FL 0 c λd=>BB .lss b d λe=>II e (K<|Value.tuple #[Sn,Sn,Iw 110])<|CC 118 #[a] λf=>BB .gtr b f λh=>II h (K<|Value.tuple #[Sn,Sn,Iw 130])<|NN a<|FL 7 a λi=>CC 178 #[i,b] λj=>SS (bsl 129 7 0 #[] []) λl=>L2 l (Iw 0) λm n o=>NS j λp=>BB .lss n p λq=>II q (DD0<|IQ 10 j n λr=>FQ 0 r λs=>LM 6 s λt=>IQ 10 j n λu=>FM 8 u λv=>SS (bld (Zl prog 129) #[(0,6),(6,1)] [(0,t),(1,v)]) λx=>SS (bsl 129 7 1 (Zl prog 129) [(0,x)]) λy=>SS (apS prog #[43,43] 43 m y) λz=>BB .add n (Iw 1) λa0=>o [z,a0])<|NN a<|FL 10 a λa1=>SS (apS prog #[43,43] 43 a1 m) λa2=>NN a<|FF 10 a λa3=>TN 1 a3 a2<|NN a<|FL 8 a λa4=>CC 179 #[a4,b] λa5=>K<|Value.tuple #[m,a5,Iw 0]) w
theorem ZWR (h:ZVS t0 t1 w K):Cl prog 122 #[t0,t1] w K:=
 ZML 66 [4,5,6] Tryz.func122 h
def ZWr (a w) (K:KV):=
 (NN a<|FL 8 a λb=>K b) w
theorem ZXi (h:ZWr t0 w K):Cl prog 123 #[t0] w K:=
 ZML 7 [2] Tryz.func123 h
def Zg8 (a w) (K:KV):=
 (AL (Value.cells a) 59 λb=>K<|Value.func (Fn.func 180) #[] #[b]) w
theorem ZgQ (h:Zg8 t0 w K):Cl prog 124 #[t0] w K:=
 ZML 4 [2] Tryz.func124 h
def ZaH (a b w) (K:KV):=
 (NS a λc=>L1 (Iw 0) λd e=>BB .lss d c λf=>II f (IX 8 a d λh=>LN 8 h λi=>SS (clV prog b #[i]) λj=>II j (K d)<|BB .add d (Iw 1) λl=>e [l])<|K<|Iw (-1)) w
theorem Zbn (h:ZaH t0 t1 w K):Cl prog 125 #[t0,t1] w K:=
 ZML 19 [4] Tryz.func125 h
def ZiH (a w) (K:KV):=
 (NN a<|FL 1 a λb=>NS b λc=>K c) w
theorem Zib (h:ZiH t0 w K):Cl prog 126 #[t0] w K:=
 ZML 8 [2] Tryz.func126 h
def ZV3 (a w) (K:KV):=
 (SS (bsl 85 6 0 #[] []) λb=>NN a<|FL 1 a λc=>SS (apS prog #[80,80] 80 b c) λd=>K d) w
theorem ZXd (h:ZV3 t0 w K):Cl prog 127 #[t0] w K:=
 ZML 11 [2] Tryz.func127 h
def Zfn (a b w) (K:KV):=
 (LL a λc=>II c (K<|Iw 0)<|LL b λd=>K d) w
theorem ZfU (h:Zfn t0 t1 w K):Cl prog 128 #[t0,t1] w K:=
 ZML 5 [2] Tryz.func128 h
def ZkW (a b w) (K:KV):=
 (NS a λc=>L2 (Iw (-1)) (Iw 0) λd e f=>BB .lss e c λh=>II h (IX 1 a e λi=>LL i λj=>BB .leq j d λl=>MF l j λm=>GF l (ld1 b) λn=>GF l (bi .geq .i64 m n) λo=>PP l Bt o λp=>II p (K Bf)<|BB .add e (Iw 1) λq=>f [j,q])<|K Bt) w
theorem Zjf (h:ZkW t0 t1 w K):Cl prog 129 #[t0,t1] w K:=
 ZML 23 [3] Tryz.func129 h
def Zku (a b w) (K:KV):=
 (FL 3 a λc=>NS c λd=>L1 (Iw 0) λe f=>BB .lss e d λh=>II h (IX 4 c e λi=>LN 4 i λj=>AL (Zl prog 54) 54 λl=>TN 4 l j<|FL 1 l λm=>LL b λn=>BB .geq m n λo=>II o (K<|Iw 81)<|FL 3 l λp=>NS p λq=>L1 (Iw 0) λr s=>BB .lss r q λt=>II t (IX 3 p r λu=>LN 3 u λv=>AL (Zl prog 133) 133 λx=>TN 3 x v<|DD0<|FM 4 a λy=>FM 0 x λz=>FQ 1 x λa0=>LQ a0 λa1=>FQ 1 a λa2=>LQ a2 λa3=>BQ .geq a1 a3 λa4=>CC 131 #[y,z] λa5=>OO (ld1 a2) a3<|OO (ld1 a0) a1<|CC 69 #[a5,Iw 81] λa6=>OO (ld1 a2) a3<|OO (ld1 a0) a1<|CC 69 #[a4,Iw 80] λa7=>SS (bsl 108 1 2 (Zl prog 108) [(0,a6),(1,a7)]) λa8=>CC 66 #[a8] λa9=>BB .neq a9 (Iw 0) λb0=>II b0 (K a9)<|BB .add r (Iw 1) λb1=>s [b1])<|BB .add e (Iw 1) λb2=>f [b2])<|K<|Iw 0) w
theorem ZjB (h:Zku t0 t1 w K):Cl prog 130 #[t0,t1] w K:=
 ZML 45 [2] Tryz.func130 h
def Zb6 (a b w) (K:KV):=
 (CC 181 #[a,b] λc=>BB .geq c (Iw 0) λd=>K d) w
theorem ZcF (h:Zb6 t0 t1 w K):Cl prog 131 #[t0,t1] w K:=
 ZML 9 [4] Tryz.func131 h
def Zko (a b w) (K:KV):=
 (AL (Value.cells a) 133 λc=>FL 4 b λd=>FL 0 c λe=>CC 131 #[d,e] λf=>BN f λh=>GF h (fld 1 c) λi=>GF h (ld1 i) λj=>GF h (Cl prog 70 #[j,Iw 0,Iw 1099511627776]) λl=>GF h (Zb3 l) λm=>PP h Bt m λn=>GF n (fld 2 c) λo=>GF n (ld1 o) λp=>GF n (Cl prog 70 #[p,Iw 0,Iw 999]) λq=>GF n (Zb3 q) λr=>PP n Bt r λs=>K s) w
theorem Zja (h:Zko t0 t1 w K):Cl prog 132 #[t0,t1] w K:=
 ZML 22 [3] Tryz.func132 h
end Go.Proofs.YtceipnkeijhebaaGreat
end
