/- Texts of the proof, joined. Conditions: none. -/
import Derived.Test.YtnhaekgogppbiaaGreatP0
import Derived.Test.YtnhaekgogppbiaaGreatProg
import Derived.KernelRfl
import Derived.Maps.RangeRun
section
namespace Go.E
open Go.RowKit
variable {P:Program} {w:World} {K:KV}
def slA (P:Program) (t:TypeId) (x:Value) (lo hi:Option Value) (w:World) (K:KV):Prop:=ex P (oV (Instr.sliceAt t x lo hi none)) w K
def meM (P:Program) (t:TypeId) (m k:Value) (w:World) (K:KV):Prop:=ex P (oV (Instr.mapEntry t m k)) w K
def esM (P:Program) (t:TypeId) (m s x:Value) (w:World) (K:KV):Prop:=ex P (oU (Instr.entryStore t m s x)) w K
def clI (P:Program) (x:Value) (name:String) (args:Array Value) (w:World) (K:KV):Prop:=ex P (invoke (.fn (.method name) #[]) (#[x]++args)) w K
theorem Zrj {t:TypeId} {v rcv:Value} {name:String} {f:FuncId} {args:Array Value} (hm:(Go.method (P.types.size+Made.depth) t v name).run P w=.ok (f,rcv) w) (h:Cl P f (#[rcv]++args) w K):clI P (.iface t v) name args w K:=by
 refine Zi5 ?_ h
 have h1:(#[Value.iface t v]++args)[0]?=some (Value.iface t v):=by rw[Array.getElem?_append_left (by simp)];rfl
 have h2:(#[Value.iface t v]++args).extract 1 (#[Value.iface t v]++args).size=args:=by
  apply Array.ext'
  simp
 simp only[invoke,h1,h2,callMethod,Sem.run_bind]
 have h3:(program).run P w=.ok P w:=rfl
 rw[h3]
 simp only[Result.andThen_ok,hm]
def ldT (P:Program) (t:TypeId) (x:Value) (w:World) (K:KV):Prop:=match okT P t,Zb7 P t with
 | true,true=>ldN (szD P t) x w K
 | true,false=>ld1 x w K
 | false,_=>False
theorem ZuC {t:TypeId} {x:Value} (h:ldT P t x w K):∃a v,x=.pointer (some a)∧(loadVar t a).run P w=.ok v w∧K v w:=by
 unfold ldT at h
 split at h
 ·rename_i ho ha
  obtain ⟨d,i,z,hd,hi,hz,hs,hg,hz'⟩:=Za9 ho
  obtain ⟨a',vs,hx,hn,hc,hk⟩:=h
  exact ⟨a',_,hx,ZkU hd hi (hg▸ha) (hs▸hn) hc,hk⟩
 ·rename_i ho ha
  obtain ⟨d,i,z,hd,hi,hz,hs,hg,hz'⟩:=Za9 ho
  obtain ⟨a',v,hx,hc,hk⟩:=h
  exact ⟨a',v,hx,ZkE hd (hg▸ha) hc,hk⟩
 ·exact h.elim
def Zx9:Nat × Option TypeId→ResultVar
 | (t,none)=>.tmp t
 | (t,some y)=>.cell t y
def ZFI (vs:List Value):Value:=match vs with
 | [v]=>v
 | _=>.tuple vs.toArray
def ZvW (P:Program):List (Nat × Option TypeId)→List Value→Ev→World→KV→Prop
 | [],vs,_,w,K=>K (ZFI vs) w
 | (t,none)::l,vs,ρ,w,K=>ZvW P l (vs++[ρ t]) ρ w K
 | (t,some y)::l,vs,ρ,w,K=>ldT P y (ρ t) w λv _=>ZvW P l (vs++[v]) ρ w K
theorem Zod {nt m:Nat} {a:Act} {ρ:Ev} (ha:Agr nt m a ρ) :
  ∀(rs:List (Nat × Option TypeId)) (vs:List Value),(∀r∈rs,m.testBit r.1=true)→ZvW P rs vs ρ w K→∃us,(∀(g:ResultVar→Sem Value),(∀t,g (.tmp t)=pure (a.tmps.getD t undef))→(∀t y,g (.cell t y)=(do loadVar y (←asAddr (a.tmps.getD t undef))))→((rs.map Zx9).mapM g).run P w=.ok us w)∧K (ZFI (vs++us)) w
 | [],vs,_,h=>⟨[],λg _ _=>by simp,by simpa [ZvW] using h⟩
 | (t,none)::l,vs,hm,h=>by
  obtain ⟨us,k1,k2⟩:=Zod ha l (vs++[ρ t]) (λr hr=>hm r (by simp[hr])) h
  refine ⟨ρ t::us,λg h1 h2=>?_,by simpa using k2⟩
  have k1:=k1 g h1 h2
  have he:=ha.2.2 t (hm (t,none) (by simp))
  simp only[List.map_cons,Zx9,List.mapM_cons,Sem.run_bind,h1,Sem.run_pure,Result.andThen_ok,k1,he]
 | (t,some y)::l,vs,hm,h=>by
  obtain ⟨a',v,hx,hl,hk⟩:=ZuC (K:=λv _=>ZvW P l (vs++[v]) ρ w K) h
  obtain ⟨us,k1,k2⟩:=Zod ha l (vs++[v]) (λr hr=>hm r (by simp[hr])) hk
  refine ⟨v::us,λg h1 h2=>?_,by simpa using k2⟩
  have k1:=k1 g h1 h2
  have he:=ha.2.2 t (hm (t,some y) (by simp))
  simp only[List.map_cons,Zx9,List.mapM_cons,Sem.run_bind,h2,Sem.run_pure,Result.andThen_ok,he,hx,asAddr,hl,k1]
theorem Zdr {fn:Func} {rs:List (Nat × Option TypeId)} (hr:fn.results=(rs.map Zx9).toArray) {nt m:Nat} {a:Act} {ρ:Ev} (ha:Agr nt m a ρ) (hm:∀r∈rs,m.testBit r.1=true) (h:ZvW P rs [] ρ w K) :
  ∃v,(results fn a.tmps).run P w=.ok v w∧K v w:=by
 obtain ⟨us,k1,k2⟩:=Zod ha rs [] hm h
 refine ⟨ZFI us,?_,by simpa using k2⟩
 unfold results
 rw[hr,Array.mapM_eq_mapM_toList]
 simp only[Sem.run_bind,Sem.run_map]
 rw[k1 _ (λ_=>rfl) (λ_ _=>rfl)]
 simp only[Result.andThen_ok,Sem.run_pure]
 congr 1
 unfold ZFI
 match us with
 | []=>rfl
 | [v]=>rfl
 | v::u::l=>simp
def ZGt (P:Program) (nt:Nat) (rs:List (Nat × Option TypeId)) (c:Code) (args:Array Value) (w:World) (K:KV):Prop:=
 cw P nt (Zgs (rs.map (·.1))) c (Zgs (rs.map (·.1))) (λ_=>0) ⟨λρ w=>ZvW P rs [] ρ w K,λ_ _ _=>False,λρ w=>ZvW P rs [] ρ w K⟩ (Ev.init args) w
def ZEZ (P:Program) (nt:Nat) (rs:List (Nat × Option TypeId)) (c:Code):Bool:=Zf6 P nt (Zgs (rs.map (·.1))) c (Zgs (rs.map (·.1))) (λ_=>0)
theorem ZoF {f:FuncId} {fn:Func} {c:Code} {args:Array Value} {nt:Nat} {rs:List (Nat × Option TypeId)} (hm:P.follows .mixedOrders=true)
  (hf:P.funcs[f]?=some fn) (hb:fn.body=some c) (hn:fn.ntmps=nt) (hr:fn.results=(rs.map Zx9).toArray) (hargs:args.size≤nt) (hok:ZEZ P nt rs c=true)
  (h:ZGt P nt rs c args w K):Zdi P f args w K:=by
 have hmem:∀r∈rs,(Zgs (rs.map (·.1))).testBit r.1=true:=λr hr=>Zfs (List.mem_map.2 ⟨r,hr,rfl⟩)
 refine calls_of_wp hf hb (wpIn_wide (n:=0).1 (Zac (ro:=none) hm c _ _ _ (Ev.init args) _ w _ (.inl rfl) hok ⟨by simp[hn];omega,rfl,λt _=>?_⟩ ?_ ?_ ?_ h))
 ·simp only[Ev.init,Array.getD_eq_getD_getElem?,Array.getElem?_append]
  split
  ·rfl
  ·rename_i hge
   rw[Array.getElem?_eq_none (xs:=args) (by omega)]
   cases hx:(Array.replicate (fn.ntmps - args.size) undef)[t - args.size]? with
   | none=>rfl
   | some v=>
    simp only[Array.getElem?_replicate] at hx
    split at hx
    ·cases hx;rfl
    ·cases hx
 ·intro ρ' a' w' k1 k2 _
  obtain ⟨v,k3,k4⟩:=Zdr hr k2 hmem k1
  exact ⟨k2.2.1,_,k3,_,rfl,k4⟩
 ·intro id ρ' a' w' k1
  exact k1.elim
 ·intro ρ' a' w' k1 k2
  obtain ⟨v,k3,k4⟩:=Zdr hr k2 hmem k1
  exact ⟨k2.2.1,_,k3,_,rfl,k4⟩
theorem Zab {f:FuncId} {fn:Func} {args:Array Value} {nt:Nat} {rs:List (Nat × Option TypeId)} {F:Prop} (hm:P.follows .mixedOrders=true)
  (hf:P.funcs[f]?=some fn) (hs:(match fn.body with | some _=>true | none=>false)=true) (hn:fn.ntmps=nt) (hr:fn.results=(rs.map Zx9).toArray) (hargs:args.size≤nt)
  (hok:ZEZ P nt rs (match fn.body with | some c=>c | none=>.skip)=true) (he:F=ZGt P nt rs (match fn.body with | some c=>c | none=>.skip) args w K) (h:F):Zdi P f args w K:=by
 cases hb:fn.body with
 | none=>rw[hb] at hs;cases hs
 | some c=>
  rw[hb] at hok he
  exact ZoF hm hf hb hn hr hargs hok (he▸h)
end Go.E
end
section
namespace Go.E
open Go.RowKit
def Ev.putL (ρ:Ev):List (Nat × Value)→Ev
 | []=>ρ
 | (t,v)::l=>Ev.putL (ρ.upd t v) l
def bgn (l:Nat) (w:World) (K:World→Prop):Prop:=∃r,w.heap[l]?=some (.loop r)∧r.state=.ready∧K (w.putObj l (.loop { r with state:=.busy }))
def edn (l:Nat) (w:World) (K:World→Prop):Prop:=∃r,w.heap[l]?=some (.loop r)∧K (w.putObj l (.loop { r with state:=.ready,pending:=none }))
def Zz7 (D:Nat) (w:World) (K:World→Prop):Prop:=w.heap[D]?=some (.deferred (some []))∧K (w.putObj D (.deferred none))
def rdW (P:Program) (nt:Nat) (ps:List Nat) (asx bd:Code) (ρ:Ev) (l:Nat) (args:Nat→Value) (w:World) (k:World→Prop):Prop:=
 cw P nt 0 asx (lv 0 bd 0 (λ_=>0)) (λ_=>0) ⟨λρ1 w1=>bgn l w1 λw2=>cw P nt 0 bd 0 (λ_=>0) ⟨λ_ w3=>edn l w3 k,λ_ _ _=>False,λ_ _=>False⟩ ρ1 w2,λ_ _ _=>False,λ_ _=>False⟩ (ρ.putL (ps.zip ((List.range ps.length).map args))) w
def lvR (asx bd:Code):Nat:=lv 0 asx (lv 0 bd 0 (λ_=>0)) (λ_=>0)
structure ZcX (nt:Nat) (ps:List Nat) (asx bd:Code) (ρ:Ev) (r:Loop):Prop where
 params:r.params=ps.toArray
 assign:r.assign=asx
 body:r.body=bd
 size:r.tmps.size=nt
 agr:∀t,(lvR asx bd).testBit t=true→r.tmps.getD t undef=ρ t
theorem ZcX.turn {nt:Nat} {ps:List Nat} {asx bd:Code} {ρ:Ev} {r:Loop} (h:ZcX nt ps asx bd ρ r) (st:LoopState) (pd:Option Code):ZcX nt ps asx bd ρ { r with state:=st,pending:=pd }:=
 ⟨h.params,h.assign,h.body,h.size,h.agr⟩
theorem Zmj {m nt:Nat}:∀(l:List (Nat × Value)) (tmps:Array Value) (ρ:Ev),(∀x∈l,x.1<nt)→ZdN [] nt m { tmps:=tmps,defers:=[] } ρ→
  ZdN [] nt m { tmps:=l.foldl (λ(tmps:Array Value) (x:Nat × Value)=>tmps.setIfInBounds x.1 x.2) tmps,defers:=[] } (ρ.putL l)
 | [],_,_,_,h=>h
 | (t,v)::l,tmps,ρ,hl,h=>by
  refine Zmj l (tmps.setIfInBounds t v) (ρ.upd t v) (λx hx=>hl x (List.mem_cons_of_mem _ hx)) ?_
  have h1:=(h.put (d:=some t) (v:=v) (λt' ht=>by cases ht;exact hl (t,v) List.mem_cons_self)).mono (m':=m) (λt ht=>by simp[ht])
  exact h1
section
variable {P:Program} {w:World} {K:KV}
theorem ZwK (hm:P.follows .mixedOrders=true) {nt l:Nat} {ps:List Nat} {asx bd:Code} {ρ:Ev} {r:Loop} {args:Array Value} (hr:w.heap[l]?=some (.loop r)) (hf:ZcX nt ps asx bd ρ r) (hs:args.size=ps.length)
  (hps:ps.all (λt=>decide (t<nt))=true) (hda:ZaT asx=true) (hdb:ZaT bd=true) (hoa:Zf6 P nt 0 asx (lv 0 bd 0 (λ_=>0)) (λ_=>0)=true) (hob:Zf6 P nt 0 bd 0 (λ_=>0)=true)
  (h:rdW P nt ps asx bd ρ l (λi=>args.getD i undef) w λw'=>K (.bool true) w'):ex P (Instr.yield l args) w K:=by
 unfold ex
 rw[run_yield hr (by rw[hf.params];simpa using hs)]
 show RoundIn Fence.wide 0 P l r.fn _ r.assign r.body w _
 rw[hf.assign,hf.body]
 refine roundIn_of_wpIn trivial ?_
 have hzip:(r.params.zip args).toList=ps.zip args.toList:=by rw[hf.params,Array.toList_zip]
 have hargs:(List.range ps.length).map (λi=>args.getD i undef)=args.toList:=by
  apply List.ext_getElem
  ·simp[hs]
  ·intro i h1 h2
   simp at h2
   simp[Array.getD_eq_getD_getElem?,h2]
 unfold rdW at h
 rw[hargs] at h
 have hag:ZdN [] nt (lvR asx bd) { tmps:=(r.params.zip args).foldl (λtmps (x:Nat × Value)=>tmps.setIfInBounds x.1 x.2) r.tmps,defers:=[] } (ρ.putL (ps.zip args.toList)):=by
  rw[←Array.foldl_toList,hzip]
  refine Zmj _ _ _ (λx hx=>?_) ⟨hf.size,rfl,hf.agr⟩
  exact of_decide_eq_true (List.all_eq_true.1 hps x.1 (List.of_mem_zip hx).1)
 refine Zac (ro:=some l) hm asx (lv 0 bd 0 (λ_=>0)) (λ_=>0) _ _ _ w _ (.inr hda) hoa hag ?_ ?_ ?_ h
 ·rintro ρ1 a1 w1 ⟨r1,h1,h2,h3⟩ ha1 _
  refine ⟨_,run_beginRound h1 h2,?_⟩
  refine Zac (ro:=some l) hm bd 0 (λ_=>0) _ _ _ _ _ (.inr hdb) hob ha1 ?_ ?_ ?_ h3
  ·rintro ρ2 a2 w2 ⟨r2,h4,h5⟩ _ _
   exact ⟨_,_,run_endRound none h4,_,rfl,h5⟩
  ·rintro _ _ _ _ hF _ _
   exact hF.elim
  ·rintro _ _ _ hF _
   exact hF.elim
 ·rintro _ _ _ _ hF _ _
  exact hF.elim
 ·rintro _ _ _ hF _
  exact hF.elim
def rfW (P:Program) (gv:Value) (np:Nat) (Bd:Nat→(Nat→Value)→World→(World→Prop)→Prop) (w:World) (Kn:Nat→World→Prop):Prop:=
 ∀(LR:Loop→Prop),(∀r st pd,LR r→LR { r with state:=st,pending:=pd })→
  (∀(r:Loop) (W:World) (l:Nat) (args:Array Value) (K:KV),LR r→W.heap[l]?=some (.loop r)→args.size=np→Bd l (λi=>args.getD i undef) W (λW'=>K (.bool true) W')→ex P (Instr.yield l args) W K)→
  ∀r,LR r→r.state=.ready→r.pending=none→
  ∃f2 first captured,gv=.func (.func f2) first captured∧ZdL P f2=true∧Cl P f2 (first++#[.func (.yield (w.heap.size+1)) #[] #[]]++captured) ((w.alloc (.deferred (some []))).alloc (.loop r)) λ_ w3=>
   ∃r',w3.heap[w.heap.size+1]?=some (.loop r')∧r'.state≠.busy∧r'.pending=none∧Kn w.heap.size (w3.putObj (w.heap.size+1) (.loop { r' with state:=.exhausted }))
def ZGi (P:Program) (nt:Nat) (rs:List Nat) (A B C E:Code) (g:Operand) (ps:List Nat) (asx bd:Code) (args:Array Value) (w:World) (K:KV):Prop:=
 let rl:=Zgs rs
 let lE:=lv rl E rl (λ_=>0)
 let lC:=lE ||| ZAC g ||| lvR asx bd
 let lB:=lv rl C lC (λ_=>0)
 let lA:=lv rl B lB (λ_=>0)
 cw P nt rl A lA (λ_=>0) ⟨λρ w=>cw P nt rl B lB (λ_=>0) ⟨λρ w=>cw P nt rl C lC (λ_=>0) ⟨λρ w=>
  rfW P (ρ.opd g) ps.length (λl args W k=>rdW P nt ps asx bd ρ l args W k) w λD w=>
   cw P nt rl E rl (λ_=>0) ⟨λρ' w'=>Zz7 D w' λw''=>K (ZBO rs ρ') w'',λ_ _ _=>False,λ_ _=>False⟩ ρ w,
  λ_ _ _=>False,λ_ _=>False⟩ ρ w,λ_ _ _=>False,λ_ _=>False⟩ ρ w,λ_ _ _=>False,λ_ _=>False⟩ (Ev.init args) w
def Zue (P:Program) (nt:Nat) (rs:List Nat) (A B C E:Code) (g:Operand) (ps:List Nat) (asx bd:Code):Bool:=
 let rl:=Zgs rs
 let lE:=lv rl E rl (λ_=>0)
 let lC:=lE ||| ZAC g ||| lvR asx bd
 let lB:=lv rl C lC (λ_=>0)
 let lA:=lv rl B lB (λ_=>0)
 Zf6 P nt rl A lA (λ_=>0)&&Zf6 P nt rl B lB (λ_=>0)&&Zf6 P nt rl C lC (λ_=>0)&&Zf6 P nt rl E rl (λ_=>0)&&
 ps.all (λt=>decide (t<nt))&&ZaT asx&&ZaT bd&&Zf6 P nt 0 asx (lv 0 bd 0 (λ_=>0)) (λ_=>0)&&Zf6 P nt 0 bd 0 (λ_=>0)&&(match g with | .tmp _=>true | _=>false)
theorem ZnS {f:FuncId} {fn:Func} {args:Array Value} {nt i:Nat} {rs:List Nat} {A B C E:Code} {g:Operand} {ps:List Nat} {asx bd:Code} (hm:P.follows .mixedOrders=true)
  (hf:P.funcs[f]?=some fn) (hb:fn.body=some (.seq A (.seq B (.seq (.seq C (.block i (.rangeFunc g ps.toArray asx bd))) (.seq E .ret))))) (hn:fn.ntmps=nt) (hr:fn.results=(rs.map ResultVar.tmp).toArray) (hargs:args.size≤nt)
  (hok:Zue P nt rs A B C E g ps asx bd=true) (h:ZGi P nt rs A B C E g ps asx bd args w K):Zdi P f args w K:=by
 unfold Zue at hok
 simp only[Bool.and_eq_true] at hok
 obtain ⟨⟨⟨⟨⟨⟨⟨⟨⟨hA,hB⟩,hC⟩,hE⟩,hps⟩,hda⟩,hdb⟩,hoa⟩,hob⟩,hg⟩:=hok
 refine callsIn_wide (n:=0).1 (callsIn_of_wp_marks hf hb trivial ?_ rfl)
 unfold ZGi at h
 have hno:∀{p:Prop},False→p:=λh=>h.elim
 refine wpIn_seq (Zac (ro:=none) hm A _ _ _ _ _ w _ (.inl rfl) hA (⟨by simp[hn];omega,rfl,λt _=>?_⟩:ZdN [] nt _ _ (Ev.init args)) ?_ ?_ ?_ h)
 ·simp only[Ev.init,Array.getD_eq_getD_getElem?,Array.getElem?_append]
  split
  ·rfl
  ·rename_i hge
   rw[Array.getElem?_eq_none (xs:=args) (by omega)]
   cases hx:(Array.replicate (fn.ntmps - args.size) undef)[t - args.size]? with
   | none=>rfl
   | some v=>
    simp only[Array.getElem?_replicate] at hx
    split at hx
    ·cases hx;rfl
    ·cases hx
 rotate_left
 ·exact λ_ _ _ _ hF _ _=>hF.elim
 ·exact λ_ _ _ hF _=>hF.elim
 intro ρ1 a1 w1 h1 ha1 _
 refine wpIn_seq (Zac (ro:=none) hm B _ _ _ _ _ w1 _ (.inl rfl) hB ha1 ?_ ?_ ?_ h1)
 rotate_left
 ·exact λ_ _ _ _ hF _ _=>hF.elim
 ·exact λ_ _ _ hF _=>hF.elim
 intro ρ2 a2 w2 h2 ha2 _
 refine wpIn_seq (wpIn_seq (Zac (ro:=none) hm C _ _ _ _ _ w2 _ (.inl rfl) hC ha2 ?_ ?_ ?_ h2))
 rotate_left
 ·exact λ_ _ _ _ hF _ _=>hF.elim
 ·exact λ_ _ _ hF _=>hF.elim
 intro ρ3 a3 w3 h3 ha3 _
 refine wpIn_block (wpIn_rangeFunc λfn' _=>?_)
 have hev:a3.eval g=ρ3.opd g:=ha3.opd (l:=[g]) (λt ht=>by
  simp only[Zra,List.foldr_cons,List.foldr_nil,Nat.or_zero] at ht
  simp[ht]) g (by simp)
 obtain ⟨f2,first,captured,hgv,hbody,hcl⟩:=h3 (ZcX nt ps asx bd ρ3) (λr st pd hr=>hr.turn st pd)
  (λr W l args K hr hW hs hB=>ZwK hm hW hr hs hps hda hdb hoa hob hB)
  { state:=.ready,pending:=none,fn:=fn',tmps:=a3.tmps,params:=ps.toArray,assign:=asx,body:=bd,defers:=w3.heap.size }
  ⟨rfl,rfl,rfl,ha3.1,λt ht=>ha3.2.2 t (by simp[ht])⟩ rfl rfl
 refine ⟨w3.heap.size+1,[{ target:=.collected w3.heap.size,args:=#[] }],((w3.alloc (.deferred (some []))).alloc (.loop { state:=.ready,pending:=none,fn:=fn',tmps:=a3.tmps,params:=ps.toArray,assign:=asx,body:=bd,defers:=w3.heap.size })),{ target:=.fn (.func f2) captured,args:=first++#[.func (.yield (w3.heap.size+1)) #[] #[]] },((w3.alloc (.deferred (some []))).alloc (.loop { state:=.ready,pending:=none,fn:=fn',tmps:=a3.tmps,params:=ps.toArray,assign:=asx,body:=bd,defers:=w3.heap.size })),f2,first++#[.func (.yield (w3.heap.size+1)) #[] #[]]++captured,((w3.alloc (.deferred (some []))).alloc (.loop { state:=.ready,pending:=none,fn:=fn',tmps:=a3.tmps,params:=ps.toArray,assign:=asx,body:=bd,defers:=w3.heap.size })),run_enterLoop_outer fn' a3.tmps ps.toArray asx bd,?_,λ_ _=>trivial,?_,(λh=>by cases h),callsIn_wide.2 (Calls.mono (Cl.ret hbody hcl) ?_)⟩
 ·have he:a3.eval g=.func (.func f2) first captured:=hev.trans hgv
  simp only[resolve,he,Deferred.ofValue,List.map_toArray,List.map_cons,List.map_nil]
  rfl
 ·exact Zcu hbody
 ·rintro ev w5 ⟨v,rfl,r',hr1,hr2,hr3,hr4⟩
  rw[hr3] at hr4
  refine ⟨none,_,by rw[run_endLoop hr1 hr2,hr3],?_⟩
  show Exit.inBlock _ _ .normal _ _
  refine wpIn_seq (Zac (ro:=none) (ds:=[{ target:=.collected w3.heap.size,args:=#[] }]) hm E _ _ _ _ _ _ _ (.inl rfl) hE ?_ ?_ ?_ ?_ hr4)
  ·exact ⟨ha3.1,by rw[ha3.2.1];rfl,λt ht=>ha3.2.2 t (by simp[ht])⟩
  ·rintro ρ4 a4 w6 ⟨hD,hK⟩ ha4 _
   refine wpIn_ret ?_
   show LeavesInM _ _ _ _ _ _ a4.defers _ _
   rw[ha4.2.1]
   refine ⟨by simp,.inl ⟨_,_,rfl,run_takeDeferred hD,?_⟩⟩
   exact ⟨_,Zia hr (⟨ha4.1,rfl,ha4.2.2⟩:ZdN [] nt _ { a4 with defers:=[] } ρ4) (λt ht=>Zfs ht) _,_,rfl,hK⟩
  ·exact λ_ _ _ _ hF _ _=>hF.elim
  ·exact λ_ _ _ hF _=>hF.elim
def ZEB (P:Program) (nt:Nat) (rs:List Nat) (b:Option Code) (args:Array Value) (w:World) (K:KV):Prop:=
 match b with
 | some (.seq A (.seq B (.seq (.seq C (.block _ (.rangeFunc g ps asx bd))) (.seq E .ret))))=>ZGi P nt rs A B C E g ps.toList asx bd args w K
 | _=>False
def Zuw (P:Program) (nt:Nat) (rs:List Nat) (b:Option Code):Bool:=
 match b with
 | some (.seq A (.seq B (.seq (.seq C (.block _ (.rangeFunc g ps asx bd))) (.seq E .ret))))=>Zue P nt rs A B C E g ps.toList asx bd
 | _=>false
theorem Zm6 {f:FuncId} {fn:Func} {args:Array Value} {nt:Nat} {rs:List Nat} (hm:P.follows .mixedOrders=true)
  (hf:P.funcs[f]?=some fn) (hn:fn.ntmps=nt) (hr:fn.results=(rs.map ResultVar.tmp).toArray) (hargs:args.size≤nt)
  (hok:Zuw P nt rs fn.body=true) {X:Prop} (hX:X=ZEB P nt rs fn.body args w K) (h:X):Zdi P f args w K:=by
 rw[hX] at h
 unfold ZEB at h
 unfold Zuw at hok
 split at h
 ·rename_i A B C j g ps asx bd E hb
  rw[hb] at hok
  exact ZnS (i:=j) (ps:=ps.toList) hm hf (by rw[hb,Array.toArray_toList]) hn hr hargs hok h
 ·exact h.elim
def lpC (LR:Loop→Prop) (l:Nat) (st:LoopState):HP:=λh=>(∀r st pd,LR r→LR { r with state:=st,pending:=pd })∧∃r,LR r∧r.state=st∧r.pending=none∧h l=some (.loop r)
def dfC (D:Nat):HP:=λh=>h D=some (.deferred (some []))
variable {e:World} {R:List HP} {LR:Loop→Prop} {l:Nat}
theorem ZhR {st:LoopState} (hS:Sat e w (lpC LR l st::R)):(∀r st pd,LR r→LR { r with state:=st,pending:=pd })∧∃r,LR r∧r.state=st∧r.pending=none∧Sat e w ((λh=>h l=some (.loop r))::R):=by
 obtain ⟨h1,h2,d,s1,s2,⟨hc,r,h3,h4,h5,h6⟩,h7⟩:=hS.mem
 exact ⟨hc,r,h3,h4,h5,hS.of_mem λ_=>⟨h1,h2,d,s1,s2,h6,h7⟩⟩
theorem ZcS {o:Obj} {b:Nat} (hS:Sat e w ((λh=>h b=some o)::R)):w.heap[b]?=some o:=by
 obtain ⟨g,hg,hs⟩:=hS.get 0 rfl
 exact hs _ _ hg
theorem ZB7 {K:World→Prop} (hS:Sat e w (lpC LR l .ready::R)) (hk:∀w',Sat e w' (lpC LR l .busy::R)→K w'):bgn l w K:=by
 obtain ⟨hc,r,h1,h2,h3,h4⟩:=ZhR hS
 refine ⟨r,ZcS h4,h2,hk _ ?_⟩
 have h5:Sat e (w.putObj l (.loop { r with state:=.busy })) ((λh=>h l=some (.loop { r with state:=.busy }))::R):=h4.setB
 exact h5.imp λg hg=>⟨hc,_,hc r .busy r.pending h1,rfl,h3,hg⟩
theorem ZwR {K:World→Prop} (hS:Sat e w (lpC LR l .busy::R)) (hk:∀w',Sat e w' (lpC LR l .ready::R)→K w'):edn l w K:=by
 obtain ⟨hc,r,h1,h2,h3,h4⟩:=ZhR hS
 refine ⟨r,ZcS h4,hk _ ?_⟩
 have h5:Sat e (w.putObj l (.loop { r with state:=.ready,pending:=none })) ((λh=>h l=some (.loop { r with state:=.ready,pending:=none }))::R):=h4.setB
 exact h5.imp λg hg=>⟨hc,_,hc r .ready none h1,rfl,rfl,hg⟩
theorem Zvn {K:World→Prop} {D:Nat} (hS:Sat e w (dfC D::R)) (hk:∀w',Sat e w' R→K w'):Zz7 D w K:=by
 refine ⟨ZcS (o:=.deferred (some [])) hS,hk _ ?_⟩
 have h5:Sat e (w.putObj D (.deferred none)) ((λh=>h D=some (.deferred none))::R):=Sat.setB (o:=.deferred (some [])) hS
 exact h5.drop
theorem ZHL {gv:Value} {np:Nat} {Bd:Nat→(Nat→Value)→World→(World→Prop)→Prop} {Kn:Nat→World→Prop} {f2:FuncId} {captured:Array Value} (hg:gv=.func (.func f2) #[] captured) (hb:ZdL P f2=true) (hS:Sat e w R)
  (h:∀(l D:Nat) (LR:Loop→Prop) (w1:World) (Kf:World→Prop),
   (∀{e W:World} {R:List HP} {args:Array Value} {K:KV},Sat e W (lpC LR l .ready::R)→args.size=np→Bd l (λi=>args.getD i undef) W (λW'=>K (.bool true) W')→clV P (.func (.yield l) #[] #[]) args W K)→
   (∀{W:World} {R:List HP},Sat e W (lpC LR l .ready::R)→(∀W',Sat e W' R→Kn D W')→Kf W)→
   Sat e w1 (lpC LR l .ready::dfC D::R)→Cl P f2 (#[.func (.yield l) #[] #[]]++captured) w1 λ_ W=>Kf W):rfW P gv np Bd w Kn:=by
 intro LR hc hy r hr hst hpd
 refine ⟨f2,#[],captured,hg,hb,?_⟩
 have h1:=(hS.alloc (.deferred (some []))).alloc (.loop r)
 rw[World.size_alloc] at h1
 refine h (w.heap.size+1) w.heap.size LR _ _ ?_ ?_ (h1.imp λg hg=>⟨hc,r,hr,hst,hpd,hg⟩)
 ·intro e W R args K hW hs hB
  obtain ⟨_,r,k1,k2,k3,k4⟩:=ZhR hW
  refine ⟨_,_,_,rfl,?_⟩
  show ex P (Instr.yield _ (#[]++args)) W K
  rw[Array.empty_append]
  exact hy r W _ args K k1 (ZcS k4) hs hB
 ·intro W R hW hK
  obtain ⟨_,r,k1,k2,k3,k4⟩:=ZhR hW
  refine ⟨r,ZcS k4,by rw[k2];exact (by decide),k3,hK _ ?_⟩
  have h5:Sat e (W.putObj (w.heap.size+1) (.loop { r with state:=.exhausted })) ((λh=>h (w.heap.size+1)=some (.loop { r with state:=.exhausted }))::R):=k4.setB
  exact h5.drop
end
end Go.E
end
section
namespace Go.E
open Go.RowKit
def edr (l:Nat) (w:World) (K:World→Prop):Prop:=∃r,w.heap[l]?=some (.loop r)∧K (w.putObj l (.loop { r with state:=.done,pending:=some .ret }))
def ZFT (P:Program) (nt:Nat) (ps:List Nat) (asx bd:Code) (ρ:Ev) (l:Nat) (args:Nat→Value) (w:World) (k:KV):Prop:=
 cw P nt 0 asx (lv 0 bd 0 (λ_=>0)) (λ_=>0) ⟨λρ1 w1=>bgn l w1 λw2=>cw P nt 0 bd 0 (λ_=>0) ⟨λ_ w3=>edn l w3 λw4=>k (.bool true) w4,λ_ _ _=>False,λ_ w3=>edr l w3 λw4=>k (.bool false) w4⟩ ρ1 w2,λ_ _ _=>False,λ_ _=>False⟩ (ρ.putL (ps.zip ((List.range ps.length).map args))) w
section
variable {P:Program} {w:World} {K:KV}
theorem ZuM (hm:P.follows .mixedOrders=true) {nt l:Nat} {ps:List Nat} {asx bd:Code} {ρ:Ev} {r:Loop} {args:Array Value} (hr:w.heap[l]?=some (.loop r)) (hf:ZcX nt ps asx bd ρ r) (hs:args.size=ps.length)
  (hps:ps.all (λt=>decide (t<nt))=true) (hda:ZaT asx=true) (hdb:ZaT bd=true) (hoa:Zf6 P nt 0 asx (lv 0 bd 0 (λ_=>0)) (λ_=>0)=true) (hob:Zf6 P nt 0 bd 0 (λ_=>0)=true)
  (h:ZFT P nt ps asx bd ρ l (λi=>args.getD i undef) w K):ex P (Instr.yield l args) w K:=by
 unfold ex
 rw[run_yield hr (by rw[hf.params];simpa using hs)]
 show RoundIn Fence.wide 0 P l r.fn _ r.assign r.body w _
 rw[hf.assign,hf.body]
 refine roundIn_of_wpIn trivial ?_
 have hzip:(r.params.zip args).toList=ps.zip args.toList:=by rw[hf.params,Array.toList_zip]
 have hargs:(List.range ps.length).map (λi=>args.getD i undef)=args.toList:=by
  apply List.ext_getElem
  ·simp[hs]
  ·intro i h1 h2
   simp at h2
   simp[Array.getD_eq_getD_getElem?,h2]
 unfold ZFT at h
 rw[hargs] at h
 have hag:ZdN [] nt (lvR asx bd) { tmps:=(r.params.zip args).foldl (λtmps (x:Nat × Value)=>tmps.setIfInBounds x.1 x.2) r.tmps,defers:=[] } (ρ.putL (ps.zip args.toList)):=by
  rw[←Array.foldl_toList,hzip]
  refine Zmj _ _ _ (λx hx=>?_) ⟨hf.size,rfl,hf.agr⟩
  exact of_decide_eq_true (List.all_eq_true.1 hps x.1 (List.of_mem_zip hx).1)
 refine Zac (ro:=some l) hm asx (lv 0 bd 0 (λ_=>0)) (λ_=>0) _ _ _ w _ (.inr hda) hoa hag ?_ ?_ ?_ h
 ·rintro ρ1 a1 w1 ⟨r1,h1,h2,h3⟩ ha1 _
  refine ⟨_,run_beginRound h1 h2,?_⟩
  refine Zac (ro:=some l) hm bd 0 (λ_=>0) _ _ _ _ _ (.inr hdb) hob ha1 ?_ ?_ ?_ h3
  ·rintro ρ2 a2 w2 ⟨r2,h4,h5⟩ _ _
   exact ⟨_,_,run_endRound none h4,_,rfl,h5⟩
  ·rintro _ _ _ _ hF _ _
   exact hF.elim
  ·rintro ρ2 a2 w2 ⟨r2,h4,h5⟩ _
   exact ⟨_,_,run_endRound (some .ret) h4,_,rfl,h5⟩
 ·rintro _ _ _ _ hF _ _
  exact hF.elim
 ·rintro _ _ _ hF _
  exact hF.elim
def ZFR (P:Program) (gv:Value) (np:Nat) (Bd:Nat→(Nat→Value)→World→KV→Prop) (w:World) (Kn Kr:Nat→World→Prop):Prop:=
 ∀(LR:Loop→Prop),(∀r st pd,LR r→LR { r with state:=st,pending:=pd })→
  (∀(r:Loop) (W:World) (l:Nat) (args:Array Value) (K:KV),LR r→W.heap[l]?=some (.loop r)→args.size=np→Bd l (λi=>args.getD i undef) W K→ex P (Instr.yield l args) W K)→
  ∀r,LR r→r.state=.ready→r.pending=none→
  ∃f2 first captured,gv=.func (.func f2) first captured∧ZdL P f2=true∧Cl P f2 (first++#[.func (.yield (w.heap.size+1)) #[] #[]]++captured) ((w.alloc (.deferred (some []))).alloc (.loop r)) λ_ w3=>
   ∃r',w3.heap[w.heap.size+1]?=some (.loop r')∧r'.state≠.busy∧
    ((r'.pending=none∧Kn w.heap.size (w3.putObj (w.heap.size+1) (.loop { r' with state:=.exhausted })))∨(r'.pending=some .ret∧Kr w.heap.size (w3.putObj (w.heap.size+1) (.loop { r' with state:=.exhausted }))))
def Zz0 (P:Program) (nt:Nat) (rs:List (Nat × Option TypeId)) (A C E:Code) (g:Operand) (ps:List Nat) (asx bd:Code) (args:Array Value) (w:World) (K:KV):Prop:=
 let rl:=Zgs (rs.map (·.1))
 let lE:=lv rl E rl (λ_=>0)
 let lC:=lE ||| rl ||| ZAC g ||| lvR asx bd
 let lA:=lv rl C lC (λ_=>0)
 cw P nt rl A lA (λ_=>0) ⟨λρ w=>cw P nt rl C lC (λ_=>0) ⟨λρ w=>
  ZFR P (ρ.opd g) ps.length (λl args W k=>ZFT P nt ps asx bd ρ l args W k) w
   (λD w=>cw P nt rl E rl (λ_=>0) ⟨λρ' w'=>Zz7 D w' λw''=>ZvW P rs [] ρ' w'' K,λ_ _ _=>False,λ_ _=>False⟩ ρ w)
   (λD w=>Zz7 D w λw''=>ZvW P rs [] ρ w'' K),
  λ_ _ _=>False,λ_ _=>False⟩ ρ w,λ_ _ _=>False,λ_ _=>False⟩ (Ev.init args) w
def Zq4 (P:Program) (nt:Nat) (rs:List (Nat × Option TypeId)) (A C E:Code) (g:Operand) (ps:List Nat) (asx bd:Code):Bool:=
 let rl:=Zgs (rs.map (·.1))
 let lE:=lv rl E rl (λ_=>0)
 let lC:=lE ||| rl ||| ZAC g ||| lvR asx bd
 let lA:=lv rl C lC (λ_=>0)
 Zf6 P nt rl A lA (λ_=>0)&&Zf6 P nt rl C lC (λ_=>0)&&Zf6 P nt rl E rl (λ_=>0)&&
 ps.all (λt=>decide (t<nt))&&ZaT asx&&ZaT bd&&Zf6 P nt 0 asx (lv 0 bd 0 (λ_=>0)) (λ_=>0)&&Zf6 P nt 0 bd 0 (λ_=>0)&&(match g with | .tmp _=>true | _=>false)
theorem ZmS {f:FuncId} {fn:Func} {args:Array Value} {nt i:Nat} {rs:List (Nat × Option TypeId)} {A C E:Code} {g:Operand} {ps:List Nat} {asx bd:Code} (hm:P.follows .mixedOrders=true)
  (hf:P.funcs[f]?=some fn) (hb:fn.body=some (.seq A (.seq (.seq C (.block i (.rangeFunc g ps.toArray asx bd))) (.seq E .ret)))) (hn:fn.ntmps=nt) (hr:fn.results=(rs.map Zx9).toArray) (hargs:args.size≤nt)
  (hok:Zq4 P nt rs A C E g ps asx bd=true) (h:Zz0 P nt rs A C E g ps asx bd args w K):Zdi P f args w K:=by
 unfold Zq4 at hok
 simp only[Bool.and_eq_true] at hok
 obtain ⟨⟨⟨⟨⟨⟨⟨⟨hA,hC⟩,hE⟩,hps⟩,hda⟩,hdb⟩,hoa⟩,hob⟩,hg⟩:=hok
 have hmem:∀r∈rs,(Zgs (rs.map (·.1))).testBit r.1=true:=λr hr=>Zfs (List.mem_map.2 ⟨r,hr,rfl⟩)
 refine callsIn_wide (n:=0).1 (callsIn_of_wp_marks hf hb trivial ?_ rfl)
 unfold Zz0 at h
 refine wpIn_seq (Zac (ro:=none) hm A _ _ _ _ _ w _ (.inl rfl) hA (⟨by simp[hn];omega,rfl,λt _=>?_⟩:ZdN [] nt _ _ (Ev.init args)) ?_ ?_ ?_ h)
 ·simp only[Ev.init,Array.getD_eq_getD_getElem?,Array.getElem?_append]
  split
  ·rfl
  ·rename_i hge
   rw[Array.getElem?_eq_none (xs:=args) (by omega)]
   cases hx:(Array.replicate (fn.ntmps - args.size) undef)[t - args.size]? with
   | none=>rfl
   | some v=>
    simp only[Array.getElem?_replicate] at hx
    split at hx
    ·cases hx;rfl
    ·cases hx
 rotate_left
 ·exact λ_ _ _ _ hF _ _=>hF.elim
 ·exact λ_ _ _ hF _=>hF.elim
 intro ρ1 a1 w2 h2 ha2 _
 refine wpIn_seq (wpIn_seq (Zac (ro:=none) hm C _ _ _ _ _ w2 _ (.inl rfl) hC ha2 ?_ ?_ ?_ h2))
 rotate_left
 ·exact λ_ _ _ _ hF _ _=>hF.elim
 ·exact λ_ _ _ hF _=>hF.elim
 intro ρ3 a3 w3 h3 ha3 _
 refine wpIn_block (wpIn_rangeFunc λfn' _=>?_)
 have hev:a3.eval g=ρ3.opd g:=ha3.opd (l:=[g]) (λt ht=>by
  simp only[Zra,List.foldr_cons,List.foldr_nil,Nat.or_zero] at ht
  simp[ht]) g (by simp)
 obtain ⟨f2,first,captured,hgv,hbody,hcl⟩:=h3 (ZcX nt ps asx bd ρ3) (λr st pd hr=>hr.turn st pd)
  (λr W l args K hr hW hs hB=>ZuM hm hW hr hs hps hda hdb hoa hob hB)
  { state:=.ready,pending:=none,fn:=fn',tmps:=a3.tmps,params:=ps.toArray,assign:=asx,body:=bd,defers:=w3.heap.size }
  ⟨rfl,rfl,rfl,ha3.1,λt ht=>ha3.2.2 t (by simp[ht])⟩ rfl rfl
 refine ⟨w3.heap.size+1,[{ target:=.collected w3.heap.size,args:=#[] }],((w3.alloc (.deferred (some []))).alloc (.loop { state:=.ready,pending:=none,fn:=fn',tmps:=a3.tmps,params:=ps.toArray,assign:=asx,body:=bd,defers:=w3.heap.size })),{ target:=.fn (.func f2) captured,args:=first++#[.func (.yield (w3.heap.size+1)) #[] #[]] },((w3.alloc (.deferred (some []))).alloc (.loop { state:=.ready,pending:=none,fn:=fn',tmps:=a3.tmps,params:=ps.toArray,assign:=asx,body:=bd,defers:=w3.heap.size })),f2,first++#[.func (.yield (w3.heap.size+1)) #[] #[]]++captured,((w3.alloc (.deferred (some []))).alloc (.loop { state:=.ready,pending:=none,fn:=fn',tmps:=a3.tmps,params:=ps.toArray,assign:=asx,body:=bd,defers:=w3.heap.size })),run_enterLoop_outer fn' a3.tmps ps.toArray asx bd,?_,λ_ _=>trivial,?_,(λh=>by cases h),callsIn_wide.2 (Calls.mono (Cl.ret hbody hcl) ?_)⟩
 ·have he:a3.eval g=.func (.func f2) first captured:=hev.trans hgv
  simp only[resolve,he,Deferred.ofValue,List.map_toArray,List.map_cons,List.map_nil]
  rfl
 ·exact Zcu hbody
 ·rintro ev w5 ⟨v,rfl,r',hr1,hr2,hr3⟩
  rcases hr3 with ⟨hr3,hr4⟩ | ⟨hr3,hr4⟩
  ·rw[hr3] at hr4
   refine ⟨none,_,by rw[run_endLoop hr1 hr2,hr3],?_⟩
   show Exit.inBlock _ _ .normal _ _
   refine wpIn_seq (Zac (ro:=none) (ds:=[{ target:=.collected w3.heap.size,args:=#[] }]) hm E _ _ _ _ _ _ _ (.inl rfl) hE ?_ ?_ ?_ ?_ hr4)
   ·exact ⟨ha3.1,by rw[ha3.2.1];rfl,λt ht=>ha3.2.2 t (by simp[ht])⟩
   ·rintro ρ4 a4 w6 ⟨hD,hK⟩ ha4 _
    refine wpIn_ret ?_
    show LeavesInM _ _ _ _ _ _ a4.defers _ _
    rw[ha4.2.1]
    refine ⟨by simp,.inl ⟨_,_,rfl,run_takeDeferred hD,?_⟩⟩
    obtain ⟨v,k3,k4⟩:=Zdr hr (⟨ha4.1,rfl,ha4.2.2⟩:ZdN [] nt _ { a4 with defers:=[] } ρ4) hmem hK
    exact ⟨_,k3,_,rfl,k4⟩
   ·exact λ_ _ _ _ hF _ _=>hF.elim
   ·exact λ_ _ _ hF _=>hF.elim
  ·rw[hr3] at hr4
   refine ⟨some .ret,_,by rw[run_endLoop hr1 hr2,hr3],?_⟩
   obtain ⟨hD,hK⟩:=hr4
   refine wpIn_ret ?_
   show LeavesInM _ _ _ _ _ _ (_++a3.defers) _ _
   rw[ha3.2.1]
   refine ⟨by simp,.inl ⟨_,_,rfl,run_takeDeferred hD,?_⟩⟩
   obtain ⟨v,k3,k4⟩:=Zdr hr (⟨ha3.1,rfl,ha3.2.2⟩:ZdN [] nt _ { a3 with defers:=[] } ρ3) (λr hr=>by simp[hmem r hr]) hK
   exact ⟨_,k3,_,rfl,k4⟩
def Zx1 (P:Program) (nt:Nat) (rs:List (Nat × Option TypeId)) (b:Option Code) (args:Array Value) (w:World) (K:KV):Prop:=
 match b with
 | some (.seq A (.seq (.seq C (.block _ (.rangeFunc g ps asx bd))) (.seq E .ret)))=>Zz0 P nt rs A C E g ps.toList asx bd args w K
 | _=>False
def ZrS (P:Program) (nt:Nat) (rs:List (Nat × Option TypeId)) (b:Option Code):Bool:=
 match b with
 | some (.seq A (.seq (.seq C (.block _ (.rangeFunc g ps asx bd))) (.seq E .ret)))=>Zq4 P nt rs A C E g ps.toList asx bd
 | _=>false
theorem Zlq {f:FuncId} {fn:Func} {args:Array Value} {nt:Nat} {rs:List (Nat × Option TypeId)} (hm:P.follows .mixedOrders=true)
  (hf:P.funcs[f]?=some fn) (hn:fn.ntmps=nt) (hr:fn.results=(rs.map Zx9).toArray) (hargs:args.size≤nt)
  (hok:ZrS P nt rs fn.body=true) {X:Prop} (hX:X=Zx1 P nt rs fn.body args w K) (h:X):Zdi P f args w K:=by
 rw[hX] at h
 unfold Zx1 at h
 unfold ZrS at hok
 split at h
 ·rename_i A C j g ps asx bd E hb
  rw[hb] at hok
  exact ZmS (i:=j) (ps:=ps.toList) hm hf (by rw[hb,Array.toArray_toList]) hn hr hargs hok h
 ·exact h.elim
variable {e:World} {R:List HP} {LR:Loop→Prop} {l:Nat}
def lpD (LR:Loop→Prop) (l:Nat):HP:=λh=>∃r,LR r∧r.state=.done∧r.pending=some .ret∧h l=some (.loop r)
theorem ZGj {K:World→Prop} (hS:Sat e w (lpC LR l .busy::R)) (hk:∀w',Sat e w' (lpD LR l::R)→K w'):edr l w K:=by
 obtain ⟨hc,r,h1,h2,h3,h4⟩:=ZhR hS
 refine ⟨r,ZcS h4,hk _ ?_⟩
 have h5:Sat e (w.putObj l (.loop { r with state:=.done,pending:=some .ret })) ((λh=>h l=some (.loop { r with state:=.done,pending:=some .ret }))::R):=h4.setB
 exact h5.imp λg hg=>⟨_,hc r .done (some .ret) h1,rfl,rfl,hg⟩
theorem ZF0 {gv:Value} {np:Nat} {Bd:Nat→(Nat→Value)→World→KV→Prop} {Kn Kr:Nat→World→Prop} {f2:FuncId} {captured:Array Value} (hg:gv=.func (.func f2) #[] captured) (hb:ZdL P f2=true) (hS:Sat e w R)
  (h:∀(l D:Nat) (LR:Loop→Prop) (w1:World) (Kf:World→Prop),
   (∀{e W:World} {R:List HP} {args:Array Value} {K:KV},Sat e W (lpC LR l .ready::R)→args.size=np→Bd l (λi=>args.getD i undef) W K→clV P (.func (.yield l) #[] #[]) args W K)→
   (∀{W:World} {R:List HP},Sat e W (lpC LR l .ready::R)→(∀W',Sat e W' R→Kn D W')→Kf W)→
   (∀{W:World} {R:List HP},Sat e W (lpD LR l::R)→(∀W',Sat e W' R→Kr D W')→Kf W)→
   Sat e w1 (lpC LR l .ready::dfC D::R)→Cl P f2 (#[.func (.yield l) #[] #[]]++captured) w1 λ_ W=>Kf W):ZFR P gv np Bd w Kn Kr:=by
 intro LR hc hy r hr hst hpd
 refine ⟨f2,#[],captured,hg,hb,?_⟩
 have h1:=(hS.alloc (.deferred (some []))).alloc (.loop r)
 rw[World.size_alloc] at h1
 refine h (w.heap.size+1) w.heap.size LR _ _ ?_ ?_ ?_ (h1.imp λg hg=>⟨hc,r,hr,hst,hpd,hg⟩)
 ·intro e W R args K hW hs hB
  obtain ⟨_,r,k1,k2,k3,k4⟩:=ZhR hW
  refine ⟨_,_,_,rfl,?_⟩
  show ex P (Instr.yield _ (#[]++args)) W K
  rw[Array.empty_append]
  exact hy r W _ args K k1 (ZcS k4) hs hB
 ·intro W R hW hK
  obtain ⟨_,r,k1,k2,k3,k4⟩:=ZhR hW
  refine ⟨r,ZcS k4,by rw[k2];exact (by decide),.inl ⟨k3,hK _ ?_⟩⟩
  have h5:Sat e (W.putObj (w.heap.size+1) (.loop { r with state:=.exhausted })) ((λh=>h (w.heap.size+1)=some (.loop { r with state:=.exhausted }))::R):=k4.setB
  exact h5.drop
 ·intro W R hW hK
  obtain ⟨h1,h2,d,s1,s2,⟨r,k1,k2,k3,k4⟩,h7⟩:=hW.mem
  have k4:Sat e W ((λh=>h (w.heap.size+1)=some (.loop r))::R):=hW.of_mem λ_=>⟨h1,h2,d,s1,s2,k4,h7⟩
  refine ⟨r,ZcS k4,by rw[k2];exact (by decide),.inr ⟨k3,hK _ ?_⟩⟩
  have h5:Sat e (W.putObj (w.heap.size+1) (.loop { r with state:=.exhausted })) ((λh=>h (w.heap.size+1)=some (.loop { r with state:=.exhausted }))::R):=k4.setB
  exact h5.drop
end
end Go.E
end
section
namespace Go.Proofs.YtnhaekgogppbiaaGreat
open Go Go.E
set_option linter.unusedVariables false
set_option maxRecDepth 100000
noncomputable abbrev prog:Program:=Go.Proofs.Tryz.prog
theorem Zm:prog.follows .mixedOrders=true:=by kernel_rfl
theorem ZML {f:FuncId} {fn:Func} {args:Array Value} {w:World} {K:KV} {F:Prop} (nt:Nat) (rs:List Nat) (hf:prog.funcs[f]?=some fn) (h:F) (hb:ZdL prog f=true:=by kernel_rfl) (hs:(match fn.body with | some _=>true | none=>false)=true:=by kernel_rfl) (hn:fn.ntmps=nt:=by kernel_rfl) (hr:fn.results=(rs.map ResultVar.tmp).toArray:=by kernel_rfl) (ha:Nat.ble args.size nt=true:=by kernel_rfl) (hok:ZGz prog nt rs (match fn.body with | some c=>c | none=>.skip)=true:=by kernel_rfl) (he:F=fnW prog nt rs (match fn.body with | some c=>c | none=>.skip) args w K:=by kernel_rfl):Cl prog f args w K:=
 Cl.mk hb (Zc Zm hf hs hn hr (Nat.le_of_ble_eq_true ha) hok he h)
theorem ZMM {f:FuncId} {fn:Func} {args:Array Value} {w:World} {K:KV} {F:Prop} (nt:Nat) (rs:List (Nat × Option TypeId)) (hf:prog.funcs[f]?=some fn) (h:F) (hb:ZdL prog f=true:=by kernel_rfl) (hs:(match fn.body with | some _=>true | none=>false)=true:=by kernel_rfl) (hn:fn.ntmps=nt:=by kernel_rfl) (hr:fn.results=(rs.map Zx9).toArray:=by kernel_rfl) (ha:Nat.ble args.size nt=true:=by kernel_rfl) (hok:ZEZ prog nt rs (match fn.body with | some c=>c | none=>.skip)=true:=by kernel_rfl) (he:F=ZGt prog nt rs (match fn.body with | some c=>c | none=>.skip) args w K:=by kernel_rfl):Cl prog f args w K:=
 Cl.mk hb (Zab Zm hf hs hn hr (Nat.le_of_ble_eq_true ha) hok he h)
abbrev Iw (n:Int):Value:=.int .i64 n
end Go.Proofs.YtnhaekgogppbiaaGreat
end
section
namespace Go.E
open Go.RowKit
theorem ZwL {k:IntKind} {a b:Int} {w:World} {K:KV} (h:K (.bool (decide (a<b))) w):bi .lss k (.int k a) (.int k b) w K:=by
 by_cases c:a<b
 ·rw[decide_eq_true c] at h;exact Ztt c h
 ·rw[decide_eq_false c] at h;exact Ze7 c h
theorem ZHY {k:IntKind} {a b:Int} {w:World} {K:KV} (h:K (.bool (decide (a≤b))) w):bi .leq k (.int k a) (.int k b) w K:=by
 by_cases c:a≤b
 ·rw[decide_eq_true c] at h;exact ZCA c h
 ·rw[decide_eq_false c] at h;exact ZCF c h
theorem ZFJ {k:IntKind} {a b:Int} {w:World} {K:KV} (h:K (.bool (decide (b<a))) w):bi .gtr k (.int k a) (.int k b) w K:=by
 by_cases c:b<a
 ·rw[decide_eq_true c] at h;exact ZtF c h
 ·rw[decide_eq_false c] at h;exact Zle c h
theorem ZGo {k:IntKind} {a b:Int} {w:World} {K:KV} (h:K (.bool (decide (b≤a))) w):bi .geq k (.int k a) (.int k b) w K:=by
 by_cases c:b≤a
 ·rw[decide_eq_true c] at h;exact Zqv c h
 ·rw[decide_eq_false c] at h;exact ZnR c h
theorem ZBD {k:IntKind} {a b:Int} {w:World} {K:KV} (h:K (.bool (decide (a=b))) w):bi .eql k (.int k a) (.int k b) w K:=by
 by_cases c:a=b
 ·rw[decide_eq_true c] at h;exact Znq c h
 ·rw[decide_eq_false c] at h;exact Zd8 c h
theorem ZF7 {k:IntKind} {a b:Int} {w:World} {K:KV} (h:K (.bool (decide (¬a=b))) w):bi .neq k (.int k a) (.int k b) w K:=by
 by_cases c:¬a=b
 ·rw[decide_eq_true c] at h;exact Zng c h
 ·rw[decide_eq_false c] at h;exact ZoP (Decidable.not_not.1 c) h
theorem Zam {a b:Value} {w:World} {K:KV} (h:K a w):xt 0 (.tuple #[a,b]) w K:=⟨_,a,rfl,rfl,h⟩
theorem Zal {a b:Value} {w:World} {K:KV} (h:K b w):xt 1 (.tuple #[a,b]) w K:=⟨_,b,rfl,rfl,h⟩
theorem Zok {a b c:Value} {w:World} {K:KV} (h:K a w):xt 0 (.tuple #[a,b,c]) w K:=⟨_,a,rfl,rfl,h⟩
theorem Zow {a b c:Value} {w:World} {K:KV} (h:K b w):xt 1 (.tuple #[a,b,c]) w K:=⟨_,b,rfl,rfl,h⟩
theorem ZoK {a b c:Value} {w:World} {K:KV} (h:K c w):xt 2 (.tuple #[a,b,c]) w K:=⟨_,c,rfl,rfl,h⟩
theorem Zrb {s:Bool} {body:KV→Prop} {w:World} {K:KV} (h:K undef w):gd undef s body w K:=⟨λe=>(by cases e),λ_=>h⟩
theorem Zk5 {q:Bool} {w:World} {K:KV} (h:K (.bool (!q)) w):Zb3 (.bool q) w K:=⟨q,rfl,h⟩
theorem Zt1 {p:Prop} [Decidable p] {A B:Prop} (h1:p→A) (h2:¬p→B):Zr (.bool (decide p)) A B:=⟨decide p,rfl,λh=>h1 (of_decide_eq_true h),λh=>h2 (of_decide_eq_false h)⟩
theorem Zuk (p:Nat→Prop):∀n,p n→∃n,p n∧∀m,p m→n≤m:=by
 intro n
 induction n using Nat.strongRecOn with
 | _ n ih=>
  intro h
  by_cases hq:∃m,m<n∧p m
  ·obtain ⟨m,hm,hpm⟩:=hq
   exact ih m hm hpm
  ·exact ⟨n,h,λm hm=>by
    by_cases hl:m<n
    ·exact absurd ⟨m,hl,hm⟩ hq
    ·omega⟩
open Classical in
noncomputable def lst (p:Nat→Prop):Nat:=if h:∃n,p n∧∀m,p m→n≤m then Classical.choose h else 0
theorem Zdy {p:Nat→Prop} {n:Nat} (h:p n):p (lst p)∧∀m,p m→lst p≤m:=by
 have:=Zuk p n h
 unfold lst
 rw[dif_pos this]
 exact Classical.choose_spec this
theorem ZG9 {w:World} {f:World→Zbc→Prop} (I:Nat→World→Prop) (n:Nat) (h0:I n w)
  (hr:∀n w (g:Zbc),I n w→(∀n' w',n'<n→I n' w'→g [] w')→f w g):lp [] w (b0 f):=by
 refine lp0 (λw=>∃n,I n w) (λw=>lst λn=>I n w) ⟨n,h0⟩ ?_
 rintro w g ⟨n,hI⟩ hg
 have hs:=Zdy (p:=λn=>I n w) hI
 exact hr _ w g hs.1 λn' w' hn hI'=>hg _ ⟨n',hI'⟩ (Nat.lt_of_le_of_lt ((Zdy (p:=λn=>I n w') hI').2 n' hI') hn)
theorem Zdk {x0:Value} {w:World} {f:Value→World→Zbc→Prop} (I:Nat→Value→World→Prop) (n:Nat) (h0:I n x0 w)
  (hr:∀n x0 w (g:Zbc),I n x0 w→(∀n' x0' w',n'<n→I n' x0' w'→g [x0'] w')→f x0 w g):lp [x0] w (b1 f):=by
 refine lp1 (λx0 w=>∃n,I n x0 w) (λx0 w=>lst λn=>I n x0 w) ⟨n,h0⟩ ?_
 rintro x0 w g ⟨n,hI⟩ hg
 have hs:=Zdy (p:=λn=>I n x0 w) hI
 exact hr _ x0 w g hs.1 λn' x0' w' hn hI'=>hg _ _ ⟨n',hI'⟩ (Nat.lt_of_le_of_lt ((Zdy (p:=λn=>I n x0' w') hI').2 n' hI') hn)
theorem ZjF {x0 x1:Value} {w:World} {f:Value→Value→World→Zbc→Prop} (I:Nat→Value→Value→World→Prop) (n:Nat) (h0:I n x0 x1 w)
  (hr:∀n x0 x1 w (g:Zbc),I n x0 x1 w→(∀n' x0' x1' w',n'<n→I n' x0' x1' w'→g [x0',x1'] w')→f x0 x1 w g):lp [x0,x1] w (b2 f):=by
 refine lp2 (λx0 x1 w=>∃n,I n x0 x1 w) (λx0 x1 w=>lst λn=>I n x0 x1 w) ⟨n,h0⟩ ?_
 rintro x0 x1 w g ⟨n,hI⟩ hg
 have hs:=Zdy (p:=λn=>I n x0 x1 w) hI
 exact hr _ x0 x1 w g hs.1 λn' x0' x1' w' hn hI'=>hg _ _ _ ⟨n',hI'⟩ (Nat.lt_of_le_of_lt ((Zdy (p:=λn=>I n x0' x1' w') hI').2 n' hI') hn)
theorem ZIw {x0 x1 x2:Value} {w:World} {f:Value→Value→Value→World→Zbc→Prop} (I:Nat→Value→Value→Value→World→Prop) (n:Nat) (h0:I n x0 x1 x2 w)
  (hr:∀n x0 x1 x2 w (g:Zbc),I n x0 x1 x2 w→(∀n' x0' x1' x2' w',n'<n→I n' x0' x1' x2' w'→g [x0',x1',x2'] w')→f x0 x1 x2 w g):lp [x0,x1,x2] w (b3 f):=by
 refine lp3 (λx0 x1 x2 w=>∃n,I n x0 x1 x2 w) (λx0 x1 x2 w=>lst λn=>I n x0 x1 x2 w) ⟨n,h0⟩ ?_
 rintro x0 x1 x2 w g ⟨n,hI⟩ hg
 have hs:=Zdy (p:=λn=>I n x0 x1 x2 w) hI
 exact hr _ x0 x1 x2 w g hs.1 λn' x0' x1' x2' w' hn hI'=>hg _ _ _ _ ⟨n',hI'⟩ (Nat.lt_of_le_of_lt ((Zdy (p:=λn=>I n x0' x1' x2' w') hI').2 n' hI') hn)
theorem ZlB {κ ν:Type} [DecidableEq κ]:∀{m:List (κ × ν)},(m.map (·.1)).Nodup→∀{p:κ × ν},p∈m→(m.find? λq=>decide (q.1=p.1))=some p
 | [],_,p,h=>by cases h
 | q::m,hn,p,h=>by
  rw[List.map_cons,List.nodup_cons] at hn
  rw[List.find?_cons]
  cases h with
  | head=>simp
  | tail _ h=>
   have:¬q.1=p.1:=λe=>hn.1 (List.mem_map.2 ⟨p,h,e.symm⟩)
   simp only[this,decide_false]
   exact ZlB hn.2 h
section
variable {κ ν:Type}
structure ZvT [DecidableEq κ] (P:Program) (kt:TypeId) (kf:κ→Value):Prop where
 chk:∀(b:Bool) (k:κ) (w:World),(Instr.checkKey b 10000 kt (kf k)).run P w=.ok () w
 fnd:∀(k:κ) (es:List MapEntry) (ks:List κ),es.map (·.key)=ks.map kf→∀w:World,(Instr.findKey kt (kf k) es).run P w=.ok ((ks.findIdx? λx=>decide (x=k)).bind λi=>(es[i]?).map λe=>(i,e.val)) w
 sam:∀k,Instr.sameBits 10000 (kf k) (kf k)=true
structure Zx6 (P:Program) (t kt vt:TypeId) (zv:Value):Prop where
 und:P.underlying t=some (.map kt vt)
 zero:∃i,P.info? vt=some i∧i.zero=some zv
def ZBE (es:List MapEntry) (clock:Nat):Prop:=es.Pairwise (λa b=>a.born<b.born)∧∀e∈es,e.born<clock
def Zcn (kf:κ→Value) (vf:ν→Value) (p:κ × ν):Value × Value:=(kf p.1,vf p.2)
def Zaj (kf:κ→Value) (vf:ν→Value) (b:Nat) (m:List (κ × ν)):HP:=λh=>
 ∃es clock,h b=some (.map es clock)∧es.toList.map (λe=>(e.key,e.val))=m.map (Zcn kf vf)∧ZBE es.toList clock
def lkA [DecidableEq κ] (m:List (κ × ν)) (k:κ):Option ν:=(m.find? λp=>decide (p.1=k)).map (·.2)
def upA [DecidableEq κ] (m:List (κ × ν)) (k:κ) (x:ν):List (κ × ν):=if (lkA m k).isSome then m.map (λp=>if p.1=k then (k,x) else p) else m++[(k,x)]
def Znz (m:List (κ × ν)):Prop:=(m.map (·.1)).Nodup
variable {P:Program} {kt vt t:TypeId} {kf:κ→Value} {vf:ν→Value} {zv:Value} {e w:World} {L:List HP} {K:KV} {b:Nat} {m:List (κ × ν)}
theorem ZlZ {es:List MapEntry} (h:es.map (λe=>(e.key,e.val))=m.map (Zcn kf vf)):es.map (·.key)=(m.map (·.1)).map kf:=by
 have:=congrArg (List.map Prod.fst) h
 simpa [List.map_map,Function.comp_def,Zcn] using this
theorem ZxB {es:List MapEntry} (h:es.map (λe=>(e.key,e.val))=m.map (Zcn kf vf)) (i:Nat):(es[i]?).map (·.val)=(m[i]?).map λp=>vf p.2:=by
 have:=congrArg (λl=>(l[i]?).map Prod.snd) h
 simpa [List.getElem?_map,Option.map_map,Function.comp_def,Zcn] using this
theorem ZxT {es:List MapEntry} (h:es.map (λe=>(e.key,e.val))=m.map (Zcn kf vf)) (i:Nat):(es[i]?).map (·.key)=(m[i]?).map λp=>kf p.1:=by
 have:=congrArg (λl=>(l[i]?).map Prod.fst) h
 simpa [List.getElem?_map,Option.map_map,Function.comp_def,Zcn] using this
theorem ZlY [DecidableEq κ]:∀(m:List (κ × ν)) (k:κ),((m.map (·.1)).findIdx? λx=>decide (x=k)).bind (λi=>(m[i]?).map (·.2))=lkA m k
 | [],k=>rfl
 | p::m,k=>by
  simp only[List.map_cons,List.findIdx?_cons,lkA,List.find?_cons]
  by_cases h:p.1=k
  ·simp[h]
  ·have ih:=ZlY m k
   simp only[lkA] at ih
   simp only[h,decide_false,Bool.false_eq_true,if_false,←ih]
   cases hf:(m.map (·.1)).findIdx? (λx=>decide (x=k)) with
   | none=>simp
   | some i=>simp
theorem Sat.getMap (hS:Sat e w L) (i:Nat) (hi:L[i]?=some (Zaj kf vf b m)):∃es clock,w.heap[b]?=some (.map es clock)∧es.toList.map (λe=>(e.key,e.val))=m.map (Zcn kf vf)∧ZBE es.toList clock:=by
 obtain ⟨g,⟨es,clock,h1,h2,h3⟩,hs⟩:=hS.get i hi
 exact ⟨es,clock,hs _ _ h1,h2,h3⟩
theorem Zfx (kf:κ→Value) (vf:ν→Value) (hS:Sat e w L) (hk:∀b w',Sat e w' (Zaj kf vf b []::L)→K (.map (some b)) w'):ZlQ w K:=by
 refine hk _ _ ((hS.alloc (.map #[] 0)).imp λg hg=>⟨#[],0,hg,rfl,?_⟩)
 exact ⟨List.Pairwise.nil,λe he=>by cases he⟩
theorem Zbf {b:Nat} {es:Array MapEntry} {clock:Nat} (h:w.heap[b]?=some (.map es clock)):(getObj b).run P w=.ok (.map es clock) w:=by
 simp only[getObj,Sem.run,h]
theorem ZsE [DecidableEq κ] (KT:ZvT P kt kf) (MT:Zx6 P t kt vt zv) (hS:Sat e w L) (i:Nat) (hi:L[i]?=some (Zaj kf vf b m)) (k:κ)
  (hk:K (.tuple #[match lkA m k with | some x=>vf x | none=>zv,.bool (lkA m k).isSome]) w):lkM P t (.map (some b)) (kf k) true w K:=by
 obtain ⟨es,clock,h1,h2,h3⟩:=hS.getMap i hi
 obtain ⟨inf,hi1,hi2⟩:=MT.zero
 refine Yn (w':=w) ?_ hk
 have hf:=KT.fnd k es.toList (m.map (·.1)) (ZlZ h2) w
 unfold Instr.lookup
 simp only[Sem.run_bind,Yb MT.und,Result.andThen_ok,Zbf h1,Sem.run_pure,KT.chk,hf]
 have hl:=ZlY m k
 cases hx:(m.map (·.1)).findIdx? (λx=>decide (x=k)) with
 | none=>
  rw[hx] at hl
  simp only[Option.bind_none] at hl ⊢
  rw[←hl]
  simp only[Sem.run_bind,Zdn hi1 hi2,Result.andThen_ok,Sem.run_pure]
  rfl
 | some j=>
  rw[hx] at hl
  simp only[Option.bind_some] at hl ⊢
  have hv:=ZxB h2 j
  have hjl:j<m.length:=by
   obtain ⟨hj,_⟩:=List.findIdx?_eq_some_iff_getElem.1 hx
   simpa using hj
  rw[List.getElem?_eq_getElem hjl] at hv hl
  simp only[Option.map_some] at hv hl
  obtain ⟨e',he,hev⟩:=Option.map_eq_some_iff.1 hv
  rw[he,←hl]
  simp only[Option.map_some,hev]
  rfl
theorem Zmm {k0:IntKind} (k:Int):∀(es:List MapEntry) (ks:List Int) (i:Nat),es.map (·.key)=ks.map (λn=>Value.int k0 n)→
  Instr.findNow (.int k0) (.int k0 k) es i=some ((ks.findIdx? λx=>decide (x=k)).bind λj=>(es[j]?).map λe=>(i+j,e.val))
 | [],ks,i,h=>by
  cases ks with
  | nil=>rfl
  | cons=>cases h
 | e::es,ks,i,h=>by
  cases ks with
  | nil=>cases h
  | cons x ks=>
   simp only[List.map_cons,List.cons.injEq] at h
   simp only[Instr.findNow,h.1,Instr.sameNow,if_true,List.findIdx?_cons]
   by_cases hx:x=k
   ·subst hx
    simp
   ·have hk:(k==x)=false:=by simp;exact λe=>hx e.symm
    rw[hk,Zmm k es ks (i+1) h.2]
    simp only[hx,decide_false,Bool.false_eq_true,if_false]
    cases ks.findIdx? (λx=>decide (x=k)) with
    | none=>rfl
    | some j=>simp[Nat.add_comm,Nat.add_left_comm]
theorem Zwe {P:Program} {kt:TypeId} {k0:IntKind} (hu:P.underlying kt=some (.int k0)):ZvT P kt (λn:Int=>.int k0 n) where
 chk b k w:=by
  unfold Instr.checkKey
  simp only[Sem.run_bind,Yb hu,Result.andThen_ok,Sem.run_pure]
 fnd k es ks h w:=by
  unfold Instr.findKey
  simp only[Sem.run_bind,Yb hu,Result.andThen_ok,Zmm k es ks 0 h,Sem.run_pure,Nat.zero_add]
 sam k:=by simp[Instr.sameBits]
theorem ZlP {es:List MapEntry} {clock:Nat} (h:ZBE es clock) (i:Nat) (f:MapEntry→MapEntry) (hf:∀e,(f e).born=e.born):ZBE (es.modify i f) clock:=by
 have hb:(es.modify i f).map (·.born)=es.map (·.born):=by
  apply List.ext_getElem?
  intro j
  simp only[List.getElem?_map,List.getElem?_modify]
  cases es[j]? with
  | none=>rfl
  | some x=>by_cases hij:i=j <;> simp[hij,hf]
 constructor
 ·have h1:=(List.pairwise_map (f:=λe:MapEntry=>e.born) (R:=(·<·))).2 h.1
  rw[←hb] at h1
  exact List.pairwise_map.1 h1
 ·intro e he
  have:e.born∈(es.modify i f).map (·.born):=List.mem_map.2 ⟨e,he,rfl⟩
  rw[hb] at this
  obtain ⟨e',he',h2⟩:=List.mem_map.1 this
  rw[←h2]
  exact h.2 e' he'
theorem ZsG [DecidableEq κ] (KT:ZvT P kt kf) (MT:Zx6 P t kt vt zv) (hu:Znz m) (hS:Sat e w (Zaj kf vf b m::L)) (k:κ) (x:ν) {xv:Value} (hx:xv=vf x)
  (hk:∀w',Sat e w' (Zaj kf vf b (upA m k x)::L)→K undef w'):upM P t (.map (some b)) (kf k) xv w K:=by
 subst hx
 obtain ⟨h1,h2,d,s1,s2,⟨es,clock,hb,hm,hbo⟩,r⟩:=hS.mem
 have hh:w.heap[b]?=some (.map es clock):=s1 _ _ hb
 have hlt:b<w.heap.size:=(Array.getElem?_eq_some_iff.1 hh).1
 have hS0:Sat e w ((λg=>g b=some (.map es clock))::L):=⟨hS.os,hS.tape,hS.output,hS.drawn,hS.size,h1,h2,d,s1,s2,hb,r⟩
 have hf:=KT.fnd k es.toList (m.map (·.1)) (ZlZ hm) w
 have hl:=ZlY m k
 cases hx:(m.map (·.1)).findIdx? (λx=>decide (x=k)) with
 | none=>
  rw[hx] at hl hf
  simp only[Option.bind_none] at hl hf
  refine Zwl (w':=World.setB w b (.map (es.push { key:=kf k,val:=vf x,born:=clock }) (clock+1))) ?_ (hk _ ?_)
  ·unfold Instr.mapUpdate
   simp only[Sem.run_bind,Yb MT.und,Result.andThen_ok,Zbf hh,KT.chk,hf,setObj,Sem.run,hh,World.setB]
  ·refine hS0.setB.imp λg hg=>⟨_,_,hg,?_,?_⟩
   ·unfold upA
    rw[←hl]
    simp[hm,Zcn]
   ·constructor
    ·rw[Array.toList_push,List.pairwise_append]
     exact ⟨hbo.1,by simp,λa ha b hb'=>by simp at hb';subst hb';exact hbo.2 a ha⟩
    ·intro e' he'
     rw[Array.toList_push,List.mem_append] at he'
     rcases he' with he' | he'
     ·have:=hbo.2 e' he';omega
     ·simp at he';subst he';simp
 | some j=>
  rw[hx] at hl hf
  simp only[Option.bind_some] at hl hf
  obtain ⟨hj,hjk,hjn⟩:=List.findIdx?_eq_some_iff_getElem.1 hx
  simp only[List.length_map] at hj
  simp only[List.getElem_map,decide_eq_true_eq] at hjk
  have hkey:=ZxT hm j
  rw[List.getElem?_eq_getElem hj] at hkey hl
  simp only[Option.map_some] at hkey hl
  obtain ⟨e',he,hek⟩:=Option.map_eq_some_iff.1 hkey
  rw[he] at hf
  simp only[Option.map_some] at hf
  have he2:es[j]?=some e':=by rw[←Array.getElem?_toList];exact he
  refine Zwl (w':=World.setB w b (.map (es.modify j λe=>{ e with key:=kf k,val:=vf x }) clock)) ?_ (hk _ ?_)
  ·unfold Instr.mapUpdate
   have hst:(Instr.keyThatStays (((es[j]?).map (·.key)).getD (kf k)) (kf k)).run P w=.ok (kf k) w:=by
    rw[he2]
    simp only[Option.map_some,Option.getD_some,hek,hjk,Instr.keyThatStays,KT.sam,if_true,Sem.run_pure]
   simp only[Sem.run_bind,Yb MT.und,Result.andThen_ok,Zbf hh,KT.chk,hf,hst,setObj,Sem.run,hh,World.setB]
  ·refine hS0.setB.imp λg hg=>⟨_,_,hg,?_,?_⟩
   ·unfold upA
    rw[←hl]
    simp only[Option.isSome_some,if_true]
    apply List.ext_getElem?
    intro n
    have hn:=congrArg (λl=>l[n]?) hm
    simp only[List.getElem?_map] at hn ⊢
    rw[Array.toList_modify,List.getElem?_modify]
    cases hen:es.toList[n]? with
    | none=>
     rw[hen] at hn
     cases hmn:m[n]? with
     | none=>rfl
     | some p=>rw[hmn] at hn;cases hn
    | some en=>
     rw[hen] at hn
     cases hmn:m[n]? with
     | none=>rw[hmn] at hn;cases hn
     | some p=>
      rw[hmn] at hn
      simp only[Option.map_some,Option.some.injEq] at hn ⊢
      by_cases hjn':j=n
      ·subst hjn'
       have hp:p.1=k:=by
        rw[List.getElem?_eq_getElem hj] at hmn
        cases hmn
        exact hjk
       simp[hp,Zcn]
      ·have hp:p.1≠k:=by
        intro hpk
        have hnl:=(List.getElem?_eq_some_iff.1 hmn).1
        have e1:(m.map (·.1))[j]?=some k:=by simp[List.getElem?_eq_getElem hj,hjk]
        have e2:(m.map (·.1))[n]?=some k:=by simp[hmn,hpk]
        have:=(List.getElem?_inj (by simpa using hj) hu).1 (e1.trans e2.symm)
        exact hjn' this
       simp only[hjn',if_false,hp]
       exact congrArg some hn
   ·rw[Array.toList_modify]
    exact ZlP hbo j _ (λ_=>rfl)
theorem Zw2 [DecidableEq κ] (m:List (κ × ν)) (k:κ) (x:ν):(upA m k x).map (·.1)=if (lkA m k).isSome then m.map (·.1) else m.map (·.1)++[k]:=by
 unfold upA
 split
 ·rw[List.map_map]
  apply List.map_congr_left
  intro p _
  simp only[Function.comp]
  split
  ·rename_i h;exact h.symm
  ·rfl
 ·simp
theorem ZwA [DecidableEq κ] {m:List (κ × ν)} {k:κ}:lkA m k=none↔k∉m.map (·.1):=by
 unfold lkA
 simp only[Option.map_eq_none_iff,List.find?_eq_none,decide_eq_true_eq,List.mem_map,not_exists,not_and]
theorem Znz.up [DecidableEq κ] {m:List (κ × ν)} (h:Znz m) (k:κ) (x:ν):Znz (upA m k x):=by
 unfold Znz
 rw[Zw2]
 split
 ·exact h
 ·rename_i hn
  have:lkA m k=none:=by cases hl:lkA m k <;> simp_all
  rw[ZwA] at this
  rw[List.nodup_append]
  exact ⟨h,by simp,λa ha b hb=>by simp at hb;subst hb;exact λe=>this (e▸ha)⟩
theorem ZiY [DecidableEq κ] {m:List (κ × ν)} (_h:Znz m) (k:κ) (x:ν) (j:κ):lkA (upA m k x) j=if j=k then some x else lkA m j:=by
 unfold upA
 split
 ·rename_i hs
  clear _h
  induction m with
  | nil=>simp[lkA] at hs
  | cons p m ih=>
   simp only[lkA,List.map_cons,List.find?_cons] at hs ih ⊢
   by_cases hp:p.1=k
   ·by_cases hj:j=k
    ·subst hj
     simp[hp]
    ·have hpj:¬p.1=j:=λe=>hj (e▸hp)
     have hkj:¬k=j:=λe=>hj e.symm
     simp only[hp,if_true,hkj,decide_false,hj,if_false]
     clear ih hs
     have:∀m:List (κ × ν),((m.map λp=>if p.1=k then (k,x) else p).find? λp=>decide (p.1=j)).map (·.2)=(m.find? λp=>decide (p.1=j)).map (·.2):=by
      intro m
      induction m with
      | nil=>rfl
      | cons q m ih=>
       simp only[List.map_cons,List.find?_cons]
       by_cases hq:q.1=k
       ·have hqj:¬q.1=j:=λe=>hj (e▸hq)
        simp only[hq,if_true,hkj,decide_false]
        exact ih
       ·simp only[hq,if_false]
        cases hqd:decide (q.1=j) with
        | true=>rfl
        | false=>exact ih
     simpa using this m
   ·simp only[hp,decide_false,if_false] at hs ⊢
    have ih':=ih hs
    by_cases hpj:p.1=j
    ·have hjk:¬j=k:=λe=>hp (hpj.trans e)
     simp[hpj,hjk]
    ·simp only[hpj,decide_false]
     exact ih'
 ·rename_i hn
  have hnone:lkA m k=none:=by cases hl:lkA m k <;> simp_all
  unfold lkA at hnone ⊢
  rw[List.find?_append]
  by_cases hj:j=k
  ·subst hj
   rw[Option.map_eq_none_iff] at hnone
   simp[hnone]
  ·have hkj:¬k=j:=λe=>hj e.symm
   simp[hj,hkj]
def ZwS (kf:κ→Value) (vf:ν→Value) (b r:Nat) (m rem:List (κ × ν)) (cur:Option (κ × ν)):HP:=λh=>
 ∃es clock seen,h b=some (.map es clock)∧h r=some (.mapIter (some b) clock seen clock)∧es.toList.map (λe=>(e.key,e.val))=m.map (Zcn kf vf)∧ZBE es.toList clock∧
  (es.toList.filter λe=>!seen.contains e.born).map (λe=>(e.key,e.val))=rem.map (Zcn kf vf)∧
  match cur with
  | none=>seen=#[]
  | some p=>∃e'∈es.toList,seen.back?=some e'.born∧(e'.key,e'.val)=Zcn kf vf p
theorem ZB0 (hu:P.underlying t=some (.map kt vt)) (hS:Sat e w (Zaj kf vf b m::L)) (hk:∀r w',Sat e w' (ZwS kf vf b r m m none::L)→K (.pointer (some ⟨r,0,none⟩)) w'):rgM P t (.map (some b)) w K:=by
 obtain ⟨h1,h2,d,s1,s2,⟨es,clock,hb,hm,hbo⟩,r⟩:=hS.mem
 have hh:w.heap[b]?=some (.map es clock):=s1 _ _ hb
 refine Yn (w':=w.alloc (.mapIter (some b) clock #[] clock)) (v:=.pointer (some ⟨w.heap.size,0,none⟩)) ?_ (hk _ _ ?_)
 ·unfold Instr.range
  simp only[Sem.run_bind,Yb hu,Result.andThen_ok,Zbf hh,Sem.run_pure,newObj,Sem.run,World.alloc]
 ·have hS0:Sat e w ((λg=>g b=some (.map es clock))::L):=⟨hS.os,hS.tape,hS.output,hS.drawn,hS.size,h1,h2,d,s1,s2,hb,r⟩
  have h3:=hS0.alloc (.mapIter (some b) clock #[] clock)
  refine (Sat.join (l':=[_,_]) h3).imp λg hg=>?_
  obtain ⟨g1,g2,d',t1,t2,p1,g3,g4,d2,t3,t4,p2,_⟩:=hg
  exact ⟨es,clock,#[],t2 _ _ (t3 _ _ p2),t1 _ _ p1,hm,hbo,by rw[List.filter_eq_self.2 (λ_ _=>by simp)];exact hm,rfl⟩
theorem Zsr {r:Nat} {rem:List (κ × ν)} {cur:Option (κ × ν)}:∀g,ZwS kf vf b r m rem cur g→Zaj kf vf b m g:=λ_ ⟨es,clock,_,h1,_,h2,h3,_⟩=>⟨es,clock,h1,h2,h3⟩
theorem Sat.setB2 {b:Nat} {o':Obj} {Q P2:HP} (hS:Sat e w (Q::L)) (hq:∀g,Q g→∃o,g b=some o) (hp:∀g,Q g→P2 (λx=>if x=b then some o' else g x)):Sat e (World.setB w b o') (P2::L):=by
 obtain ⟨h1,h2,d,s1,s2,q,r⟩:=hS.mem
 obtain ⟨o,ho⟩:=hq h1 q
 have hw:Go.E.hp w b=some o:=s1 _ _ ho
 have hlt:b<w.heap.size:=(Array.getElem?_eq_some_iff.1 hw).1
 have hb2:h2 b=none:=by
  rcases d b with k | k
  ·rw[ho] at k;cases k
  ·exact k
 refine ⟨hS.os,hS.tape,hS.output,hS.drawn,by simpa [World.setB] using hS.size,(λx=>if x=b then some o' else h1 x),h2,λx=>?_,λx u k=>?_,λx u k=>?_,hp _ q,r⟩
 ·by_cases e:x=b
  ·subst e;exact .inr hb2
  ·simp only[if_neg e];exact d x
 ·rw[ZqG _ _ _ hlt]
  by_cases e:x=b
  ·subst e;simpa using k
  ·simp only[if_neg e] at k ⊢;exact s1 x u k
 ·rw[ZqG _ _ _ hlt]
  by_cases e:x=b
  ·subst e;rw[hb2] at k;cases k
  ·simp only[if_neg e];exact s2 x u k
theorem List.eraseIdx_map_c {α β:Type} (f:α→β):∀(l:List α) (i:Nat),(l.eraseIdx i).map f=(l.map f).eraseIdx i
 | [],_=>rfl
 | _::_,0=>rfl
 | a::l,i+1=>by simp[List.eraseIdx_map_c f l i]
theorem ZpQ (es:List MapEntry) (seen:Array Nat) (x:MapEntry) (i:Nat) (hnd:(es.map (·.born)).Nodup) (l:List MapEntry) (hl:l=es.filter λe=>!seen.contains e.born) (hi:i<l.length) (hx:l[i]=x) :
  (es.filter λe=>!(seen.push x.born).contains e.born)=l.eraseIdx i:=by
 have h1:(es.filter λe=>!(seen.push x.born).contains e.born)=(es.filter λe=>!seen.contains e.born).filter λe=>!(e.born==x.born):=by
  rw[List.filter_filter]
  apply List.filter_congr
  intro a _
  by_cases h:a.born=x.born <;> simp[h,Array.mem_push]
 rw[h1,←hl]
 have hnd2:(l.map (·.born)).Nodup:=by rw[hl];exact (List.Sublist.map _ List.filter_sublist).nodup hnd
 clear h1 hnd hl
 induction l generalizing i with
 | nil=>cases hi
 | cons a l ih=>
  rw[List.map_cons,List.nodup_cons] at hnd2
  cases i with
  | zero=>
   simp only[List.getElem_cons_zero] at hx
   subst hx
   simp only[List.filter_cons,beq_self_eq_true,Bool.not_true,Bool.false_eq_true,if_false,List.eraseIdx_cons_zero]
   apply List.filter_eq_self.2
   intro y hy
   have:y.born≠a.born:=λh=>hnd2.1 (List.mem_map.2 ⟨y,hy,h⟩)
   simpa using this
  | succ i=>
   simp only[List.getElem_cons_succ] at hx
   have hil:i<l.length:=by simpa using hi
   have:a.born≠x.born:=λh=>hnd2.1 (List.mem_map.2 ⟨x,by rw[←hx];exact List.getElem_mem _,h.symm⟩)
   have hb:(!(a.born==x.born))=true:=by simpa using this
   simp only[List.filter_cons,hb,if_true,List.eraseIdx_cons_succ]
   rw[ih i hil hx hnd2.2]
theorem ZBW {r:Nat} {rem:List (κ × ν)} {cur:Option (κ × ν)} {ty:TypeId} (hS:Sat e w (ZwS kf vf b r m rem cur::L))
  (h0:rem=[]→∀w',Sat e w' (ZwS kf vf b r m [] cur::L)→K (.tuple #[.bool false]) w')
  (h1:∀(i:Nat) (p:κ × ν) (w':World),rem[i]?=some p→Sat e w' (ZwS kf vf b r m (rem.eraseIdx i) (some p)::L)→K (.tuple #[.bool true,kf p.1,vf p.2]) w') :
  nxM P (.pointer (some ⟨r,0,none⟩)) false ty w K:=by
 obtain ⟨g,hg,hs⟩:=hS.get 0 rfl
 obtain ⟨es,clock,seen,hb,hr,hm,hbo,hrem,hcur⟩:=hg
 have hwb:w.heap[b]?=some (.map es clock):=hs _ _ hb
 have hwr:w.heap[r]?=some (.mapIter (some b) clock seen clock):=hs _ _ hr
 have hold:∀x∈es.toList,x.born<clock:=hbo.2
 have hleft:(leftOf es seen).toList=es.toList.filter λe=>!seen.contains e.born:=by unfold leftOf;simp
 rw[←hleft] at hrem
 rcases run_next_at (P:=P) w ty r b clock clock seen es clock hwr hwb hold (Nat.le_refl _) with ⟨hz,hrun⟩ | ⟨x,hx,w1,hw1,hrun⟩
 ·have hr0:rem=[]:=by
   have:=congrArg List.length hrem
   rw[List.length_map,List.length_map,Array.length_toList,hz] at this
   exact List.length_eq_zero_iff.1 this.symm
  subst hr0
  exact Yn hrun (h0 rfl w hS)
 ·obtain ⟨i,hi,hxi⟩:=List.getElem_of_mem hx
  have hil:i<rem.length:=by
   have:=congrArg List.length hrem
   simp only[List.length_map] at this
   omega
  have hpe:(x.key,x.val)=Zcn kf vf rem[i]:=by
   have:=congrArg (λl=>l[i]?) hrem
   simp only[List.getElem?_map,List.getElem?_eq_getElem hi,List.getElem?_eq_getElem hil,Option.map_some,Option.some.injEq,hxi] at this
   exact this
  have hSw:Sat e w1 (ZwS kf vf b r m rem cur::L):=by rcases hw1 with rfl | rfl;exact hS;exact hS.drew
  have hk2:=h1 i rem[i] (World.setB w1 r (.mapIter (some b) clock (seen.push x.born) clock)) (List.getElem?_eq_getElem hil)
  simp only[Zcn,Prod.mk.injEq] at hpe
  rw[←hpe.1,←hpe.2] at hk2
  refine Yn hrun (hk2 ?_)
  have hw1b:w1.heap[b]?=some (.map es clock):=by rcases hw1 with rfl | rfl <;> exact hwb
  have hw1r:w1.heap[r]?=some (.mapIter (some b) clock seen clock):=by rcases hw1 with rfl | rfl <;> exact hwr
  have hS1:Sat e w1 ((λg=>g b=some (.map es clock)∧g r=some (.mapIter (some b) clock seen clock))::L):=by
   obtain ⟨k1,k2,d,s1,s2,⟨es',clock',seen',q1,q2,_⟩,rr⟩:=hSw.mem
   have e1:=s1 _ _ q1
   have e2:=s1 _ _ q2
   have f1:some (Obj.map es' clock')=some (Obj.map es clock):=by rw[←hw1b];exact e1.symm
   have f2:some (Obj.mapIter (some b) clock' seen' clock')=some (Obj.mapIter (some b) clock seen clock):=by rw[←hw1r];exact e2.symm
   refine ⟨hSw.os,hSw.tape,hSw.output,hSw.drawn,hSw.size,k1,k2,d,s1,s2,⟨by rw[q1,f1],by rw[q2,f2]⟩,rr⟩
  refine hS1.setB2 (λg hg=>⟨_,hg.2⟩) (λg hg=>?_)
  have hbr:b≠r:=by
   intro h
   subst h
   rw[hg.1] at hg
   cases hg.2
  have hnd:(es.toList.map (·.born)).Nodup:=(List.pairwise_map (f:=λe:MapEntry=>e.born) (R:=(·<·))).2 hbo.1 |>.imp (λh=>Nat.ne_of_lt h)
  refine ⟨es,clock,seen.push x.born,by simp only[if_neg hbr];exact hg.1,by simp,hm,hbo,?_,x,?_,by simp,by simp only[Zcn,hpe]⟩
  ·have:(es.toList.filter λe=>!(seen.push x.born).contains e.born)=(leftOf es seen).toList.eraseIdx i:=by
    exact ZpQ es.toList seen x i hnd _ hleft hi hxi
   rw[this,List.eraseIdx_map_c,hrem,←List.eraseIdx_map_c]
  ·rw[hleft] at hx
   exact (List.mem_filter.1 hx).1
theorem ZCg {r:Nat} {rem:List (κ × ν)} {p:κ × ν} (i:Nat) (hS:Sat e w L) (hi:L[i]?=some (ZwS kf vf b r m rem (some p)))
  (hk:K (.tuple #[kf p.1,vf p.2]) w):enM P (.pointer (some ⟨r,0,none⟩)) w K:=by
 obtain ⟨g,hg,hs⟩:=hS.get i hi
 obtain ⟨es,clock,seen,hb,hr,hm,hbo,hrem,e',he',hback,hpe⟩:=hg
 have hwb:w.heap[b]?=some (.map es clock):=hs _ _ hb
 have hwr:w.heap[r]?=some (.mapIter (some b) clock seen clock):=hs _ _ hr
 have hfind:es.find? (λx=>x.born==e'.born)=some e':=by
  rw[←Array.find?_toList]
  have huniq:∀l:List MapEntry,l.Pairwise (λa b=>a.born<b.born)→e'∈l→l.find? (λx=>x.born==e'.born)=some e':=by
   intro l
   induction l with
   | nil=>intro _ h;cases h
   | cons x l ih=>
    intro hp hmem
    rw[List.pairwise_cons] at hp
    rw[List.find?_cons]
    cases hmem with
    | head=>simp
    | tail _ hmem=>
     have:=hp.1 e' hmem
     have hne:(x.born==e'.born)=false:=by simp;omega
     rw[hne]
     exact ih hp.2 hmem
  exact huniq _ hbo.1 he'
 refine Yn (w':=w) (v:=.tuple #[e'.key,e'.val]) ?_ ?_
 ·unfold Instr.entry
  have h1:(getObj r).run P w=.ok (.mapIter (some b) clock seen clock) w:=by simp only[getObj,Sem.run,hwr]
  simp only[Sem.run_bind,h1,Result.andThen_ok,hback,Zbf hwb,bne_self_eq_false,Bool.false_eq_true,if_false,hfind,Sem.run_pure]
 ·simp only[Zcn,Prod.mk.injEq] at hpe
  rw[hpe.1,hpe.2]
  exact hk
end
end Go.E
end
section
namespace Go.Proofs.YtnhaekgogppbiaaGreat
open Go Go.E
set_option linter.unusedVariables false
set_option maxRecDepth 100000
theorem Zr6:Zl prog 3=#[(Value.int IntKind.i64 0)]:=by kernel_rfl
theorem ZDc:Zl prog 4=#[(Value.bool false)]:=by kernel_rfl
theorem ZxC:prog.underlying 22=some (.slice 3):=by kernel_rfl
theorem Zvs:TE prog 22 3 1 8:=⟨ZxC,⟨Go.Proofs.Tryz.t3,(match Go.Proofs.Tryz.t3.zero with | some z=>z | none=>undef),by kernel_rfl,by kernel_rfl,by kernel_rfl,by kernel_rfl,by kernel_rfl⟩,by decide⟩
theorem ZxQ:prog.underlying 23=some (.slice 46):=by kernel_rfl
theorem ZFN:TE prog 23 46 7 120:=⟨ZxQ,⟨Go.Proofs.Tryz.t46,(match Go.Proofs.Tryz.t46.zero with | some z=>z | none=>undef),by kernel_rfl,by kernel_rfl,by kernel_rfl,by kernel_rfl,by kernel_rfl⟩,by decide⟩
theorem ZqI:Zl prog 25=#[(Value.slice none 0 0),(Value.slice none 0 0),(Value.int IntKind.i64 0)]:=by kernel_rfl
theorem ZDP:prog.underlying 26=some (.slice 38):=by kernel_rfl
theorem ZPy:eqT prog 6 38=some 3:=by kernel_rfl
theorem ZU9:prog.underlying 40=some (.slice 100):=by kernel_rfl
theorem ZT4:TE prog 40 100 7 56:=⟨ZU9,⟨Go.Proofs.Tryz.t100,(match Go.Proofs.Tryz.t100.zero with | some z=>z | none=>undef),by kernel_rfl,by kernel_rfl,by kernel_rfl,by kernel_rfl,by kernel_rfl⟩,by decide⟩
theorem ZUE:prog.underlying 43=some (.slice 48):=by kernel_rfl
theorem ZVt:TE prog 43 48 4 48:=⟨ZUE,⟨Go.Proofs.Tryz.t48,(match Go.Proofs.Tryz.t48.zero with | some z=>z | none=>undef),by kernel_rfl,by kernel_rfl,by kernel_rfl,by kernel_rfl,by kernel_rfl⟩,by decide⟩
theorem ZUp:prog.underlying 44=some (.slice 102):=by kernel_rfl
theorem ZVs:TE prog 44 102 3 24:=⟨ZUp,⟨Go.Proofs.Tryz.t102,(match Go.Proofs.Tryz.t102.zero with | some z=>z | none=>undef),by kernel_rfl,by kernel_rfl,by kernel_rfl,by kernel_rfl,by kernel_rfl⟩,by decide⟩
theorem ZTN:Zl prog 46=#[(Value.int IntKind.i64 0),(Value.int IntKind.i64 0),(Value.int IntKind.i64 0),(Value.slice none 0 0),(Value.slice none 0 0),(Value.slice none 0 0),(Value.slice none 0 0)]:=by kernel_rfl
theorem ZUN:Zl prog 48=#[(Value.int IntKind.i64 0),(Value.int IntKind.i64 0),(Value.int IntKind.i64 0),(Value.slice none 0 0)]:=by kernel_rfl
theorem ZQM:prog.underlying 50=some (.slice 84):=by kernel_rfl
theorem ZRB:TE prog 50 84 8 64:=⟨ZQM,⟨Go.Proofs.Tryz.t84,(match Go.Proofs.Tryz.t84.zero with | some z=>z | none=>undef),by kernel_rfl,by kernel_rfl,by kernel_rfl,by kernel_rfl,by kernel_rfl⟩,by decide⟩
theorem ZVn:prog.underlying 58=some (.slice 50):=by kernel_rfl
theorem ZVu:TE prog 58 50 1 24:=⟨ZVn,⟨Go.Proofs.Tryz.t50,(match Go.Proofs.Tryz.t50.zero with | some z=>z | none=>undef),by kernel_rfl,by kernel_rfl,by kernel_rfl,by kernel_rfl,by kernel_rfl⟩,by decide⟩
theorem ZVo:prog.underlying 59=some (.slice 95):=by kernel_rfl
theorem ZVr:TE prog 59 95 1 16:=⟨ZVo,⟨Go.Proofs.Tryz.t95,(match Go.Proofs.Tryz.t95.zero with | some z=>z | none=>undef),by kernel_rfl,by kernel_rfl,by kernel_rfl,by kernel_rfl,by kernel_rfl⟩,by decide⟩
theorem ZTR:prog.underlying 76=some (.slice 81):=by kernel_rfl
theorem ZTO:TE prog 76 81 6 48:=⟨ZTR,⟨Go.Proofs.Tryz.t81,(match Go.Proofs.Tryz.t81.zero with | some z=>z | none=>undef),by kernel_rfl,by kernel_rfl,by kernel_rfl,by kernel_rfl,by kernel_rfl⟩,by decide⟩
theorem ZUR:Zl prog 79=#[(Value.int IntKind.i64 0),(Value.int IntKind.i64 0),(Value.int IntKind.i64 0)]:=by kernel_rfl
theorem ZUo:eqT prog 6 79=some 3:=by kernel_rfl
theorem ZUs:Zb7 prog 79=true:=by kernel_rfl
theorem ZUD:prog.eqGuardType prog.depth 79=false:=by kernel_rfl
theorem ZTr:Zl prog 81=#[(Value.int IntKind.i64 0),(Value.int IntKind.i64 0),(Value.int IntKind.i64 0),(Value.int IntKind.i64 0),(Value.int IntKind.i64 0),(Value.int IntKind.i64 0)]:=by kernel_rfl
theorem ZTH:Zl prog 84=#[(Value.int IntKind.i64 0),(Value.int IntKind.i64 0),(Value.int IntKind.i64 0),(Value.int IntKind.i64 0),(Value.int IntKind.i64 0),(Value.int IntKind.i64 0),(Value.int IntKind.i64 0),(Value.int IntKind.i64 0)]:=by kernel_rfl
theorem ZTC:Zl prog 100=#[(Value.int IntKind.i64 0),(Value.int IntKind.i64 0),(Value.int IntKind.i64 0),(Value.int IntKind.i64 0),(Value.int IntKind.i64 0),(Value.int IntKind.i64 0),(Value.int IntKind.i64 0)]:=by kernel_rfl
theorem ZVh:eqT prog 6 100=some 7:=by kernel_rfl
theorem ZVb:Zb7 prog 100=true:=by kernel_rfl
theorem ZVk:prog.eqGuardType prog.depth 100=false:=by kernel_rfl
theorem ZTL:Zl prog 102=#[(Value.int IntKind.i64 0),(Value.int IntKind.i64 0),(Value.int IntKind.i64 0)]:=by kernel_rfl
theorem ZVd:eqT prog 6 102=some 3:=by kernel_rfl
theorem ZNf:prog.underlying 134=some (.map 3 3):=by kernel_rfl
theorem ZTy:Zx6 prog 134 3 3 (Value.int IntKind.i64 0):=⟨ZNf,⟨Go.Proofs.Tryz.t3,by kernel_rfl,by kernel_rfl⟩⟩
theorem ZTz:ZvT prog 3 (λn:Int=>.int .i64 n):=Zwe (by kernel_rfl)
theorem ZU8:Zl prog 138=#[(Value.int IntKind.i64 0),(Value.int IntKind.i64 0)]:=by kernel_rfl
theorem ZUZ:Zl prog 142=#[(Value.int IntKind.i64 0),(Value.int IntKind.i64 0),(Value.int IntKind.i64 0),(Value.int IntKind.i64 0),(Value.int IntKind.i64 0),(Value.int IntKind.i64 0),(Value.int IntKind.i64 0),(Value.int IntKind.i64 0),(Value.int IntKind.i64 0),(Value.int IntKind.i64 0),(Value.int IntKind.i64 0),(Value.int IntKind.i64 0),(Value.int IntKind.i64 0),(Value.int IntKind.i64 0),(Value.int IntKind.i64 0),(Value.int IntKind.i64 0),(Value.int IntKind.i64 0),(Value.int IntKind.i64 0),(Value.int IntKind.i64 0),(Value.int IntKind.i64 0),(Value.int IntKind.i64 0),(Value.int IntKind.i64 0),(Value.int IntKind.i64 0)]:=by kernel_rfl
theorem ZU6:Zl prog 174=#[(Value.map none),(Value.int IntKind.i64 0)]:=by kernel_rfl
theorem ZVf:prog.underlying 175=some (.map 79 3):=by kernel_rfl
theorem ZTF:Zx6 prog 175 79 3 (Value.int IntKind.i64 0):=⟨ZVf,⟨Go.Proofs.Tryz.t3,by kernel_rfl,by kernel_rfl⟩⟩
theorem ZU1:Zl prog 177=#[(Value.int IntKind.i64 0),(Value.slice none 0 0),(Value.map none)]:=by kernel_rfl
theorem ZUC:prog.underlying 183=some (.slice 203):=by kernel_rfl
theorem ZUV:TE prog 183 203 10 96:=⟨ZUC,⟨Go.Proofs.Tryz.t203,(match Go.Proofs.Tryz.t203.zero with | some z=>z | none=>undef),by kernel_rfl,by kernel_rfl,by kernel_rfl,by kernel_rfl,by kernel_rfl⟩,by decide⟩
theorem ZUM:prog.underlying 186=some (.slice 223):=by kernel_rfl
theorem ZUS:TE prog 186 223 9 72:=⟨ZUM,⟨Go.Proofs.Tryz.t223,(match Go.Proofs.Tryz.t223.zero with | some z=>z | none=>undef),by kernel_rfl,by kernel_rfl,by kernel_rfl,by kernel_rfl,by kernel_rfl⟩,by decide⟩
theorem ZUX:Zl prog 188=#[(Value.int IntKind.i64 0),(Value.slice none 0 0)]:=by kernel_rfl
theorem ZTG:Zl prog 203=#[(Value.int IntKind.i64 0),(Value.int IntKind.i64 0),(Value.int IntKind.i64 0),(Value.int IntKind.i64 0),(Value.int IntKind.i64 0),(Value.int IntKind.i64 0),(Value.int IntKind.i64 0),(Value.int IntKind.i64 0),(Value.int IntKind.i64 0),(Value.slice none 0 0)]:=by kernel_rfl
theorem ZVg:prog.underlying 207=some (.map 209 4):=by kernel_rfl
theorem ZUm:Zx6 prog 207 209 4 (Value.bool false):=⟨ZVg,⟨Go.Proofs.Tryz.t4,by kernel_rfl,by kernel_rfl⟩⟩
theorem ZU4:Zl prog 209=#[(Value.int IntKind.i64 0),(Value.int IntKind.i64 0)]:=by kernel_rfl
theorem ZVc:eqT prog 6 209=some 2:=by kernel_rfl
theorem ZVj:Zb7 prog 209=true:=by kernel_rfl
theorem ZT3:Zl prog 223=#[(Value.int IntKind.i64 0),(Value.int IntKind.i64 0),(Value.int IntKind.i64 0),(Value.int IntKind.i64 0),(Value.int IntKind.i64 0),(Value.int IntKind.i64 0),(Value.int IntKind.i64 0),(Value.int IntKind.i64 0),(Value.int IntKind.i64 0)]:=by kernel_rfl
theorem ZT1:Zl prog 286=#[(Value.pointer none)]:=by kernel_rfl
theorem ZVl:prog.underlying 316=some (.slice 79):=by kernel_rfl
theorem ZVq:TE prog 316 79 3 24:=⟨ZVl,⟨Go.Proofs.Tryz.t79,(match Go.Proofs.Tryz.t79.zero with | some z=>z | none=>undef),by kernel_rfl,by kernel_rfl,by kernel_rfl,by kernel_rfl,by kernel_rfl⟩,by decide⟩
variable {t0 t1 t2 t3 t4 t5 t6 t7 t8 t9 t10 t11 t12 t13 t14 t15 t16 t17 t18 t19 t20 t21 t22 t23 t24 t25 t26 t27 t28 t29:Value} {w:World} {K:KV}
def ZTw (t0 t1 t2:Value) (w:World) (K:KV):Prop:=
 al (Value.cells t0) 25 w λt3 w=>
 ldN 3 t3 w λt13 w=>
 Cl prog 4 #[t13] w λt14 w=>
 Zb3 t14 w λt15 w=>
 gd t15 false (λk=>k t2 w) w λt17 w=>
 gd t15 false (λk=>lnS t17 w k) w λt18 w=>
 gd t15 false (λk=>bi .gtr .i64 t18 (Iw 300) w k) w λt19 w=>
 pk t15 (Value.bool true) t19 w λt20 w=>
 Zr t20
 (Cl prog 5 #[] w λt21 w=>
 K t21 w)
 (ldN 3 t3 w λt23 w=>
 cvI .i64 t1 w λt25 w=>
 bi .rem .i64 t25 (Iw 16) w λt26 w=>
 bi .add .i64 (Iw 1) t26 w λt27 w=>
 Cl prog 6 #[t23,t27] w λt28 w=>
 xt 0 t28 w λt29 w=>
 xt 1 t28 w λt30 w=>
 ldN 3 t3 w λt32 w=>
 Cl prog 7 #[t32] w λt33 w=>
 xt 0 t33 w λt34 w=>
 xt 1 t33 w λt35 w=>
 Cl prog 5 #[] w λt36 w=>
 Zb3 t36 w λt37 w=>
 gd t37 false (λk=>k t30 w) w λt39 w=>
 gd t37 false (λk=>bi .eql .i64 t39 (Iw 0) w k) w λt40 w=>
 gd t37 false (λk=>k t29 w) w λt41 w=>
 gd t37 false (λk=>bn .neq t41 w k) w λt42 w=>
 gd t37 false (λk=>bb .neq t40 t42 w k) w λt43 w=>
 pk t37 (Value.bool true) t43 w λt44 w=>
 Zr t44
 (K (Value.bool false) w)
 (bi .neq .i64 t30 (Iw 0) w λt46 w=>
 gd t46 false (λk=>k t35 w) w λt48 w=>
 gd t46 false (λk=>Zb3 t48 w k) w λt49 w=>
 pk t46 (Value.bool true) t49 w λt50 w=>
 Zr t50
 (bi .eql .i64 t30 (Iw 0) w λt52 w=>
 gd t52 false (λk=>k t34 w) w λt54 w=>
 gd t52 false (λk=>bn .eql t54 w k) w λt55 w=>
 pk t52 (Value.bool true) t55 w λt56 w=>
 K t56 w)
 (lp [(Iw 0)] w (b1 λt11 w g1=>
 lnS t2 w λt59 w=>
 bi .lss .i64 t11 t59 w λt60 w=>
 Zr t60
 (J0 (λw=>
 bi .add .i64 t11 (Iw 1) w λt62 w=>
 g1 [t62] w) λk2=>
 ixS 3 t2 t11 w λt66 w=>
 ldN 3 t66 w λt67 w=>
 Cl prog 8 #[t29,t67] w λ_ w=>
 bi .rem .i64 t11 (Iw 8) w λt70 w=>
 bi .eql .i64 t70 (Iw 7) w λt71 w=>
 gd t71 false (λk=>k t11 w) w λt73 w=>
 gd t71 false (λk=>bi .add .i64 t73 (Iw 1) w k) w λt74 w=>
 gd t71 false (λk=>k t2 w) w λt75 w=>
 gd t71 false (λk=>lnS t75 w k) w λt76 w=>
 gd t71 false (λk=>bi .eql .i64 t74 t76 w k) w λt77 w=>
 pk t71 (Value.bool true) t77 w λt78 w=>
 Zr t78
 (lp [(Iw 0)] w (b1 λt12 w g3=>
 fld 1 t3 w λt80 w=>
 ld1 t80 w λt81 w=>
 lnS t81 w λt82 w=>
 bi .lss .i64 t12 t82 w λt83 w=>
 Zr t83
 (Cl prog 10 #[t29,t12] w λt88 w=>
 Cl prog 11 #[t34,t12] w λt91 w=>
 Cl prog 9 #[t88,t91] w λt92 w=>
 Zb3 t92 w λt93 w=>
 Zr t93
 (K (Value.bool false) w)
 (bi .add .i64 t12 (Iw 1) w λt85 w=>
 g3 [t85] w))
 (k2 w)))
 (k2 w))
 (K (Value.bool true) w)))))
theorem ZTx (h:ZTw t0 t1 t2 w K):Cl prog 3 #[t0,t1,t2] w K:=
 ZML 94 [6] Tryz.func3 h
def ZJJ (t0:Value) (w:World) (K:KV):Prop:=
 al (Value.cells t0) 25 w λt1 w=>
 fld 0 t1 w λt6 w=>
 ld1 t6 w λt7 w=>
 lnS t7 w λt8 w=>
 bi .gtr .i64 t8 (Iw 50) w λt9 w=>
 gd t9 false (λk=>fld 1 t1 w k) w λt11 w=>
 gd t9 false (λk=>ld1 t11 w k) w λt12 w=>
 gd t9 false (λk=>lnS t12 w k) w λt13 w=>
 gd t9 false (λk=>bi .gtr .i64 t13 (Iw 20) w k) w λt14 w=>
 pk t9 (Value.bool true) t14 w λt15 w=>
 Zr t15
 (K (Value.bool false) w)
 (lp [(Iw 0)] w (b1 λt3 w g1=>
 fld 1 t1 w λt17 w=>
 ld1 t17 w λt18 w=>
 lnS t18 w λt19 w=>
 bi .lss .i64 t3 t19 w λt20 w=>
 Zr t20
 (fld 1 t1 w λt23 w=>
 ld1 t23 w λt24 w=>
 ixS 7 t24 t3 w λt26 w=>
 ldN 7 t26 w λt27 w=>
 al (Zl prog 46) 46 w λt4 w=>
 stN 7 t4 t27 w λ_ w=>
 fld 3 t4 w λt28 w=>
 ld1 t28 w λt29 w=>
 lnS t29 w λt30 w=>
 bi .gtr .i64 t30 (Iw 60) w λt31 w=>
 gd t31 false (λk=>fld 4 t4 w k) w λt33 w=>
 gd t31 false (λk=>ld1 t33 w k) w λt34 w=>
 gd t31 false (λk=>lnS t34 w k) w λt35 w=>
 gd t31 false (λk=>bi .gtr .i64 t35 (Iw 50) w k) w λt36 w=>
 pk t31 (Value.bool true) t36 w λt37 w=>
 gd t37 false (λk=>fld 5 t4 w k) w λt39 w=>
 gd t37 false (λk=>ld1 t39 w k) w λt40 w=>
 gd t37 false (λk=>lnS t40 w k) w λt41 w=>
 gd t37 false (λk=>bi .gtr .i64 t41 (Iw 50) w k) w λt42 w=>
 pk t37 (Value.bool true) t42 w λt43 w=>
 gd t43 false (λk=>fld 6 t4 w k) w λt45 w=>
 gd t43 false (λk=>ld1 t45 w k) w λt46 w=>
 gd t43 false (λk=>lnS t46 w k) w λt47 w=>
 gd t43 false (λk=>bi .gtr .i64 t47 (Iw 20) w k) w λt48 w=>
 pk t43 (Value.bool true) t48 w λt49 w=>
 Zr t49
 (K (Value.bool false) w)
 (lp [(Iw 0)] w (b1 λt5 w g2=>
 fld 3 t4 w λt51 w=>
 ld1 t51 w λt52 w=>
 lnS t52 w λt53 w=>
 bi .lss .i64 t5 t53 w λt54 w=>
 Zr t54
 (fld 3 t4 w λt57 w=>
 ld1 t57 w λt58 w=>
 ixS 4 t58 t5 w λt60 w=>
 fld 3 t60 w λt61 w=>
 ld1 t61 w λt62 w=>
 lnS t62 w λt63 w=>
 bi .gtr .i64 t63 (Iw 20) w λt64 w=>
 Zr t64
 (K (Value.bool false) w)
 (bi .add .i64 t5 (Iw 1) w λt56 w=>
 g2 [t56] w))
 (bi .add .i64 t3 (Iw 1) w λt22 w=>
 g1 [t22] w))))
 (K (Value.bool true) w)))
theorem ZJ1 (h:ZJJ t0 w K):Cl prog 4 #[t0] w K:=
 ZML 65 [2] Tryz.func4 h
def ZcY (w:World) (K:KV):Prop:=
 Cl prog 12 #[(Iw 0),(Iw 1)] w λt5 w=>
 Cl prog 6 #[t5,(Iw 8)] w λt6 w=>
 xt 0 t6 w λt7 w=>
 xt 1 t6 w λt8 w=>
 bi .neq .i64 t8 (Iw 0) w λt10 w=>
 gd t10 false (λk=>k t7 w) w λt12 w=>
 gd t10 false (λk=>bn .eql t12 w k) w λt13 w=>
 pk t10 (Value.bool true) t13 w λt14 w=>
 gd t14 false (λk=>k t7 w) w λt16 w=>
 gd t14 false (λk=>Cl prog 13 #[t16,(Iw 0)] w k) w λt17 w=>
 gd t14 false (λk=>lnS t17 w k) w λt18 w=>
 gd t14 false (λk=>bi .neq .i64 t18 (Iw 1) w k) w λt19 w=>
 pk t14 (Value.bool true) t19 w λt20 w=>
 gd t20 false (λk=>k t7 w) w λt22 w=>
 gd t20 false (λk=>Cl prog 14 #[t22] w k) w λt23 w=>
 pk t20 (Value.bool true) t23 w λt24 w=>
 Zr t24
 (K (Value.bool false) w)
 (lp [(Iw 0)] w (b1 λt3 w g1=>
 bi .lss .i64 t3 (Iw 30) w λt26 w=>
 Zr t26
 (Cl prog 15 #[t7,(Iw 2)] w λ_ w=>
 bi .add .i64 t3 (Iw 1) w λt28 w=>
 g1 [t28] w)
 (Cl prog 14 #[t7] w λt32 w=>
 gd t32 true (λk=>k t7 w) w λt34 w=>
 gd t32 true (λk=>Cl prog 10 #[t34,(Iw 0)] w k) w λt35 w=>
 gd t32 true (λk=>lnS t35 w k) w λt36 w=>
 gd t32 true (λk=>bi .gtr .i64 t36 (Iw 2) w k) w λt37 w=>
 pk t32 t37 (Value.bool false) w λt38 w=>
 gd t38 true (λk=>k t7 w) w λt40 w=>
 gd t38 true (λk=>Cl prog 10 #[t40,(Iw 1)] w k) w λt41 w=>
 gd t38 true (λk=>lnS t41 w k) w λt42 w=>
 gd t38 true (λk=>bi .gtr .i64 t42 (Iw 2) w k) w λt43 w=>
 pk t38 t43 (Value.bool false) w λt44 w=>
 K t44 w)))
theorem ZdB (h:ZcY w K):Cl prog 5 #[] w K:=
 ZML 45 [0] Tryz.func5 h
def ZvL (t0 t1:Value) (w:World) (K:KV):Prop:=
 al (Value.cells t0) 25 w λt2 w=>
 ldN 3 t2 w λt21 w=>
 Cl prog 16 #[t21] w λt22 w=>
 xt 0 t22 w λ_ w=>
 xt 1 t22 w λt24 w=>
 bi .neq .i64 t24 (Iw 0) w λt26 w=>
 Zr t26
 (K (Value.tuple #[(Value.pointer none),t24]) w)
 (fld 1 t2 w λt29 w=>
 ld1 t29 w λt30 w=>
 lnS t30 w λt31 w=>
 Cl prog 17 #[t31,t1] w λt33 w=>
 xt 0 t33 w λt34 w=>
 xt 1 t33 w λt35 w=>
 bi .neq .i64 t35 (Iw 0) w λt37 w=>
 Zr t37
 (K (Value.tuple #[(Value.pointer none),t35]) w)
 (dr w λw=>
 fld 2 t2 w λt39 _=>
 ld1 t39 w λt40 _=>
 fld 1 t2 w λt42 _=>
 ld1 t42 w λt43 _=>
 lnS t43 w λt44 _=>
 mkS prog 58 t44 t44 w λt45 w=>
 (ld1 t39 w (λv' w''=>v'=t40∧w''=w))∧(bld (Zl prog 62) #[(0,1),(1,1),(2,1),(3,1),(4,1)] [(0,t40),(3,t34),(2,t45)] w λt46 w=>
 al (Value.cells t46) 62 w λt47 w=>
 fld 1 t2 w λt48 w=>
 ld1 t48 w λt49 w=>
 lnS t49 w λt50 w=>
 lp [(Iw 0),(Iw 0)] w (b2 λt11 t51 w g1=>
 bi .lss .i64 t51 t50 w λt52 w=>
 Zr t52
 (J1 (λt11_1 w=>
 bi .add .i64 t51 (Iw 1) w λt99 w=>
 g1 [t11_1,t99] w) λk2=>
 ixS 7 t49 t51 w λt54 w=>
 ldN 7 t54 w λt55 w=>
 al (Zl prog 46) 46 w λt13 w=>
 stN 7 t13 t55 w λ_ w=>
 fld 0 t13 w λt56 w=>
 ld1 t56 w λt57 w=>
 bi .eql .i64 t57 (Iw 0) w λt58 w=>
 Zr t58
 (ldN 3 t2 w λt60 w=>
 Cl prog 18 #[t60,t51] w λt62 w=>
 xt 0 t62 w λt63 w=>
 xt 1 t62 w λ_ w=>
 ncP t47<|
 fld 1 t47 w λt68 w=>
 ld1 t68 w λt69 w=>
 bld (Zl prog 67) #[(0,1)] [(0,t63)] w λt71 w=>
 bsl 95 1 1 (Zl prog 95) [(0,(Value.iface 67 t71))] w λt73 w=>
 apS prog #[59,59] 59 t69 t73 w λt74 w=>
 ncP t47<|
 fld 1 t47 w λt76 w=>
 stN 1 t76 t74 w λ_ w=>
 k2 t11 w)
 (ldN 3 t2 w λt78 w=>
 Cl prog 19 #[t78,t51] w λt80 w=>
 xt 0 t80 w λt81 w=>
 xt 1 t80 w λ_ w=>
 ncP t47<|
 fld 1 t47 w λt86 w=>
 ld1 t86 w λt87 w=>
 bld (Zl prog 73) #[(0,1),(1,1),(2,1)] [(0,t81),(1,t11)] w λt90 w=>
 al (Value.cells t90) 73 w λt91 w=>
 bsl 95 1 1 (Zl prog 95) [(0,(Value.iface 71 t91))] w λt93 w=>
 apS prog #[59,59] 59 t87 t93 w λt94 w=>
 ncP t47<|
 fld 1 t47 w λt96 w=>
 stN 1 t96 t94 w λ_ w=>
 bi .add .i64 t11 (Iw 1) w λt98 w=>
 k2 t98 w))
 (bi .gtr .i64 t11 (Iw 0) w λt101 w=>
 J0 (λw=>
 ldN 3 t2 w λt110 w=>
 Cl prog 21 #[t110] w λt111 w=>
 lnS t111 w λt112 w=>
 lp [(Iw 0)] w (b1 λt113 w g4=>
 bi .lss .i64 t113 t112 w λt114 w=>
 Zr t114
 (ixS 6 t111 t113 w λt115 w=>
 ldN 6 t115 w λt116 w=>
 al (Zl prog 81) 81 w λt19 w=>
 stN 6 t19 t116 w λ_ w=>
 fld 0 t19 w λt118 w=>
 fld 1 t118 w λt119 w=>
 ld1 t119 w λt120 w=>
 ldN 6 t19 w λt121 w=>
 bld (Zl prog 84) #[(0,1),(1,6),(7,1)] [(1,t121)] w λt122 w=>
 bsl 84 8 1 (Zl prog 84) [(0,t122)] w λt123 w=>
 Cl prog 22 #[t47,t120,t123] w λ_ w=>
 bi .add .i64 t113 (Iw 1) w λt125 w=>
 g4 [t125] w)
 (K (Value.tuple #[t47,(Iw 0)]) w))) λk3=>
 Zr t101
 (Cl prog 20 #[t11] w λt105 w=>
 xt 0 t105 w λt106 w=>
 xt 1 t105 w λ_ w=>
 ncP t47<|
 fld 4 t47 w λt109 w=>
 stN 1 t109 t106 w λ_ w=>
 k3 w)
 (k3 w))))))
theorem ZoN (h:ZvL t0 t1 w K):Cl prog 6 #[t0,t1] w K:=
 ZML 127 [4,5] Tryz.func6 h
def ZJF (t0:Value) (w:World) (K:KV):Prop:=
 al (Value.cells t0) 25 w λt1 w=>
 ldN 3 t1 w λt8 w=>
 Cl prog 23 #[t8] w λt9 w=>
 xt 0 t9 w λt10 w=>
 xt 1 t9 w λt11 w=>
 bi .neq .i64 t11 (Iw 0) w λt13 w=>
 Zr t13
 (K (Value.tuple #[(Value.pointer none),(Value.bool false)]) w)
 (Cl prog 24 #[t10,(Iw 150)] w λt15 w=>
 bi .lss .i64 t15 (Iw 150) w λt18 w=>
 K (Value.tuple #[t10,t18]) w)
theorem ZJX (h:ZJF t0 w K):Cl prog 7 #[t0] w K:=
 ZML 19 [2,3] Tryz.func7 h
def Zij (t0 t1:Value) (w:World) (K:KV):Prop:=
 al (Value.cells t1) 38 w λt3 w=>
 fld 0 t3 w λt6 w=>
 ld1 t6 w λt7 w=>
 bi .lss .i64 t7 (Iw 0) w λt8 w=>
 gd t8 false (λk=>fld 0 t3 w k) w λt10 w=>
 gd t8 false (λk=>ld1 t10 w k) w λt11 w=>
 gd t8 false (λk=>bi .gtr .i64 t11 (Iw 6) w k) w λt12 w=>
 pk t8 (Value.bool true) t12 w λt13 w=>
 gd t13 false (λk=>fld 0 t3 w k) w λt15 w=>
 gd t13 false (λk=>ld1 t15 w k) w λt16 w=>
 gd t13 false (λk=>bi .neq .i64 t16 (Iw 4) w k) w λt17 w=>
 gd t13 false (λk=>k t17 w) w λt18 w=>
 gd t18 true (λk=>k t0 w) w λt19 w=>
 gd t18 true (λk=>fld 1 t3 w k) w λt20 w=>
 gd t18 true (λk=>ld1 t20 w k) w λt21 w=>
 gd t18 true (λk=>Cl prog 25 #[t19,t21] w k) w λt22 w=>
 gd t18 true (λk=>Zb3 t22 w k) w λt23 w=>
 gd t13 false (λk=>pk t18 t23 (Value.bool false) w k) w λt24 w=>
 pk t13 (Value.bool true) t24 w λt25 w=>
 gd t25 false (λk=>fld 0 t3 w k) w λt27 w=>
 gd t25 false (λk=>ld1 t27 w k) w λt28 w=>
 gd t25 false (λk=>bi .eql .i64 t28 (Iw 2) w k) w λt29 w=>
 gd t25 false (λk=>k t29 w) w λt30 w=>
 gd t30 true (λk=>k t0 w) w λt31 w=>
 gd t30 true (λk=>fld 2 t3 w k) w λt32 w=>
 gd t30 true (λk=>ld1 t32 w k) w λt33 w=>
 gd t30 true (λk=>Cl prog 25 #[t31,t33] w k) w λt34 w=>
 gd t30 true (λk=>Zb3 t34 w k) w λt35 w=>
 gd t25 false (λk=>pk t30 t35 (Value.bool false) w k) w λt36 w=>
 pk t25 (Value.bool true) t36 w λt37 w=>
 Zr t37
 (K (Iw 1) w)
 (fld 0 t3 w λt38 w=>
 ld1 t38 w λt39 w=>
 bi .eql .i64 t39 (Iw 0) w λt41 w=>
 Zr t41
 (fld 1 t3 w λt43 w=>
 ld1 t43 w λt44 w=>
 Cl prog 26 #[t0,t44] w λt45 w=>
 K t45 w)
 (bi .eql .i64 t39 (Iw 1) w λt47 w=>
 Zr t47
 (fld 1 t3 w λt49 w=>
 ld1 t49 w λt50 w=>
 Cl prog 27 #[t0,t50] w λt51 w=>
 K t51 w)
 (bi .eql .i64 t39 (Iw 2) w λt53 w=>
 Zr t53
 (fld 1 t3 w λt55 w=>
 ld1 t55 w λt56 w=>
 fld 2 t3 w λt57 w=>
 ld1 t57 w λt58 w=>
 Cl prog 28 #[t0,t56,t58] w λt59 w=>
 K t59 w)
 (bi .eql .i64 t39 (Iw 3) w λt61 w=>
 Zr t61
 (fld 1 t3 w λt63 w=>
 ld1 t63 w λt64 w=>
 Cl prog 29 #[t0,t64] w λt65 w=>
 K t65 w)
 (bi .eql .i64 t39 (Iw 4) w λt67 w=>
 Zr t67
 (ncP t0<|
 fld 4 t0 w λt70 w=>
 ld1 t70 w λt71 w=>
 bn .eql t71 w λt72 w=>
 Zr t72
 (K (Iw 150) w)
 (ncP t0<|
 fld 4 t0 w λt75 w=>
 ld1 t75 w λt76 w=>
 Cl prog 30 #[t76] w λt77 w=>
 K t77 w))
 (fld 1 t3 w λt79 w=>
 ld1 t79 w λt80 w=>
 Cl prog 31 #[t0,t80] w λt81 w=>
 bn .eql t81 w λt84 w=>
 Zr t84
 (K (Iw 1) w)
 (fld 0 t3 w λt86 w=>
 ld1 t86 w λt87 w=>
 bi .eql .i64 t87 (Iw 5) w λt88 w=>
 Zr t88
 (dr w λw=>
 ncP t0<|
 fld 4 t0 w λt91 _=>
 ld1 t91 w λt92 _=>
 ncP t81<|
 fld 1 t81 w λt95 _=>
 ld1 t95 w λt96 _=>
 Cl prog 32 #[t92,t96] w λt97 w=>
 K t97 w)
 (fld 1 t3 w λt99 w=>
 ld1 t99 w λt100 w=>
 Cl prog 33 #[t0,t100,t81] w λt102 w=>
 K t102 w))))))))
theorem ZhK (h:Zij t0 t1 w K):Cl prog 8 #[t0,t1] w K:=
 ZML 103 [4] Tryz.func8 h
def ZNv (t0 t1:Value) (w:World) (K:KV):Prop:=
 lnS t0 w λt6 w=>
 lnS t1 w λt8 w=>
 bi .leq .i64 t6 t8 w λt9 w=>
 gd t9 true (λk=>k t0 w) w λt11 w=>
 gd t9 true (λk=>k t1 w) w λt12 w=>
 gd t9 true (λk=>k t0 w) w λt13 w=>
 gd t9 true (λk=>lnS t13 w k) w λt14 w=>
 gd t9 true (λk=>slc 7 t12 none (some t14) w k) w λt15 w=>
 gd t9 true (λk=>Cl prog 34 #[t11,t15] w k) w λt16 w=>
 pk t9 t16 (Value.bool false) w λt17 w=>
 K t17 w
theorem ZNx (h:ZNv t0 t1 w K):Cl prog 9 #[t0,t1] w K:=
 ZML 18 [4] Tryz.func9 h
def Zhc (t0 t1:Value) (w:World) (K:KV):Prop:=
 Cl prog 25 #[t0,t1] w λt7 w=>
 Zb3 t7 w λt8 w=>
 Zr t8
 (K (Value.slice none 0 0) w)
 (ncP t0<|
 fld 1 t0 w λt11 w=>
 ld1 t11 w λt12 w=>
 ixS 1 t12 t1 w λt14 w=>
 ld1 t14 w λt15 w=>
 clI prog t15 "Log" #[] w λt16 w=>
 K t16 w)
theorem Zgr (h:Zhc t0 t1 w K):Cl prog 10 #[t0,t1] w K:=
 ZML 17 [4] Tryz.func10 h
def ZJv (t0 t1:Value) (w:World) (K:KV):Prop:=
 bsl 100 7 0 #[] [] w λt7 w=>
 lp [t7,(Iw 0)] w (b2 λt5 t6 w g1=>
 ncP t0<|
 fld 6 t0 w λt11 w=>
 ld1 t11 w λt12 w=>
 lnS t12 w λt13 w=>
 bi .lss .i64 t6 t13 w λt14 w=>
 Zr t14
 (J1 (λt5_1 w=>
 bi .add .i64 t6 (Iw 1) w λt16 w=>
 g1 [t5_1,t16] w) λk2=>
 ncP t0<|
 fld 6 t0 w λt19 w=>
 ld1 t19 w λt20 w=>
 ixS 7 t20 t6 w λt22 w=>
 fld 0 t22 w λt23 w=>
 fld 3 t23 w λt24 w=>
 ld1 t24 w λt25 w=>
 bi .eql .i64 t25 t1 w λt27 w=>
 Zr t27
 (ncP t0<|
 fld 6 t0 w λt31 w=>
 ld1 t31 w λt32 w=>
 ixS 7 t32 t6 w λt34 w=>
 ldN 7 t34 w λt35 w=>
 bsl 100 7 1 (Zl prog 100) [(0,t35)] w λt36 w=>
 apS prog #[40,40] 40 t5 t36 w λt37 w=>
 k2 t37 w)
 (k2 t5 w))
 (K t5 w))
theorem ZJM (h:ZJv t0 t1 w K):Cl prog 11 #[t0,t1] w K:=
 ZML 39 [4] Tryz.func11 h
def ZdY (t0 t1:Value) (w:World) (K:KV):Prop:=
 al (Zl prog 25) 25 w λt4 w=>
 bld (Zl prog 102) #[(0,1),(1,1),(2,1)] [(0,(Iw 0)),(1,(Iw 2)),(2,(Iw 1))] w λt6 w=>
 bsl 102 3 1 (Zl prog 102) [(0,t6)] w λt7 w=>
 bld (Zl prog 48) #[(0,1),(1,1),(2,1),(3,1)] [(0,(Iw 0)),(1,(Iw 0)),(2,(Iw 1)),(3,t7)] w λt8 w=>
 bld (Zl prog 102) #[(0,1),(1,1),(2,1)] [(0,(Iw 0)),(1,(Iw 3)),(2,(Iw 1))] w λt9 w=>
 bsl 102 3 1 (Zl prog 102) [(0,t9)] w λt10 w=>
 bld (Zl prog 48) #[(0,1),(1,1),(2,1),(3,1)] [(0,(Iw 1)),(1,(Iw 0)),(2,(Iw 0)),(3,t10)] w λt11 w=>
 bsl 48 4 2 (Zl prog 48) [(0,t8),(1,t11)] w λt12 w=>
 bsl 3 1 1 (Zl prog 3) [(0,(Iw (-1)))] w λt13 w=>
 bsl 3 1 1 (Zl prog 3) [(0,(Iw 0))] w λt16 w=>
 bsl 3 1 1 (Zl prog 3) [(0,(Iw 0))] w λt17 w=>
 bld (Zl prog 102) #[(0,1),(1,1),(2,1)] [(1,(Iw 3))] w λt18 w=>
 bsl 102 3 1 (Zl prog 102) [(0,t18)] w λt19 w=>
 bld (Zl prog 46) #[(0,1),(1,1),(2,1),(3,1),(4,1),(5,1),(6,1)] [(0,t0),(1,(Iw 2)),(3,t12),(4,t16),(5,t17),(6,t19)] w λt20 w=>
 bsl 3 1 1 (Zl prog 3) [(0,(Iw 0))] w λt23 w=>
 bsl 3 1 1 (Zl prog 3) [(0,(Iw 0))] w λt24 w=>
 bld (Zl prog 46) #[(0,1),(1,1),(2,1),(3,1),(4,1),(5,1),(6,1)] [(0,t1),(1,(Iw 2)),(3,t12),(4,t23),(5,t24)] w λt25 w=>
 bsl 46 7 2 (Zl prog 46) [(0,t20),(1,t25)] w λt26 w=>
 bld (Zl prog 25) #[(0,1),(1,1),(2,1)] [(0,t13),(2,(Iw 20)),(1,t26)] w λt27 w=>
 stN 3 t4 t27 w λ_ w=>
 ldN 3 t4 w λr0 _=>
 K r0 w
theorem Zed (h:ZdY t0 t1 w K):Cl prog 12 #[t0,t1] w K:=
 ZMM 28 [(4,some 25)] Tryz.func12 h
def Zg4 (t0 t1:Value) (w:World) (K:KV):Prop:=
 Cl prog 25 #[t0,t1] w λt7 w=>
 Zb3 t7 w λt8 w=>
 Zr t8
 (K (Value.slice none 0 0) w)
 (ncP t0<|
 fld 2 t0 w λt11 w=>
 ld1 t11 w λt12 w=>
 ixS 1 t12 t1 w λt14 w=>
 ld1 t14 w λt15 w=>
 Cl prog 35 #[t15] w λt16 w=>
 K t16 w)
theorem ZgI (h:Zg4 t0 t1 w K):Cl prog 13 #[t0,t1] w K:=
 ZML 17 [4] Tryz.func13 h
def ZeG (t0:Value) (w:World) (K:KV):Prop:=
 dr w λw=>
 ncP t0<|
 fld 3 t0 w λt9 _=>
 ld1 t9 w λt10 _=>
 ncP t0<|
 fld 3 t0 w λt14 _=>
 ld1 t14 w λt15 _=>
 Cl prog 36 #[t10,(Iw 0)] w λt11 w=>
 (ld1 t14 w (λv' w''=>v'=t15∧w''=w))∧(Cl prog 36 #[t15,(Iw 1)] w λt16 w=>
 bi .add .i64 t11 t16 w λt17 _=>
 bi .gtr .i64 t17 (Iw 0) w λt18 _=>
 Zr t18
 (K (Value.bool false) w)
 (ncP t0<|
 fld 1 t0 w λt21 w=>
 ld1 t21 w λt22 w=>
 lnS t22 w λt23 w=>
 lp [(Iw 0)] w (b1 λt24 w g1=>
 bi .lss .i64 t24 t23 w λt25 w=>
 Zr t25
 (ixS 1 t22 t24 w λt27 w=>
 ld1 t27 w λt28 w=>
 ncP t0<|
 fld 2 t0 w λt31 w=>
 ld1 t31 w λt32 w=>
 ixS 1 t32 t24 w λt34 w=>
 ld1 t34 w λt35 w=>
 Cl prog 37 #[t35,(Value.func (.func 38) #[] #[])] w λt36 w=>
 Zr t36
 (K (Value.bool false) w)
 (clI prog t28 "Waiting" #[] w λt38 w=>
 dr w λw=>
 lnS t38 w λt40 _=>
 bi .gtr .i64 t40 (Iw 0) w λt41 _=>
 gd t41 true (λk=>k t38 w) w λt43 _=>
 gd t41 true (λk=>ixS 6 t43 (Iw 0) w k) w λt44 _=>
 gd t41 true (λk=>fld 0 t44 w k) w λt45 _=>
 gd t41 true (λk=>fld 0 t45 w k) w λt46 _=>
 gd t41 true (λk=>ld1 t46 w k) w λt47 _=>
 gd t41 true (λk=>k t0 w) w λt48 _=>
 gd t41 true (λk=>nc t48 w k) w λt49 _=>
 gd t41 true (λk=>fld 0 t49 w k) w λt50 _=>
 gd t41 true (λk=>ld1 t50 w k) w λt51 _=>
 gd t41 true (λk=>bi .lss .i64 t47 t51 w k) w λt52 _=>
 pk t41 t52 (Value.bool false) w λt53 _=>
 Zr t53
 (K (Value.bool false) w)
 (Cl prog 31 #[t0,t24] w λt56 w=>
 bn .neq t56 w λt58 w=>
 gd t58 true (λk=>k t56 w) w λt60 w=>
 gd t58 true (λk=>nc t60 w k) w λt61 w=>
 gd t58 true (λk=>fld 0 t61 w k) w λt62 w=>
 gd t58 true (λk=>ld1 t62 w k) w λt63 w=>
 gd t58 true (λk=>Cl prog 39 #[t63] w k) w λt64 w=>
 gd t58 true (λk=>bi .gtr .i64 t64 (Iw 0) w k) w λt65 w=>
 pk t58 t65 (Value.bool false) w λt66 w=>
 Zr t66
 (K (Value.bool false) w)
 (bi .add .i64 t24 (Iw 1) w λt67 w=>
 g1 [t67] w))))
 (K (Value.bool true) w))))
theorem ZeO (h:ZeG t0 w K):Cl prog 14 #[t0] w K:=
 ZML 68 [2] Tryz.func14 h
def Zc2 (t0 t1:Value) (w:World) (K:KV):Prop:=
 lp [(Value.bool true),(Iw 0)] w (b2 λt5 t6 w g1=>
 bi .lss .i64 t6 t1 w λt17 w=>
 Zr t17
 (lp [(Iw 0)] w (b1 λt7 w g2=>
 bi .lss .i64 t7 (Iw 24) w λt21 w=>
 Zr t21
 (bld (Zl prog 38) #[(0,1),(1,1),(2,1)] [(0,(Iw 1)),(1,t6)] w λt26 w=>
 Cl prog 8 #[t0,t26] w λ_ w=>
 bi .add .i64 t7 (Iw 1) w λt23 w=>
 g2 [t23] w)
 (lp [t5,(Iw 0)] w (b2 λt5_1 t8 w g3=>
 bi .lss .i64 t8 t1 w λt30 w=>
 Zr t30
 (lp [t5_1,(Iw 0)] w (b2 λt5_2 t9 w g4=>
 bi .lss .i64 t9 (Iw 8) w λt34 w=>
 Zr t34
 (gd t5_2 true (λk=>k t0 w) w λt39 w=>
 gd t5_2 true (λk=>k t6 w) w λt40 w=>
 gd t5_2 true (λk=>k t8 w) w λt41 w=>
 gd t5_2 true (λk=>bld (Zl prog 38) #[(0,1),(1,1),(2,1)] [(0,(Iw 2)),(1,t40),(2,t41)] w k) w λt42 w=>
 gd t5_2 true (λk=>Cl prog 8 #[t39,t42] w k) w λt43 w=>
 gd t5_2 true (λk=>bi .neq .i64 t43 (Iw 2) w k) w λt44 w=>
 pk t5_2 t44 (Value.bool false) w λt45 w=>
 bi .add .i64 t9 (Iw 1) w λt36 w=>
 g4 [t45,t36] w)
 (bi .add .i64 t8 (Iw 1) w λt32 w=>
 g3 [t5_2,t32] w)))
 (bi .add .i64 t6 (Iw 1) w λt19 w=>
 g1 [t5_1,t19] w)))))
 (lp [t5,(Iw 0)] w (b2 λt5_3 t10 w g5=>
 bi .lss .i64 t10 t1 w λt48 w=>
 Zr t48
 (Cl prog 13 #[t0,t10] w λt53 w=>
 lnS t53 w λt54 w=>
 bi .eql .i64 t54 (Iw 0) w λt55 w=>
 bld (Zl prog 38) #[(0,1),(1,1),(2,1)] [(0,(Iw 0)),(1,t10)] w λt58 w=>
 Cl prog 8 #[t0,t58] w λt59 w=>
 gd t5_3 true (λk=>k t59 w) w λt62 w=>
 gd t5_3 true (λk=>bi .neq .i64 t62 (Iw 2) w k) w λt63 w=>
 gd t5_3 true (λk=>k t63 w) w λt64 w=>
 gd t64 false (λk=>k t55 w) w λt65 w=>
 gd t64 false (λk=>Zb3 t65 w k) w λt66 w=>
 gd t5_3 true (λk=>pk t64 (Value.bool true) t66 w k) w λt67 w=>
 pk t5_3 t67 (Value.bool false) w λt68 w=>
 bld (Zl prog 38) #[(0,1),(1,1),(2,1)] [(0,(Iw 3)),(1,t10)] w λt71 w=>
 Cl prog 8 #[t0,t71] w λ_ w=>
 bi .add .i64 t10 (Iw 1) w λt50 w=>
 g5 [t68,t50] w)
 (bld (Zl prog 38) #[(0,1),(1,1),(2,1)] [(0,(Iw 4))] w λt74 w=>
 Cl prog 8 #[t0,t74] w λ_ w=>
 lp [(Iw 0)] w (b1 λt13 w g6=>
 bi .lss .i64 t13 t1 w λt78 w=>
 Zr t78
 (bld (Zl prog 38) #[(0,1),(1,1),(2,1)] [(0,(Iw 5)),(1,t13)] w λt83 w=>
 Cl prog 8 #[t0,t83] w λ_ w=>
 bi .add .i64 t13 (Iw 1) w λt80 w=>
 g6 [t80] w)
 (lp [(Iw 0)] w (b1 λt14 w g7=>
 bi .lss .i64 t14 t1 w λt87 w=>
 Zr t87
 (bld (Zl prog 38) #[(0,1),(1,1),(2,1)] [(0,(Iw 6)),(1,t14)] w λt92 w=>
 Cl prog 8 #[t0,t92] w λ_ w=>
 bi .add .i64 t14 (Iw 1) w λt89 w=>
 g7 [t89] w)
 (K t5_3 w))))))))
theorem ZdG (h:Zc2 t0 t1 w K):Cl prog 15 #[t0,t1] w K:=
 ZML 95 [4] Tryz.func15 h
def Zks (t0:Value) (w:World) (K:KV):Prop:=
 al (Value.cells t0) 25 w λt1 w=>
 fld 2 t1 w λt9 w=>
 ld1 t9 w λt10 w=>
 Cl prog 44 #[t10,(Iw 0),(Iw 1099511627776)] w λt11 w=>
 gd t11 true (λk=>fld 1 t1 w k) w λt13 w=>
 gd t11 true (λk=>ld1 t13 w k) w λt14 w=>
 gd t11 true (λk=>lnS t14 w k) w λt15 w=>
 gd t11 true (λk=>Cl prog 44 #[t15,(Iw 1),(Iw 8)] w k) w λt16 w=>
 pk t11 t16 (Value.bool false) w λt17 w=>
 Cl prog 43 #[t17,(Iw 1)] w λt18 w=>
 bsl 91 1 2 (Zl prog 91) [(0,(Value.func (Fn.func 41) #[] #[t1])),(1,t18)] w λt19 w=>
 Cl prog 40 #[t19] w λt20 w=>
 bi .neq .i64 t20 (Iw 0) w λt22 w=>
 Zr t22
 (K (Value.tuple #[(Iw (-1)),t20]) w)
 (fld 1 t1 w λt24 w=>
 ld1 t24 w λt25 w=>
 lnS t25 w λt26 w=>
 lp [(Iw 0)] w (b1 λt27 w g1=>
 bi .lss .i64 t27 t26 w λt28 w=>
 Zr t28
 (ixS 7 t25 t27 w λt30 w=>
 ldN 7 t30 w λt31 w=>
 al (Zl prog 46) 46 w λt6 w=>
 stN 7 t6 t31 w λ_ w=>
 ldN 7 t6 w λt32 w=>
 fld 0 t1 w λt33 w=>
 ld1 t33 w λt34 w=>
 lnS t34 w λt35 w=>
 Cl prog 45 #[t32,t35] w λt36 w=>
 bi .neq .i64 t36 (Iw 0) w λt38 w=>
 Zr t38
 (K (Value.tuple #[t27,t36]) w)
 (bi .add .i64 t27 (Iw 1) w λt41 w=>
 g1 [t41] w))
 (K (Value.tuple #[(Iw (-1)),(Iw 0)]) w)))
theorem Ziy (h:Zks t0 w K):Cl prog 16 #[t0] w K:=
 ZML 42 [2,3] Tryz.func16 h
def Zn6 (t0 t1:Value) (w:World) (K:KV):Prop:=
 bi .lss .i64 t0 (Iw 1) w λt7 w=>
 gd t7 false (λk=>k t0 w) w λt9 w=>
 gd t7 false (λk=>bi .gtr .i64 t9 (Iw 8) w k) w λt10 w=>
 pk t7 (Value.bool true) t10 w λt11 w=>
 gd t11 false (λk=>k t1 w) w λt13 w=>
 gd t11 false (λk=>bi .lss .i64 t13 (Iw 1) w k) w λt14 w=>
 pk t11 (Value.bool true) t14 w λt15 w=>
 gd t15 false (λk=>k t1 w) w λt17 w=>
 gd t15 false (λk=>bi .gtr .i64 t17 (Iw 16) w k) w λt18 w=>
 pk t15 (Value.bool true) t18 w λt19 w=>
 Zr t19
 (K (Value.tuple #[(Value.pointer none),(Iw 1)]) w)
 (bld (Zl prog 119) #[(0,1),(1,1),(2,8320)] [(0,t0),(1,t1)] w λt22 w=>
 al (Value.cells t22) 119 w λt23 w=>
 K (Value.tuple #[t23,(Iw 0)]) w)
theorem Zhf (h:Zn6 t0 t1 w K):Cl prog 17 #[t0,t1] w K:=
 ZML 24 [4,5] Tryz.func17 h
def ZvA (t0 t1:Value) (w:World) (K:KV):Prop:=
 al (Value.cells t0) 25 w λt2 w=>
 ldN 3 t2 w λt11 w=>
 Cl prog 16 #[t11] w λt12 w=>
 xt 0 t12 w λ_ w=>
 xt 1 t12 w λt14 w=>
 bi .neq .i64 t14 (Iw 0) w λt16 w=>
 Zr t16
 (K (Value.tuple #[(Value.pointer none),t14]) w)
 (bi .lss .i64 t1 (Iw 0) w λt19 w=>
 gd t19 false (λk=>k t1 w) w λt21 w=>
 gd t19 false (λk=>fld 1 t2 w k) w λt22 w=>
 gd t19 false (λk=>ld1 t22 w k) w λt23 w=>
 gd t19 false (λk=>lnS t23 w k) w λt24 w=>
 gd t19 false (λk=>bi .geq .i64 t21 t24 w k) w λt25 w=>
 pk t19 (Value.bool true) t25 w λt26 w=>
 gd t26 false (λk=>fld 1 t2 w k) w λt28 w=>
 gd t26 false (λk=>ld1 t28 w k) w λt29 w=>
 gd t26 false (λk=>k t1 w) w λt30 w=>
 gd t26 false (λk=>ixS 7 t29 t30 w k) w λt31 w=>
 gd t26 false (λk=>fld 0 t31 w k) w λt32 w=>
 gd t26 false (λk=>ld1 t32 w k) w λt33 w=>
 gd t26 false (λk=>bi .neq .i64 t33 (Iw 0) w k) w λt34 w=>
 pk t26 (Value.bool true) t34 w λt35 w=>
 Zr t35
 (K (Value.tuple #[(Value.pointer none),(Iw 1)]) w)
 (fld 1 t2 w λt37 w=>
 ld1 t37 w λt38 w=>
 lnS t38 w λt39 w=>
 Cl prog 46 #[t39,t1] w λt41 w=>
 xt 0 t41 w λt42 w=>
 xt 1 t41 w λt43 w=>
 bi .neq .i64 t43 (Iw 0) w λt45 w=>
 Zr t45
 (K (Value.tuple #[(Value.pointer none),t43]) w)
 (dr w λw=>
 ldN 3 t2 w λt50 _=>
 fld 1 t2 w λt53 _=>
 ld1 t53 w λt54 _=>
 ixS 7 t54 t1 w λt56 _=>
 fld 2 t56 w λt57 _=>
 ld1 t57 w λt58 _=>
 fld 1 t2 w λt59 _=>
 ld1 t59 w λt60 _=>
 ixS 7 t60 t1 w λt62 _=>
 fld 6 t62 w λt63 _=>
 ld1 t63 w λt64 _=>
 lnS t64 w λt65 _=>
 Cl prog 47 #[(Iw 64)] w λt48 w=>
 (ld1 t63 w (λv' w''=>v'=t64∧w''=w))∧((ld1 t59 w (λv' w''=>v'=t60∧w''=w))∧((ld1 t57 w (λv' w''=>v'=t58∧w''=w))∧((ld1 t53 w (λv' w''=>v'=t54∧w''=w))∧((ldN 3 t2 w (λv' w''=>v'=t50∧w''=w))∧((bld (Zl prog 126) #[(0,1)] [(0,t48)] w λt49 w=>
 (ld1 t63 w (λv' w''=>v'=t64∧w''=w))∧((ld1 t59 w (λv' w''=>v'=t60∧w''=w))∧((ld1 t57 w (λv' w''=>v'=t58∧w''=w))∧((ld1 t53 w (λv' w''=>v'=t54∧w''=w))∧((ldN 3 t2 w (λv' w''=>v'=t50∧w''=w))∧(Cl prog 48 #[t50] w λt51 w=>
 (ld1 t63 w (λv' w''=>v'=t64∧w''=w))∧((ld1 t59 w (λv' w''=>v'=t60∧w''=w))∧((ld1 t57 w (λv' w''=>v'=t58∧w''=w))∧((ld1 t53 w (λv' w''=>v'=t54∧w''=w))∧(bld (Zl prog 129) #[(0,1),(1,1),(2,3),(5,1),(6,1),(7,1),(8,1)] [(0,t42),(1,t49),(2,t51),(3,t1),(4,t58),(5,t65)] w λt66 w=>
 al (Value.cells t66) 129 w λt67 w=>
 K (Value.tuple #[t67,(Iw 0)]) w))))))))))∧(Cl prog 48 #[t50] w λt51_1 w=>
 (ld1 t63 w (λv' w''=>v'=t64∧w''=w))∧((ld1 t59 w (λv' w''=>v'=t60∧w''=w))∧((ld1 t57 w (λv' w''=>v'=t58∧w''=w))∧((ld1 t53 w (λv' w''=>v'=t54∧w''=w))∧(bld (Zl prog 126) #[(0,1)] [(0,t48)] w λt49_1 w=>
 (ld1 t63 w (λv' w''=>v'=t64∧w''=w))∧((ld1 t59 w (λv' w''=>v'=t60∧w''=w))∧((ld1 t57 w (λv' w''=>v'=t58∧w''=w))∧((ld1 t53 w (λv' w''=>v'=t54∧w''=w))∧((ldN 3 t2 w (λv' w''=>v'=t50∧w''=w))∧(bld (Zl prog 129) #[(0,1),(1,1),(2,3),(5,1),(6,1),(7,1),(8,1)] [(0,t42),(1,t49_1),(2,t51_1),(3,t1),(4,t58),(5,t65)] w λt66_1 w=>
 al (Value.cells t66_1) 129 w λt67_1 w=>
 K (Value.tuple #[t67_1,(Iw 0)]) w))))))))))))))))))
theorem Zol (h:ZvA t0 t1 w K):Cl prog 18 #[t0,t1] w K:=
 ZML 68 [4,5] Tryz.func18 h
def ZrQ (t0 t1:Value) (w:World) (K:KV):Prop:=
 al (Value.cells t0) 25 w λt2 w=>
 ldN 3 t2 w λt12 w=>
 Cl prog 16 #[t12] w λt13 w=>
 xt 0 t13 w λ_ w=>
 xt 1 t13 w λt15 w=>
 bi .neq .i64 t15 (Iw 0) w λt17 w=>
 Zr t17
 (K (Value.tuple #[(Value.pointer none),t15]) w)
 (bi .lss .i64 t1 (Iw 0) w λt20 w=>
 gd t20 false (λk=>k t1 w) w λt22 w=>
 gd t20 false (λk=>fld 1 t2 w k) w λt23 w=>
 gd t20 false (λk=>ld1 t23 w k) w λt24 w=>
 gd t20 false (λk=>lnS t24 w k) w λt25 w=>
 gd t20 false (λk=>bi .geq .i64 t22 t25 w k) w λt26 w=>
 pk t20 (Value.bool true) t26 w λt27 w=>
 gd t27 false (λk=>fld 1 t2 w k) w λt29 w=>
 gd t27 false (λk=>ld1 t29 w k) w λt30 w=>
 gd t27 false (λk=>k t1 w) w λt31 w=>
 gd t27 false (λk=>ixS 7 t30 t31 w k) w λt32 w=>
 gd t27 false (λk=>fld 0 t32 w k) w λt33 w=>
 gd t27 false (λk=>ld1 t33 w k) w λt34 w=>
 gd t27 false (λk=>bi .neq .i64 t34 (Iw 1) w k) w λt35 w=>
 pk t27 (Value.bool true) t35 w λt36 w=>
 Zr t36
 (K (Value.tuple #[(Value.pointer none),(Iw 1)]) w)
 (dr w λw=>
 ldN 3 t2 w λt37 _=>
 fld 1 t2 w λt40 _=>
 ld1 t40 w λt41 _=>
 ixS 7 t41 t1 w λt43 _=>
 fld 2 t43 w λt44 _=>
 ld1 t44 w λt45 _=>
 fld 1 t2 w λt46 _=>
 ld1 t46 w λt47 _=>
 ixS 7 t47 t1 w λt49 _=>
 fld 6 t49 w λt50 _=>
 ld1 t50 w λt51 _=>
 lnS t51 w λt52 _=>
 (Cl prog 49 #[t37] w λt38 w=>
 (ld1 t50 w (λv' w''=>v'=t51∧w''=w))∧((ld1 t46 w (λv' w''=>v'=t47∧w''=w))∧((ld1 t44 w (λv' w''=>v'=t45∧w''=w))∧((ld1 t40 w (λv' w''=>v'=t41∧w''=w))∧((Cl prog 47 #[(Iw 64)] w λt53 w=>
 (ld1 t50 w (λv' w''=>v'=t51∧w''=w))∧((ld1 t46 w (λv' w''=>v'=t47∧w''=w))∧((ld1 t44 w (λv' w''=>v'=t45∧w''=w))∧((ld1 t40 w (λv' w''=>v'=t41∧w''=w))∧((Cl prog 50 #[] w λt54 w=>
 (ld1 t50 w (λv' w''=>v'=t51∧w''=w))∧((ld1 t46 w (λv' w''=>v'=t47∧w''=w))∧((ld1 t44 w (λv' w''=>v'=t45∧w''=w))∧((ld1 t40 w (λv' w''=>v'=t41∧w''=w))∧((Cl prog 51 #[] w λt55 w=>
 (ld1 t50 w (λv' w''=>v'=t51∧w''=w))∧((ld1 t46 w (λv' w''=>v'=t47∧w''=w))∧((ld1 t44 w (λv' w''=>v'=t45∧w''=w))∧((ld1 t40 w (λv' w''=>v'=t41∧w''=w))∧(ZlQ w λt56 w=>
 (ld1 t50 w (λv' w''=>v'=t51∧w''=w))∧((ld1 t46 w (λv' w''=>v'=t47∧w''=w))∧((ld1 t44 w (λv' w''=>v'=t45∧w''=w))∧((ld1 t40 w (λv' w''=>v'=t41∧w''=w))∧((ldN 3 t2 w (λv' w''=>v'=t37∧w''=w))∧(bld (Zl prog 136) #[(0,3),(3,1),(4,1),(5,1),(6,1),(7,1),(8,1),(9,1),(10,1)] [(0,t38),(1,t1),(2,t45),(3,t52),(4,t53),(5,t54),(6,t55),(7,t56)] w λt57 w=>
 al (Value.cells t57) 136 w λt58 w=>
 fld 1 t2 w λt59 w=>
 ld1 t59 w λt60 w=>
 lnS t60 w λt61 w=>
 lp [(Iw 0)] w (b1 λt62 w g1=>
 bi .lss .i64 t62 t61 w λt63 w=>
 Zr t63
 (J0 (λw=>
 bi .add .i64 t62 (Iw 1) w λt75 w=>
 g1 [t75] w) λk2=>
 ixS 7 t60 t62 w λt65 w=>
 ldN 7 t65 w λt66 w=>
 al (Zl prog 46) 46 w λt10 w=>
 stN 7 t10 t66 w λ_ w=>
 fld 0 t10 w λt67 w=>
 ld1 t67 w λt68 w=>
 bi .eql .i64 t68 (Iw 0) w λt69 w=>
 Zr t69
 (ncP t58<|
 fld 9 t58 w λt72 w=>
 ld1 t72 w λt73 w=>
 upM prog 134 t73 t62 (Iw 0) w λ_ w=>
 k2 w)
 (k2 w))
 (K (Value.tuple #[t58,(Iw 0)]) w))))))))))))∧(ZlQ w λt56_1 w=>
 (ld1 t50 w (λv' w''=>v'=t51∧w''=w))∧((ld1 t46 w (λv' w''=>v'=t47∧w''=w))∧((ld1 t44 w (λv' w''=>v'=t45∧w''=w))∧((ld1 t40 w (λv' w''=>v'=t41∧w''=w))∧((ldN 3 t2 w (λv' w''=>v'=t37∧w''=w))∧(Cl prog 51 #[] w λt55_1 w=>
 (ld1 t50 w (λv' w''=>v'=t51∧w''=w))∧((ld1 t46 w (λv' w''=>v'=t47∧w''=w))∧((ld1 t44 w (λv' w''=>v'=t45∧w''=w))∧((ld1 t40 w (λv' w''=>v'=t41∧w''=w))∧(bld (Zl prog 136) #[(0,3),(3,1),(4,1),(5,1),(6,1),(7,1),(8,1),(9,1),(10,1)] [(0,t38),(1,t1),(2,t45),(3,t52),(4,t53),(5,t54),(6,t55_1),(7,t56_1)] w λt57_1 w=>
 al (Value.cells t57_1) 136 w λt58_1 w=>
 fld 1 t2 w λt59_1 w=>
 ld1 t59_1 w λt60_1 w=>
 lnS t60_1 w λt61_1 w=>
 lp [(Iw 0)] w (b1 λt62_1 w g3=>
 bi .lss .i64 t62_1 t61_1 w λt63_1 w=>
 Zr t63_1
 (J0 (λw=>
 bi .add .i64 t62_1 (Iw 1) w λt75_1 w=>
 g3 [t75_1] w) λk4=>
 ixS 7 t60_1 t62_1 w λt65_1 w=>
 ldN 7 t65_1 w λt66_1 w=>
 al (Zl prog 46) 46 w λt10_1 w=>
 stN 7 t10_1 t66_1 w λ_ w=>
 fld 0 t10_1 w λt67_1 w=>
 ld1 t67_1 w λt68_1 w=>
 bi .eql .i64 t68_1 (Iw 0) w λt69_1 w=>
 Zr t69_1
 (ncP t58_1<|
 fld 9 t58_1 w λt72_1 w=>
 ld1 t72_1 w λt73_1 w=>
 upM prog 134 t73_1 t62_1 (Iw 0) w λ_ w=>
 k4 w)
 (k4 w))
 (K (Value.tuple #[t58_1,(Iw 0)]) w)))))))))))))))))∧(ZlQ w λt56_2 w=>
 (ld1 t50 w (λv' w''=>v'=t51∧w''=w))∧((ld1 t46 w (λv' w''=>v'=t47∧w''=w))∧((ld1 t44 w (λv' w''=>v'=t45∧w''=w))∧((ld1 t40 w (λv' w''=>v'=t41∧w''=w))∧((ldN 3 t2 w (λv' w''=>v'=t37∧w''=w))∧(Cl prog 50 #[] w λt54_1 w=>
 (ld1 t50 w (λv' w''=>v'=t51∧w''=w))∧((ld1 t46 w (λv' w''=>v'=t47∧w''=w))∧((ld1 t44 w (λv' w''=>v'=t45∧w''=w))∧((ld1 t40 w (λv' w''=>v'=t41∧w''=w))∧(Cl prog 51 #[] w λt55_2 w=>
 (ld1 t50 w (λv' w''=>v'=t51∧w''=w))∧((ld1 t46 w (λv' w''=>v'=t47∧w''=w))∧((ld1 t44 w (λv' w''=>v'=t45∧w''=w))∧((ld1 t40 w (λv' w''=>v'=t41∧w''=w))∧(bld (Zl prog 136) #[(0,3),(3,1),(4,1),(5,1),(6,1),(7,1),(8,1),(9,1),(10,1)] [(0,t38),(1,t1),(2,t45),(3,t52),(4,t53),(5,t54_1),(6,t55_2),(7,t56_2)] w λt57_2 w=>
 al (Value.cells t57_2) 136 w λt58_2 w=>
 fld 1 t2 w λt59_2 w=>
 ld1 t59_2 w λt60_2 w=>
 lnS t60_2 w λt61_2 w=>
 lp [(Iw 0)] w (b1 λt62_2 w g5=>
 bi .lss .i64 t62_2 t61_2 w λt63_2 w=>
 Zr t63_2
 (J0 (λw=>
 bi .add .i64 t62_2 (Iw 1) w λt75_2 w=>
 g5 [t75_2] w) λk6=>
 ixS 7 t60_2 t62_2 w λt65_2 w=>
 ldN 7 t65_2 w λt66_2 w=>
 al (Zl prog 46) 46 w λt10_2 w=>
 stN 7 t10_2 t66_2 w λ_ w=>
 fld 0 t10_2 w λt67_2 w=>
 ld1 t67_2 w λt68_2 w=>
 bi .eql .i64 t68_2 (Iw 0) w λt69_2 w=>
 Zr t69_2
 (ncP t58_2<|
 fld 9 t58_2 w λt72_2 w=>
 ld1 t72_2 w λt73_2 w=>
 upM prog 134 t73_2 t62_2 (Iw 0) w λ_ w=>
 k6 w)
 (k6 w))
 (K (Value.tuple #[t58_2,(Iw 0)]) w)))))))))))))))))))))∧(ZlQ w λt56_3 w=>
 (ld1 t50 w (λv' w''=>v'=t51∧w''=w))∧((ld1 t46 w (λv' w''=>v'=t47∧w''=w))∧((ld1 t44 w (λv' w''=>v'=t45∧w''=w))∧((ld1 t40 w (λv' w''=>v'=t41∧w''=w))∧((ldN 3 t2 w (λv' w''=>v'=t37∧w''=w))∧(Cl prog 47 #[(Iw 64)] w λt53_1 w=>
 (ld1 t50 w (λv' w''=>v'=t51∧w''=w))∧((ld1 t46 w (λv' w''=>v'=t47∧w''=w))∧((ld1 t44 w (λv' w''=>v'=t45∧w''=w))∧((ld1 t40 w (λv' w''=>v'=t41∧w''=w))∧(Cl prog 50 #[] w λt54_2 w=>
 (ld1 t50 w (λv' w''=>v'=t51∧w''=w))∧((ld1 t46 w (λv' w''=>v'=t47∧w''=w))∧((ld1 t44 w (λv' w''=>v'=t45∧w''=w))∧((ld1 t40 w (λv' w''=>v'=t41∧w''=w))∧(Cl prog 51 #[] w λt55_3 w=>
 (ld1 t50 w (λv' w''=>v'=t51∧w''=w))∧((ld1 t46 w (λv' w''=>v'=t47∧w''=w))∧((ld1 t44 w (λv' w''=>v'=t45∧w''=w))∧((ld1 t40 w (λv' w''=>v'=t41∧w''=w))∧(bld (Zl prog 136) #[(0,3),(3,1),(4,1),(5,1),(6,1),(7,1),(8,1),(9,1),(10,1)] [(0,t38),(1,t1),(2,t45),(3,t52),(4,t53_1),(5,t54_2),(6,t55_3),(7,t56_3)] w λt57_3 w=>
 al (Value.cells t57_3) 136 w λt58_3 w=>
 fld 1 t2 w λt59_3 w=>
 ld1 t59_3 w λt60_3 w=>
 lnS t60_3 w λt61_3 w=>
 lp [(Iw 0)] w (b1 λt62_3 w g7=>
 bi .lss .i64 t62_3 t61_3 w λt63_3 w=>
 Zr t63_3
 (J0 (λw=>
 bi .add .i64 t62_3 (Iw 1) w λt75_3 w=>
 g7 [t75_3] w) λk8=>
 ixS 7 t60_3 t62_3 w λt65_3 w=>
 ldN 7 t65_3 w λt66_3 w=>
 al (Zl prog 46) 46 w λt10_3 w=>
 stN 7 t10_3 t66_3 w λ_ w=>
 fld 0 t10_3 w λt67_3 w=>
 ld1 t67_3 w λt68_3 w=>
 bi .eql .i64 t68_3 (Iw 0) w λt69_3 w=>
 Zr t69_3
 (ncP t58_3<|
 fld 9 t58_3 w λt72_3 w=>
 ld1 t72_3 w λt73_3 w=>
 upM prog 134 t73_3 t62_3 (Iw 0) w λ_ w=>
 k8 w)
 (k8 w))
 (K (Value.tuple #[t58_3,(Iw 0)]) w)))))))))))))))))))))))))∧(ZlQ w λt56_4 w=>
 (ld1 t50 w (λv' w''=>v'=t51∧w''=w))∧((ld1 t46 w (λv' w''=>v'=t47∧w''=w))∧((ld1 t44 w (λv' w''=>v'=t45∧w''=w))∧((ld1 t40 w (λv' w''=>v'=t41∧w''=w))∧((ldN 3 t2 w (λv' w''=>v'=t37∧w''=w))∧(Cl prog 49 #[t37] w λt38_1 w=>
 (ld1 t50 w (λv' w''=>v'=t51∧w''=w))∧((ld1 t46 w (λv' w''=>v'=t47∧w''=w))∧((ld1 t44 w (λv' w''=>v'=t45∧w''=w))∧((ld1 t40 w (λv' w''=>v'=t41∧w''=w))∧(Cl prog 47 #[(Iw 64)] w λt53_2 w=>
 (ld1 t50 w (λv' w''=>v'=t51∧w''=w))∧((ld1 t46 w (λv' w''=>v'=t47∧w''=w))∧((ld1 t44 w (λv' w''=>v'=t45∧w''=w))∧((ld1 t40 w (λv' w''=>v'=t41∧w''=w))∧(Cl prog 50 #[] w λt54_3 w=>
 (ld1 t50 w (λv' w''=>v'=t51∧w''=w))∧((ld1 t46 w (λv' w''=>v'=t47∧w''=w))∧((ld1 t44 w (λv' w''=>v'=t45∧w''=w))∧((ld1 t40 w (λv' w''=>v'=t41∧w''=w))∧(Cl prog 51 #[] w λt55_4 w=>
 (ld1 t50 w (λv' w''=>v'=t51∧w''=w))∧((ld1 t46 w (λv' w''=>v'=t47∧w''=w))∧((ld1 t44 w (λv' w''=>v'=t45∧w''=w))∧((ld1 t40 w (λv' w''=>v'=t41∧w''=w))∧(bld (Zl prog 136) #[(0,3),(3,1),(4,1),(5,1),(6,1),(7,1),(8,1),(9,1),(10,1)] [(0,t38_1),(1,t1),(2,t45),(3,t52),(4,t53_2),(5,t54_3),(6,t55_4),(7,t56_4)] w λt57_4 w=>
 al (Value.cells t57_4) 136 w λt58_4 w=>
 fld 1 t2 w λt59_4 w=>
 ld1 t59_4 w λt60_4 w=>
 lnS t60_4 w λt61_4 w=>
 lp [(Iw 0)] w (b1 λt62_4 w g9=>
 bi .lss .i64 t62_4 t61_4 w λt63_4 w=>
 Zr t63_4
 (J0 (λw=>
 bi .add .i64 t62_4 (Iw 1) w λt75_4 w=>
 g9 [t75_4] w) λk10=>
 ixS 7 t60_4 t62_4 w λt65_4 w=>
 ldN 7 t65_4 w λt66_4 w=>
 al (Zl prog 46) 46 w λt10_4 w=>
 stN 7 t10_4 t66_4 w λ_ w=>
 fld 0 t10_4 w λt67_4 w=>
 ld1 t67_4 w λt68_4 w=>
 bi .eql .i64 t68_4 (Iw 0) w λt69_4 w=>
 Zr t69_4
 (ncP t58_4<|
 fld 9 t58_4 w λt72_4 w=>
 ld1 t72_4 w λt73_4 w=>
 upM prog 134 t73_4 t62_4 (Iw 0) w λ_ w=>
 k10 w)
 (k10 w))
 (K (Value.tuple #[t58_4,(Iw 0)]) w))))))))))))))))))))))))))
theorem Zm5 (h:ZrQ t0 t1 w K):Cl prog 19 #[t0,t1] w K:=
 ZML 77 [4,5] Tryz.func19 h
def Zvg (t0:Value) (w:World) (K:KV):Prop:=
 bi .lss .i64 t0 (Iw 1) w λt5 w=>
 gd t5 false (λk=>k t0 w) w λt7 w=>
 gd t5 false (λk=>bi .gtr .i64 t7 (Iw 8) w k) w λt8 w=>
 pk t5 (Value.bool true) t8 w λt9 w=>
 Zr t9
 (K (Value.tuple #[(Value.pointer none),(Iw 1)]) w)
 (bld (Zl prog 142) #[(0,1),(1,1),(2,1),(3,16),(19,2),(21,1),(22,1)] [(0,t0)] w λt11 w=>
 al (Value.cells t11) 142 w λt12 w=>
 K (Value.tuple #[t12,(Iw 0)]) w)
theorem ZoD (h:Zvg t0 w K):Cl prog 20 #[t0] w K:=
 ZML 13 [2,3] Tryz.func20 h
def Ziq (t0:Value) (w:World) (K:KV):Prop:=
 al (Value.cells t0) 25 w λt1 w=>
 fld 1 t1 w λt6 w=>
 ld1 t6 w λt7 w=>
 lnS t7 w λt8 w=>
 lp [(Value.slice none 0 0),(Iw 0)] w (b2 λt3 t9 w g1=>
 bi .lss .i64 t9 t8 w λt10 w=>
 Zr t10
 (ixS 7 t7 t9 w λt12 w=>
 ldN 7 t12 w λt13 w=>
 al (Zl prog 46) 46 w λt5 w=>
 stN 7 t5 t13 w λ_ w=>
 ldN 3 t1 w λt15 w=>
 fld 6 t5 w λt17 w=>
 ld1 t17 w λt18 w=>
 Cl prog 52 #[t15,t9,(Iw 0),(Iw 0),(Iw 0),t18] w λt19 w=>
 apS prog #[76,76] 76 t3 t19 w λt20 w=>
 bi .add .i64 t9 (Iw 1) w λt21 w=>
 g1 [t20,t21] w)
 (K t3 w))
theorem ZhE (h:Ziq t0 w K):Cl prog 21 #[t0] w K:=
 ZML 23 [2] Tryz.func21 h
def ZgU (t0 t1 t2:Value) (w:World) (K:KV):Prop:=
 dr w λw=>
 ncP t0<|
 fld 2 t0 w λt8 _=>
 ld1 t8 w λt9 _=>
 ncP t0<|
 fld 2 t0 w λt13 _=>
 ld1 t13 w λt14 _=>
 ixS 1 t14 t1 w λt16 _=>
 ld1 t16 w λt17 _=>
 apS prog #[50,50] 50 t17 t2 w λt19 w=>
 (ld1 t8 w (λv' w''=>v'=t9∧w''=w))∧(ixS 1 t9 t1 w λt20 _=>
 stN 1 t20 t19 w λ_ w=>
 K (Value.tuple #[]) w)
theorem Zgq (h:ZgU t0 t1 t2 w K):Cl prog 22 #[t0,t1,t2] w K:=
 ZML 21 [] Tryz.func22 h
def ZKb (t0:Value) (w:World) (K:KV):Prop:=
 al (Value.cells t0) 25 w λt1 w=>
 ldN 3 t1 w λt9 w=>
 Cl prog 53 #[t9] w λt10 w=>
 xt 0 t10 w λ_ w=>
 xt 1 t10 w λt12 w=>
 bi .neq .i64 t12 (Iw 0) w λt14 w=>
 Zr t14
 (K (Value.tuple #[(Value.pointer none),t12]) w)
 (ldN 3 t1 w λt16 w=>
 bld (Zl prog 98) #[(0,3),(3,1),(4,1),(5,1),(6,1)] [(0,t16)] w λt17 w=>
 al (Value.cells t17) 98 w λt18 w=>
 lp [(Iw 0)] w (b1 λt7 w g1=>
 fld 1 t1 w λt20 w=>
 ld1 t20 w λt21 w=>
 lnS t21 w λt22 w=>
 bi .lss .i64 t7 t22 w λt23 w=>
 Zr t23
 (dr w λw=>
 ncP t18<|
 fld 3 t18 w λt29 _=>
 ld1 t29 w λt30 _=>
 fld 1 t1 w λt31 _=>
 ld1 t31 w λt32 _=>
 ixS 7 t32 t7 w λt34 _=>
 fld 2 t34 w λt35 _=>
 ld1 t35 w λt36 _=>
 bsl 3 1 1 (Zl prog 3) [(0,t36)] w λt37 w=>
 (ld1 t29 w (λv' w''=>v'=t30∧w''=w))∧(apS prog #[22,22] 22 t30 t37 w λt38 w=>
 ncP t18<|
 fld 3 t18 w λt40 _=>
 stN 1 t40 t38 w λ_ w=>
 dr w λw=>
 ncP t18<|
 fld 4 t18 w λt44 _=>
 ld1 t44 w λt45 _=>
 fld 1 t1 w λt46 _=>
 ld1 t46 w λt47 _=>
 ixS 7 t47 t7 w λt49 _=>
 fld 6 t49 w λt50 _=>
 ld1 t50 w λt51 _=>
 lnS t51 w λt52 _=>
 bsl 3 1 1 (Zl prog 3) [(0,t52)] w λt53 w=>
 (ld1 t44 w (λv' w''=>v'=t45∧w''=w))∧(apS prog #[22,22] 22 t45 t53 w λt54 w=>
 ncP t18<|
 fld 4 t18 w λt56 _=>
 stN 1 t56 t54 w λ_ w=>
 bi .add .i64 t7 (Iw 1) w λt25 w=>
 g1 [t25] w)))
 (ldN 3 t1 w λt58 w=>
 Cl prog 55 #[t58] w λt59 w=>
 Cl prog 54 #[(Value.slice none 0 0),t59] w λt60 w=>
 ncP t18<|
 fld 5 t18 w λt62 w=>
 stN 1 t62 t60 w λ_ w=>
 K (Value.tuple #[t18,(Iw 0)]) w)))
theorem ZKm (h:ZKb t0 w K):Cl prog 23 #[t0] w K:=
 ZML 64 [2,3] Tryz.func23 h
def ZJp (t0 t1:Value) (w:World) (K:KV):Prop:=
 lp [(Iw 0)] w (b1 λt5 w g1=>
 bi .lss .i64 t5 t1 w λt10 w=>
 Zr t10
 (Cl prog 56 #[t0] w λt13 w=>
 xt 0 t13 w λt14 w=>
 xt 1 t13 w λt15 w=>
 al (Zl prog 100) 100 w λt6 w=>
 stN 7 t6 t14 w λ_ w=>
 Zb3 t15 w λt17 w=>
 Zr t17
 (K t5 w)
 (bi .add .i64 t5 (Iw 1) w λt20 w=>
 g1 [t20] w))
 (K t5 w))
theorem ZJx (h:ZJp t0 t1 w K):Cl prog 24 #[t0,t1] w K:=
 ZML 22 [4] Tryz.func24 h
def Zip (t0 t1:Value) (w:World) (K:KV):Prop:=
 bi .geq .i64 t1 (Iw 0) w λt6 w=>
 gd t6 true (λk=>k t1 w) w λt8 w=>
 gd t6 true (λk=>k t0 w) w λt9 w=>
 gd t6 true (λk=>nc t9 w k) w λt10 w=>
 gd t6 true (λk=>fld 1 t10 w k) w λt11 w=>
 gd t6 true (λk=>ld1 t11 w k) w λt12 w=>
 gd t6 true (λk=>lnS t12 w k) w λt13 w=>
 gd t6 true (λk=>bi .lss .i64 t8 t13 w k) w λt14 w=>
 pk t6 t14 (Value.bool false) w λt15 w=>
 K t15 w
theorem ZhU (h:Zip t0 t1 w K):Cl prog 25 #[t0,t1] w K:=
 ZML 16 [4] Tryz.func25 h
def Zfw (t0 t1:Value) (w:World) (K:KV):Prop:=
 ncP t0<|
 fld 2 t0 w λt9 w=>
 ld1 t9 w λt10 w=>
 ixS 1 t10 t1 w λt12 w=>
 ld1 t12 w λt13 w=>
 lnS t13 w λt14 w=>
 bi .gtr .i64 t14 (Iw 0) w λt15 w=>
 Zr t15
 (K (Iw 2) w)
 (ncP t0<|
 fld 1 t0 w λt19 w=>
 ld1 t19 w λt20 w=>
 ixS 1 t20 t1 w λt22 w=>
 ld1 t22 w λt23 w=>
 clI prog t23 "paceline/fed.step" #[] w λt24 w=>
 xt 0 t24 w λt25 w=>
 xt 1 t24 w λt26 w=>
 Cl prog 22 #[t0,t1,t25] w λ_ w=>
 K t26 w)
theorem ZfK (h:Zfw t0 t1 w K):Cl prog 26 #[t0,t1] w K:=
 ZML 32 [4] Tryz.func26 h
def ZeM (t0 t1:Value) (w:World) (K:KV):Prop:=
 ncP t0<|
 fld 2 t0 w λt11 w=>
 ld1 t11 w λt12 w=>
 ixS 1 t12 t1 w λt14 w=>
 ld1 t14 w λt15 w=>
 lnS t15 w λt16 w=>
 bi .eql .i64 t16 (Iw 0) w λt17 w=>
 Zr t17
 (K (Iw 150) w)
 (ncP t0<|
 fld 2 t0 w λt20 w=>
 ld1 t20 w λt21 w=>
 ixS 1 t21 t1 w λt23 w=>
 ld1 t23 w λt24 w=>
 ixS 8 t24 (Iw 0) w λt25 w=>
 ldN 8 t25 w λt26 w=>
 al (Zl prog 84) 84 w λt5 w=>
 stN 8 t5 t26 w λ_ w=>
 dr w λw=>
 ncP t0<|
 fld 3 t0 w λt29 _=>
 ld1 t29 w λt30 _=>
 fld 1 t5 w λt32 _=>
 fld 3 t32 w λt33 _=>
 ld1 t33 w λt34 _=>
 Cl prog 57 #[t30,t1,t34] w λt35 w=>
 bi .eql .i64 t35 (Iw 0) w λt36 _=>
 Zr t36
 (K (Iw 2) w)
 (fld 1 t5 w λt40 w=>
 fld 3 t40 w λt41 w=>
 ld1 t41 w λt42 w=>
 ldN 8 t5 w λt43 w=>
 Cl prog 58 #[t0,t1,t42,t43] w λt44 w=>
 xt 0 t44 w λt45 w=>
 xt 1 t44 w λ_ w=>
 xt 2 t44 w λt47 w=>
 J0 (λw=>
 dr w λw=>
 ncP t0<|
 fld 2 t0 w λt68 _=>
 ld1 t68 w λt69 _=>
 ncP t0<|
 fld 2 t0 w λt73 _=>
 ld1 t73 w λt74 _=>
 ixS 1 t74 t1 w λt76 _=>
 ld1 t76 w λt77 _=>
 slc 8 t77 (some (Iw 1)) none w λt78 _=>
 Cl prog 35 #[t78] w λt79 w=>
 (ld1 t68 w (λv' w''=>v'=t69∧w''=w))∧(ixS 1 t69 t1 w λt80 _=>
 stN 1 t80 t79 w λ_ w=>
 dr w λw=>
 ncP t0<|
 fld 3 t0 w λt83 _=>
 ld1 t83 w λt84 _=>
 fld 1 t5 w λt86 _=>
 fld 3 t86 w λt87 _=>
 ld1 t87 w λt88 _=>
 ldN 8 t5 w λt89 _=>
 Cl prog 60 #[t84,t1,t88,t89] w λt90 w=>
 K t90 w)) λk1=>
 Zr t47
 (dr w λw=>
 ncP t0<|
 fld 4 t0 w λt52 _=>
 ld1 t52 w λt53 _=>
 ncP t45<|
 fld 1 t45 w λt56 _=>
 ld1 t56 w λt57 _=>
 fld 1 t5 w λt58 _=>
 fld 0 t58 w λt59 _=>
 fld 0 t59 w λt60 _=>
 ld1 t60 w λt61 _=>
 Cl prog 59 #[t53,t57,t61] w λt62 w=>
 xt 0 t62 w λt63 _=>
 xt 1 t62 w λ_ _=>
 fld 7 t5 w λt65 _=>
 stN 1 t65 t63 w λ_ w=>
 k1 w)
 (k1 w)))
theorem Ze0 (h:ZeM t0 t1 w K):Cl prog 27 #[t0,t1] w K:=
 ZML 91 [4] Tryz.func27 h
def Zdf (t0 t1 t2:Value) (w:World) (K:KV):Prop:=
 ncP t0<|
 fld 3 t0 w λt17 w=>
 ld1 t17 w λt18 w=>
 Cl prog 61 #[t18,t1,t2] w λt21 w=>
 xt 0 t21 w λt22 w=>
 xt 1 t21 w λt23 w=>
 al (Zl prog 84) 84 w λt7 w=>
 stN 8 t7 t22 w λ_ w=>
 Zb3 t23 w λt25 w=>
 Zr t25
 (K (Iw 150) w)
 (dr w λw=>
 ncP t0<|
 fld 1 t0 w λt29 _=>
 ld1 t29 w λt30 _=>
 ixS 1 t30 t2 w λt32 _=>
 ld1 t32 w λt33 _=>
 ldN 8 t7 w λt35 _=>
 clI prog t33 "paceline/fed.hear" #[t1,t35] w λt36 w=>
 xt 0 t36 w λt37 _=>
 xt 1 t36 w λt38 _=>
 bi .neq .i64 t38 (Iw 0) w λt40 w=>
 Zr t40
 (K t38 w)
 (ncP t0<|
 fld 3 t0 w λt44 w=>
 ld1 t44 w λt45 w=>
 Cl prog 62 #[t45,t1,t2] w λ_ w=>
 ldN 8 t7 w λt53 w=>
 Cl prog 58 #[t0,t1,t2,t53] w λt54 w=>
 xt 0 t54 w λ_ w=>
 xt 1 t54 w λt56 w=>
 xt 2 t54 w λt57 w=>
 J0 (λw=>
 Cl prog 22 #[t0,t2,t37] w λ_ w=>
 K (Iw 0) w) λk1=>
 Zr t57
 (dr w λw=>
 ncP t0<|
 fld 4 t0 w λt61 _=>
 ld1 t61 w λt62 _=>
 ncP t56<|
 fld 1 t56 w λt65 _=>
 ld1 t65 w λt66 _=>
 fld 7 t7 w λt67 _=>
 ld1 t67 w λt68 _=>
 Cl prog 63 #[t62,t66,t68] w λ_ w=>
 k1 w)
 (k1 w)))
theorem ZdS (h:Zdf t0 t1 t2 w K):Cl prog 28 #[t0,t1,t2] w K:=
 ZML 74 [6] Tryz.func28 h
def ZfA (t0 t1:Value) (w:World) (K:KV):Prop:=
 ncP t0<|
 fld 2 t0 w λt10 w=>
 ld1 t10 w λt11 w=>
 ixS 1 t11 t1 w λt13 w=>
 ld1 t13 w λt14 w=>
 lnS t14 w λt15 w=>
 bi .gtr .i64 t15 (Iw 0) w λt16 w=>
 Zr t16
 (K (Iw 2) w)
 (ncP t0<|
 fld 1 t0 w λt20 w=>
 ld1 t20 w λt21 w=>
 ixS 1 t21 t1 w λt23 w=>
 ld1 t23 w λt24 w=>
 clI prog t24 "paceline/fed.tell" #[] w λt25 w=>
 xt 0 t25 w λt26 w=>
 xt 1 t25 w λt27 w=>
 Zb3 t27 w λt29 w=>
 Zr t29
 (K (Iw 150) w)
 (ncP t0<|
 fld 1 t0 w λt32 w=>
 ld1 t32 w λt33 w=>
 lnS t33 w λt34 w=>
 lp [(Iw 0)] w (b1 λt35 w g1=>
 bi .lss .i64 t35 t34 w λt36 w=>
 Zr t36
 (J0 (λw=>
 bi .add .i64 t35 (Iw 1) w λt62 w=>
 g1 [t62] w) λk2=>
 bi .neq .i64 t35 t1 w λt40 w=>
 gd t40 true (λk=>k t0 w) w λt42 w=>
 gd t40 true (λk=>k t1 w) w λt43 w=>
 gd t40 true (λk=>Cl prog 31 #[t42,t43] w k) w λt44 w=>
 gd t40 true (λk=>bn .eql t44 w k) w λt45 w=>
 gd t40 true (λk=>k t45 w) w λt46 w=>
 gd t46 false (λk=>k t0 w) w λt47 w=>
 gd t46 false (λk=>k t35 w) w λt48 w=>
 gd t46 false (λk=>Cl prog 31 #[t47,t48] w k) w λt49 w=>
 gd t46 false (λk=>bn .eql t49 w k) w λt50 w=>
 gd t40 true (λk=>pk t46 (Value.bool true) t50 w k) w λt51 w=>
 pk t40 t51 (Value.bool false) w λt52 w=>
 Zr t52
 (bld (Zl prog 79) #[(0,1),(1,1),(2,1)] [(0,t26)] w λt56 w=>
 bld (Zl prog 81) #[(0,3),(3,1),(4,1),(5,1)] [(0,t56),(1,t35)] w λt58 w=>
 bld (Zl prog 84) #[(0,1),(1,6),(7,1)] [(0,(Iw 2)),(1,t58)] w λt59 w=>
 bsl 84 8 1 (Zl prog 84) [(0,t59)] w λt60 w=>
 Cl prog 22 #[t0,t1,t60] w λ_ w=>
 k2 w)
 (k2 w))
 (K (Iw 0) w))))
theorem Ze9 (h:ZfA t0 t1 w K):Cl prog 29 #[t0,t1] w K:=
 ZML 63 [4] Tryz.func29 h
def Ziu (t0:Value) (w:World) (K:KV):Prop:=
 Cl prog 64 #[t0] w λt4 w=>
 Zr t4
 (K (Iw 130) w)
 (ncP t0<|
 fld 1 t0 w λt7 w=>
 ld1 t7 w λt8 w=>
 bi .add .i64 t8 (Iw 1) w λt9 w=>
 ncP t0<|
 fld 1 t0 w λt11 w=>
 stN 1 t11 t9 w λ_ w=>
 ncP t0<|
 fld 21 t0 w λt14 w=>
 stN 1 t14 (Iw 1125899906842624) w λ_ w=>
 K (Iw 0) w)
theorem Zh4 (h:Ziu t0 w K):Cl prog 30 #[t0] w K:=
 ZML 15 [2] Tryz.func30 h
def Zfp (t0 t1:Value) (w:World) (K:KV):Prop:=
 ncP t0<|
 fld 1 t0 w λt8 w=>
 ld1 t8 w λt9 w=>
 ixS 1 t9 t1 w λt11 w=>
 ld1 t11 w λt12 w=>
 tyA prog t12 95 71 true w λt13 w=>
 xt 1 t13 w λt14 w=>
 xt 0 t13 w λt15 w=>
 Zr t14
 (K t15 w)
 (K (Value.pointer none) w)
theorem Zfq (h:Zfp t0 t1 w K):Cl prog 31 #[t0,t1] w K:=
 ZML 17 [4] Tryz.func31 h
def ZkB (t0 t1:Value) (w:World) (K:KV):Prop:=
 Cl prog 65 #[t0,t1] w λt8 w=>
 Zb3 t8 w λt9 w=>
 Zr t9
 (K (Iw 1) w)
 (dr w λw=>
 Cl prog 64 #[t0] w λt12 w=>
 Zb3 t12 w λt13 _=>
 gd t13 false (λk=>k t0 w) w λt15 _=>
 gd t13 false (λk=>k t1 w) w λt16 _=>
 gd t13 false (λk=>nc t15 w k) w λt17 _=>
 gd t13 false (λk=>fld 3 t17 w k) w λt18 _=>
 gd t13 false (λk=>ixA 8 2 t18 t16 w k) w λt19 _=>
 gd t13 false (λk=>ldN 2 t19 w k) w λt20 _=>
 gd t13 false (λk=>k t0 w) w λt21 _=>
 gd t13 false (λk=>nc t21 w k) w λt22 _=>
 gd t13 false (λk=>fld 1 t22 w k) w λt23 _=>
 gd t13 false (λk=>ld1 t23 w k) w λt24 _=>
 gd t13 false (λk=>Cl prog 66 #[t20,t24] w k) w λt25 w=>
 pk t13 (Value.bool true) t25 w λt26 _=>
 Zr t26
 (K (Iw 130) w)
 (dr w λw=>
 ncP t0<|
 fld 1 t0 w λt31 _=>
 ld1 t31 w λt32 _=>
 ncP t0<|
 fld 3 t0 w λt34 _=>
 ixA 8 2 t34 t1 w λt35 _=>
 fld 0 t35 w λt36 _=>
 stN 1 t36 t32 w λ_ w=>
 K (Iw 0) w))
theorem Zjr (h:ZkB t0 t1 w K):Cl prog 32 #[t0,t1] w K:=
 ZML 37 [4] Tryz.func32 h
def Zd5 (t0 t1 t2:Value) (w:World) (K:KV):Prop:=
 ncP t2<|
 fld 0 t2 w λt22 w=>
 ld1 t22 w λt23 w=>
 Cl prog 67 #[t23] w λt24 w=>
 bsl 3 1 1 (Zl prog 3) [(0,t24)] w λt25 w=>
 ncP t0<|
 fld 2 t0 w λt28 w=>
 ld1 t28 w λt29 w=>
 ixS 1 t29 t1 w λt31 w=>
 ld1 t31 w λt32 w=>
 lnS t32 w λt33 w=>
 lp [t25,(Iw 0)] w (b2 λt7 t34 w g1=>
 bi .lss .i64 t34 t33 w λt35 w=>
 Zr t35
 (J1 (λt7_1 w=>
 bi .add .i64 t34 (Iw 1) w λt57 w=>
 g1 [t7_1,t57] w) λk2=>
 ixS 8 t32 t34 w λt36 w=>
 ldN 8 t36 w λt37 w=>
 al (Zl prog 84) 84 w λt9 w=>
 stN 8 t9 t37 w λ_ w=>
 fld 1 t9 w λt41 w=>
 fld 3 t41 w λt42 w=>
 ld1 t42 w λt43 w=>
 ldN 8 t9 w λt44 w=>
 Cl prog 58 #[t0,t1,t43,t44] w λt45 w=>
 xt 0 t45 w λ_ w=>
 xt 1 t45 w λ_ w=>
 xt 2 t45 w λt48 w=>
 Zr t48
 (fld 1 t9 w λt51 w=>
 fld 0 t51 w λt52 w=>
 fld 0 t52 w λt53 w=>
 ld1 t53 w λt54 w=>
 bsl 3 1 1 (Zl prog 3) [(0,t54)] w λt55 w=>
 apS prog #[22,22] 22 t7 t55 w λt56 w=>
 k2 t56 w)
 (k2 t7 w))
 (ncP t0<|
 fld 4 t0 w λt60 w=>
 ld1 t60 w λt61 w=>
 Cl prog 68 #[t61] w λt62 w=>
 dr w λw=>
 ncP t0<|
 fld 4 t0 w λt65 _=>
 ld1 t65 w λt66 _=>
 ncP t2<|
 fld 1 t2 w λt69 _=>
 ld1 t69 w λt70 _=>
 Cl prog 70 #[t7] w λt72 w=>
 (ld1 t69 w (λv' w''=>v'=t70∧w''=w))∧((ld1 t65 w (λv' w''=>v'=t66∧w''=w))∧(Cl prog 69 #[t66,t70,t72] w λt73 w=>
 bi .neq .i64 t73 (Iw 0) w λt75 w=>
 gd t75 false (λk=>k t0 w) w λt77 w=>
 gd t75 false (λk=>nc t77 w k) w λt78 w=>
 gd t75 false (λk=>fld 4 t78 w k) w λt79 w=>
 gd t75 false (λk=>ld1 t79 w k) w λt80 w=>
 gd t75 false (λk=>Cl prog 68 #[t80] w k) w λt81 w=>
 gd t75 false (λk=>k t62 w) w λt82 w=>
 gd t75 false (λk=>bi .eql .i64 t81 t82 w k) w λt83 w=>
 pk t75 (Value.bool true) t83 w λt84 w=>
 Zr t84
 (K t73 w)
 (ncP t0<|
 fld 1 t0 w λt88 w=>
 ld1 t88 w λt89 w=>
 lnS t89 w λt90 w=>
 lp [(Iw 0)] w (b1 λt91 w g3=>
 bi .lss .i64 t91 t90 w λt92 w=>
 Zr t92
 (J0 (λw=>
 bi .add .i64 t91 (Iw 1) w λt118 w=>
 g3 [t118] w) λk4=>
 Cl prog 31 #[t0,t91] w λt96 w=>
 bn .neq t96 w λt98 w=>
 Zr t98
 (dr w λw=>
 ncP t96<|
 fld 0 t96 w λt102 _=>
 ld1 t102 w λt103 _=>
 ncP t0<|
 fld 4 t0 w λt106 _=>
 ld1 t106 w λt107 _=>
 Cl prog 72 #[t107] w λt108 w=>
 (ld1 t102 w (λv' w''=>v'=t103∧w''=w))∧(Cl prog 71 #[t103,t108] w λt109 w=>
 xt 0 t109 w λ_ _=>
 xt 1 t109 w λt111 _=>
 xt 2 t109 w λ_ _=>
 Cl prog 73 #[t111] w λt116 w=>
 Cl prog 22 #[t0,t91,t116] w λ_ w=>
 k4 w))
 (k4 w))
 (K (Iw 0) w)))))))
theorem Zei (h:Zd5 t0 t1 t2 w K):Cl prog 33 #[t0,t1,t2] w K:=
 ZML 119 [6] Tryz.func33 h
def Zdv (t0 t1:Value) (w:World) (K:KV):Prop:=
 lnS t0 w λt7 w=>
 lnS t1 w λt9 w=>
 bi .neq .i64 t7 t9 w λt10 w=>
 Zr t10
 (K (Value.bool false) w)
 (lp [(Iw 0)] w (b1 λt5 w g1=>
 lnS t0 w λt13 w=>
 bi .lss .i64 t5 t13 w λt14 w=>
 Zr t14
 (dr w λw=>
 ixS 7 t0 t5 w λt19 _=>
 ldN 7 t19 w λt20 _=>
 ixS 7 t1 t5 w λt23 _=>
 ldN 7 t23 w λt24 _=>
 bO prog .neq 100 (Operand.tmp 20) (Operand.tmp 24) t20 t24 w λt25 w=>
 Zr t25
 (K (Value.bool false) w)
 (bi .add .i64 t5 (Iw 1) w λt16 w=>
 g1 [t16] w))
 (K (Value.bool true) w)))
theorem Zd2 (h:Zdv t0 t1 w K):Cl prog 34 #[t0,t1] w K:=
 ZML 26 [4] Tryz.func34 h
def ZaZ (t0:Value) (w:World) (K:KV):Prop:=
 bO prog .eql 50 (Operand.tmp 3) (Operand.const (Value.slice none 0 0)) t0 (Value.slice none 0 0) w λt4 w=>
 Zr t4
 (K (Value.slice none 0 0) w)
 (bsl 84 8 0 #[] [] w λt5 w=>
 apS prog #[50,50] 50 t5 t0 w λt7 w=>
 K t7 w)
theorem ZbK (h:ZaZ t0 w K):Cl prog 35 #[t0] w K:=
 ZML 8 [2] Tryz.func35 h
def Zez (t0 t1:Value) (w:World) (K:KV):Prop:=
 al (Value.cells t1) 3 w λt3 w=>
 al (Zl prog 3) 3 w λt5 w=>
 stN 1 t5 (Iw 0) w λ_ w=>
 Cl prog 74 #[t0] w λt9 w=>
 rfW prog t9 2 (λl a w k=>
 al (Zl prog 84) 84 w λt7 w=>
 stN 8 t7 (a 1) w λ_ w=>
 bgn l w λw=>
 fld 0 t7 w λt12 w=>
 ld1 t12 w λt13 w=>
 bi .neq .i64 t13 (Iw 2) w λt14 w=>
 gd t14 true (λk=>fld 7 t7 w k) w λt16 w=>
 gd t14 true (λk=>ld1 t16 w k) w λt17 w=>
 gd t14 true (λk=>ld1 t3 w k) w λt18 w=>
 gd t14 true (λk=>bi .eql .i64 t17 t18 w k) w λt19 w=>
 pk t14 t19 (Value.bool false) w λt20 w=>
 Zr t20
 (ld1 t5 w λt21 w=>
 bi .add .i64 t21 (Iw 1) w λt22 w=>
 stN 1 t5 t22 w λ_ w=>
 edn l w k)
 (edn l w k)) w λD w=>
 ld1 t5 w λt23 w=>
 Zz7 D w λw=>
 K t23 w
theorem ZeT (h:Zez t0 t1 w K):Cl prog 36 #[t0,t1] w K:=
 Cl.mk (by kernel_rfl) (Zm6 (fn:=Tryz.f36) (nt:=24) (rs:=[4]) Zm Tryz.func36 (by kernel_rfl) (by kernel_rfl) (Nat.le_of_ble_eq_true (by kernel_rfl)) (by kernel_rfl) (by kernel_rfl) h)
def Zas (t0 t1:Value) (w:World) (K:KV):Prop:=
 Cl prog 75 #[t0,t1] w λt7 w=>
 bi .geq .i64 t7 (Iw 0) w λt8 w=>
 K t8 w
theorem Za8 (h:Zas t0 t1 w K):Cl prog 37 #[t0,t1] w K:=
 ZML 9 [4] Tryz.func37 h
def Zds (t0:Value) (w:World) (K:KV):Prop:=
 al (Value.cells t0) 84 w λt1 w=>
 fld 0 t1 w λt3 w=>
 ld1 t3 w λt4 w=>
 bi .neq .i64 t4 (Iw 2) w λt5 w=>
 K t5 w
theorem ZdX (h:Zds t0 w K):Cl prog 38 #[t0] w K:=
 ZML 6 [2] Tryz.func38 h
def Zfc (t0:Value) (w:World) (K:KV):Prop:=
 ncP t0<|
 fld 7 t0 w λt5 w=>
 ld1 t5 w λt6 w=>
 Cl prog 76 #[t6] w λt7 w=>
 K t7 w
theorem ZfZ (h:Zfc t0 w K):Cl prog 39 #[t0] w K:=
 ZML 8 [2] Tryz.func39 h
def Zkn (t0:Value) (w:World) (K:KV):Prop:=
 lnS t0 w λt7 w=>
 lp [(Iw 0)] w (b1 λt8 w g1=>
 bi .lss .i64 t8 t7 w λt9 w=>
 Zr t9
 (ixS 1 t0 t8 w λt10 w=>
 ld1 t10 w λt11 w=>
 clV prog t11 #[] w λt13 w=>
 bi .neq .i64 t13 (Iw 0) w λt15 w=>
 Zr t15
 (K t13 w)
 (bi .add .i64 t8 (Iw 1) w λt17 w=>
 g1 [t17] w))
 (K (Iw 0) w))
theorem ZiT (h:Zkn t0 w K):Cl prog 40 #[t0] w K:=
 ZML 18 [2] Tryz.func40 h
def Zhe (t0:Value) (w:World) (K:KV):Prop:=
 fld 0 t0 w λt2 w=>
 ld1 t2 w λt3 w=>
 Cl prog 42 #[t3] w λt4 w=>
 K t4 w
theorem ZgJ (h:Zhe t0 w K):Cl prog 41 #[t0] w K:=
 ZML 5 [1] Tryz.func41 h
def ZnC (t0:Value) (w:World) (K:KV):Prop:=
 lnS t0 w λt7 w=>
 bi .lss .i64 t7 (Iw 1) w λt9 w=>
 gd t9 false (λk=>k t7 w) w λt11 w=>
 gd t9 false (λk=>bi .gtr .i64 t11 (Iw 16) w k) w λt12 w=>
 pk t9 (Value.bool true) t12 w λt13 w=>
 Zr t13
 (K (Iw 50) w)
 (lnS t0 w λt15 w=>
 lp [(Iw 0)] w (b1 λt16 w g1=>
 bi .lss .i64 t16 t15 w λt17 w=>
 Zr t17
 (ixS 1 t0 t16 w λt19 w=>
 ld1 t19 w λt20 w=>
 bi .lss .i64 t20 (Iw (-1)) w λt22 w=>
 gd t22 false (λk=>k t20 w) w λt24 w=>
 gd t22 false (λk=>k t16 w) w λt25 w=>
 gd t22 false (λk=>bi .geq .i64 t24 t25 w k) w λt26 w=>
 pk t22 (Value.bool true) t26 w λt27 w=>
 Zr t27
 (K (Iw 50) w)
 (bi .add .i64 t16 (Iw 1) w λt28 w=>
 g1 [t28] w))
 (K (Iw 0) w)))
theorem Zk1 (h:ZnC t0 w K):Cl prog 42 #[t0] w K:=
 ZML 29 [2] Tryz.func42 h
def Ziv (t0 t1:Value) (w:World) (K:KV):Prop:=
 al (Value.cells t0) 4 w λt2 w=>
 al (Value.cells t1) 30 w λt3 w=>
 K (Value.func (Fn.func 77) #[] #[t2,t3]) w
theorem Zhy (h:Ziv t0 t1 w K):Cl prog 43 #[t0,t1] w K:=
 ZML 6 [4] Tryz.func43 h
def Zjk (t0 t1 t2:Value) (w:World) (K:KV):Prop:=
 bi .geq .i64 t0 t1 w λt9 w=>
 gd t9 true (λk=>k t0 w) w λt11 w=>
 gd t9 true (λk=>k t2 w) w λt12 w=>
 gd t9 true (λk=>bi .leq .i64 t11 t12 w k) w λt13 w=>
 pk t9 t13 (Value.bool false) w λt14 w=>
 K t14 w
theorem Zh6 (h:Zjk t0 t1 t2 w K):Cl prog 44 #[t0,t1,t2] w K:=
 ZML 15 [6] Tryz.func44 h
def ZnF (t0 t1:Value) (w:World) (K:KV):Prop:=
 al (Value.cells t0) 46 w λt2 w=>
 al (Value.cells t1) 3 w λt3 w=>
 dr w λw=>
 fld 0 t2 w λt11 _=>
 ld1 t11 w λt12 _=>
 fld 1 t2 w λt15 _=>
 ld1 t15 w λt16 _=>
 fld 2 t2 w λt19 _=>
 ld1 t19 w λt20 _=>
 fld 4 t2 w λt25 _=>
 ld1 t25 w λt26 _=>
 fld 6 t2 w λt36 _=>
 ld1 t36 w λt37 _=>
 lnS t37 w λt38 _=>
 bi .leq .i64 t38 (Iw 4) w λt39 _=>
 Cl prog 44 #[t12,(Iw 0),(Iw 1)] w λt13 w=>
 (ld1 t36 w (λv' w''=>v'=t37∧w''=w))∧((ld1 t25 w (λv' w''=>v'=t26∧w''=w))∧((ld1 t19 w (λv' w''=>v'=t20∧w''=w))∧((ld1 t15 w (λv' w''=>v'=t16∧w''=w))∧(Cl prog 43 #[t13,(Iw 1)] w λt14 w=>
 (ld1 t36 w (λv' w''=>v'=t37∧w''=w))∧((ld1 t25 w (λv' w''=>v'=t26∧w''=w))∧((ld1 t19 w (λv' w''=>v'=t20∧w''=w))∧((ld1 t15 w (λv' w''=>v'=t16∧w''=w))∧(Cl prog 44 #[t16,(Iw 1),(Iw 1048576)] w λt17 w=>
 (ld1 t36 w (λv' w''=>v'=t37∧w''=w))∧((ld1 t25 w (λv' w''=>v'=t26∧w''=w))∧((ld1 t19 w (λv' w''=>v'=t20∧w''=w))∧(Cl prog 43 #[t17,(Iw 80)] w λt18 w=>
 (ld1 t36 w (λv' w''=>v'=t37∧w''=w))∧((ld1 t25 w (λv' w''=>v'=t26∧w''=w))∧((ld1 t19 w (λv' w''=>v'=t20∧w''=w))∧(Cl prog 44 #[t20,(Iw 0),(Iw 7)] w λt21 w=>
 (ld1 t36 w (λv' w''=>v'=t37∧w''=w))∧((ld1 t25 w (λv' w''=>v'=t26∧w''=w))∧(Cl prog 43 #[t21,(Iw 70)] w λt22 w=>
 (ld1 t36 w (λv' w''=>v'=t37∧w''=w))∧((ld1 t25 w (λv' w''=>v'=t26∧w''=w))∧(clV prog (Value.func (Fn.func 78) #[] #[t3]) #[t26] w λt27 w=>
 (ld1 t36 w (λv' w''=>v'=t37∧w''=w))∧(gd t27 true (λk=>k (Value.func (Fn.func 78) #[] #[t3]) w) w λt29 _=>
 gd t27 true (λk=>fld 5 t2 w k) w λt30 _=>
 gd t27 true (λk=>ld1 t30 w k) w λt31 _=>
 gd t27 true (λk=>clV prog t29 #[t31] w k) w λt32 w=>
 (ld1 t36 w (λv' w''=>v'=t37∧w''=w))∧(pk t27 t32 (Value.bool false) w λt33 _=>
 Cl prog 43 #[t33,(Iw 81)] w λt34 w=>
 (ld1 t36 w (λv' w''=>v'=t37∧w''=w))∧(gd t39 true (λk=>fld 6 t2 w k) w λt41 _=>
 gd t39 true (λk=>ld1 t41 w k) w λt42 _=>
 gd t39 true (λk=>k (Value.func (Fn.func 81) #[] #[t2]) w) w λt43 _=>
 gd t39 true (λk=>Cl prog 84 #[t42,t43] w k) w λt44 w=>
 gd t39 true (λk=>Zb3 t44 w k) w λt45 _=>
 pk t39 t45 (Value.bool false) w λt46 _=>
 Cl prog 43 #[t46,(Iw 82)] w λt47 w=>
 bsl 91 1 7 (Zl prog 91) [(0,t14),(1,t18),(2,t22),(3,(Value.func (Fn.func 82) #[] #[t2])),(4,t34),(5,(Value.func (Fn.func 79) #[] #[t2,t3])),(6,t47)] w λt48 w=>
 Cl prog 40 #[t48] w λt49 w=>
 K t49 w)))))))))))))))))))))
theorem Zk6 (h:ZnF t0 t1 w K):Cl prog 45 #[t0,t1] w K:=
 ZML 50 [4] Tryz.func45 h
def ZpA (t0 t1:Value) (w:World) (K:KV):Prop:=
 bi .lss .i64 t0 (Iw 1) w λt9 w=>
 gd t9 false (λk=>k t0 w) w λt11 w=>
 gd t9 false (λk=>bi .gtr .i64 t11 (Iw 8) w k) w λt12 w=>
 pk t9 (Value.bool true) t12 w λt13 w=>
 gd t13 false (λk=>k t1 w) w λt15 w=>
 gd t13 false (λk=>bi .lss .i64 t15 (Iw 0) w k) w λt16 w=>
 pk t13 (Value.bool true) t16 w λt17 w=>
 gd t17 false (λk=>k t1 w) w λt19 w=>
 gd t17 false (λk=>k t0 w) w λt20 w=>
 gd t17 false (λk=>bi .geq .i64 t19 t20 w k) w λt21 w=>
 pk t17 (Value.bool true) t21 w λt22 w=>
 Zr t22
 (K (Value.tuple #[(Value.pointer none),(Iw 1)]) w)
 (ZlQ w λt23 w=>
 bld (Zl prog 174) #[(0,1),(1,1)] [(0,t23)] w λt24 w=>
 al (Value.cells t24) 174 w λt25 w=>
 lp [(Iw 0)] w (b1 λt27 w g1=>
 bi .lss .i64 t27 t0 w λt28 w=>
 Zr t28
 (J0 (λw=>
 bi .add .i64 t27 (Iw 1) w λt38 w=>
 g1 [t38] w) λk2=>
 bi .neq .i64 t27 t1 w λt32 w=>
 Zr t32
 (ncP t25<|
 fld 0 t25 w λt35 w=>
 ld1 t35 w λt36 w=>
 upM prog 134 t36 t27 (Iw 0) w λ_ w=>
 k2 w)
 (k2 w))
 (K (Value.tuple #[t25,(Iw 0)]) w)))
theorem Zlo (h:ZpA t0 t1 w K):Cl prog 46 #[t0,t1] w K:=
 ZML 40 [4,5] Tryz.func46 h
def Zso (t0:Value) (w:World) (K:KV):Prop:=
 mnI .i64 t0 (Iw 64) w λt4 w=>
 mxI .i64 (Iw 0) t4 w λt5 w=>
 ZlQ w λt6 w=>
 bld (Zl prog 177) #[(0,1),(1,1),(2,1)] [(0,t5),(2,t6)] w λt7 w=>
 al (Value.cells t7) 177 w λt8 w=>
 K t8 w
theorem Zm2 (h:Zso t0 w K):Cl prog 47 #[t0] w K:=
 ZML 9 [2] Tryz.func47 h
def ZnQ (t0:Value) (w:World) (K:KV):Prop:=
 al (Value.cells t0) 25 w λt1 w=>
 al (Zl prog 25) 25 w λt2 w=>
 fld 0 t1 w λt6 w=>
 ld1 t6 w λt7 w=>
 Cl prog 85 #[t7] w λt8 w=>
 fld 0 t1 w λt9 w=>
 stN 1 t9 t8 w λ_ w=>
 fld 1 t1 w λt10 w=>
 ld1 t10 w λt11 w=>
 Cl prog 86 #[t11] w λt12 w=>
 fld 1 t1 w λt13 w=>
 stN 1 t13 t12 w λ_ w=>
 fld 1 t1 w λt14 w=>
 ld1 t14 w λt15 w=>
 lnS t15 w λt16 w=>
 lp [(Iw 0)] w (b1 λt17 w g1=>
 bi .lss .i64 t17 t16 w λt18 w=>
 Zr t18
 (fld 1 t1 w λt20 w=>
 ld1 t20 w λt21 w=>
 ixS 7 t21 t17 w λt23 w=>
 dr w λw=>
 ncP t23<|
 fld 4 t23 w λt30 _=>
 ld1 t30 w λt31 _=>
 ncP t23<|
 fld 5 t23 w λt35 _=>
 ld1 t35 w λt36 _=>
 ncP t23<|
 fld 6 t23 w λt40 _=>
 ld1 t40 w λt41 _=>
 ncP t23<|
 fld 3 t23 w λt45 _=>
 ld1 t45 w λt46 _=>
 Cl prog 85 #[t31] w λt32 w=>
 (ld1 t45 w (λv' w''=>v'=t46∧w''=w))∧((ld1 t40 w (λv' w''=>v'=t41∧w''=w))∧((ld1 t35 w (λv' w''=>v'=t36∧w''=w))∧(Cl prog 85 #[t36] w λt37 w=>
 (ld1 t45 w (λv' w''=>v'=t46∧w''=w))∧((ld1 t40 w (λv' w''=>v'=t41∧w''=w))∧(Cl prog 87 #[t41] w λt42 w=>
 (ld1 t45 w (λv' w''=>v'=t46∧w''=w))∧(Cl prog 88 #[t46] w λt47 w=>
 ncP t23<|
 fld 4 t23 w λt49 _=>
 stN 1 t49 t32 w λ_ w=>
 ncP t23<|
 fld 5 t23 w λt51 _=>
 stN 1 t51 t37 w λ_ w=>
 ncP t23<|
 fld 6 t23 w λt53 _=>
 stN 1 t53 t42 w λ_ w=>
 ncP t23<|
 fld 3 t23 w λt55 _=>
 stN 1 t55 t47 w λ_ w=>
 ncP t23<|
 fld 3 t23 w λt58 w=>
 ld1 t58 w λt59 w=>
 lnS t59 w λt60 w=>
 lp [(Iw 0)] w (b1 λt61 w g2=>
 bi .lss .i64 t61 t60 w λt62 w=>
 Zr t62
 (dr w λw=>
 ncP t23<|
 fld 3 t23 w λt66 _=>
 ld1 t66 w λt67 _=>
 ncP t23<|
 fld 3 t23 w λt71 _=>
 ld1 t71 w λt72 _=>
 ixS 4 t72 t61 w λt74 _=>
 fld 3 t74 w λt75 _=>
 ld1 t75 w λt76 _=>
 Cl prog 87 #[t76] w λt77 w=>
 (ld1 t66 w (λv' w''=>v'=t67∧w''=w))∧(ixS 4 t67 t61 w λt78 _=>
 fld 3 t78 w λt79 _=>
 stN 1 t79 t77 w λ_ w=>
 bi .add .i64 t61 (Iw 1) w λt80 w=>
 g2 [t80] w))
 (bi .add .i64 t17 (Iw 1) w λt81 w=>
 g1 [t81] w)))))))))
 (ldN 3 t1 w λt82 w=>
 stN 3 t2 t82 w λ_ w=>
 ldN 3 t2 w λr0 _=>
 K r0 w))
theorem ZkZ (h:ZnQ t0 w K):Cl prog 48 #[t0] w K:=
 ZMM 83 [(2,some 25)] Tryz.func48 h
def ZlG (t0:Value) (w:World) (K:KV):Prop:=
 al (Value.cells t0) 25 w λt1 w=>
 al (Zl prog 25) 25 w λt2 w=>
 fld 0 t1 w λt6 w=>
 ld1 t6 w λt7 w=>
 Cl prog 85 #[t7] w λt8 w=>
 fld 0 t1 w λt9 w=>
 stN 1 t9 t8 w λ_ w=>
 fld 1 t1 w λt10 w=>
 ld1 t10 w λt11 w=>
 Cl prog 86 #[t11] w λt12 w=>
 fld 1 t1 w λt13 w=>
 stN 1 t13 t12 w λ_ w=>
 fld 1 t1 w λt14 w=>
 ld1 t14 w λt15 w=>
 lnS t15 w λt16 w=>
 lp [(Iw 0)] w (b1 λt17 w g1=>
 bi .lss .i64 t17 t16 w λt18 w=>
 Zr t18
 (fld 1 t1 w λt20 w=>
 ld1 t20 w λt21 w=>
 ixS 7 t21 t17 w λt23 w=>
 dr w λw=>
 ncP t23<|
 fld 4 t23 w λt30 _=>
 ld1 t30 w λt31 _=>
 ncP t23<|
 fld 5 t23 w λt35 _=>
 ld1 t35 w λt36 _=>
 ncP t23<|
 fld 6 t23 w λt40 _=>
 ld1 t40 w λt41 _=>
 ncP t23<|
 fld 3 t23 w λt45 _=>
 ld1 t45 w λt46 _=>
 Cl prog 85 #[t31] w λt32 w=>
 (ld1 t45 w (λv' w''=>v'=t46∧w''=w))∧((ld1 t40 w (λv' w''=>v'=t41∧w''=w))∧((ld1 t35 w (λv' w''=>v'=t36∧w''=w))∧(Cl prog 85 #[t36] w λt37 w=>
 (ld1 t45 w (λv' w''=>v'=t46∧w''=w))∧((ld1 t40 w (λv' w''=>v'=t41∧w''=w))∧(Cl prog 87 #[t41] w λt42 w=>
 (ld1 t45 w (λv' w''=>v'=t46∧w''=w))∧(Cl prog 88 #[t46] w λt47 w=>
 ncP t23<|
 fld 4 t23 w λt49 _=>
 stN 1 t49 t32 w λ_ w=>
 ncP t23<|
 fld 5 t23 w λt51 _=>
 stN 1 t51 t37 w λ_ w=>
 ncP t23<|
 fld 6 t23 w λt53 _=>
 stN 1 t53 t42 w λ_ w=>
 ncP t23<|
 fld 3 t23 w λt55 _=>
 stN 1 t55 t47 w λ_ w=>
 ncP t23<|
 fld 3 t23 w λt58 w=>
 ld1 t58 w λt59 w=>
 lnS t59 w λt60 w=>
 lp [(Iw 0)] w (b1 λt61 w g2=>
 bi .lss .i64 t61 t60 w λt62 w=>
 Zr t62
 (dr w λw=>
 ncP t23<|
 fld 3 t23 w λt66 _=>
 ld1 t66 w λt67 _=>
 ncP t23<|
 fld 3 t23 w λt71 _=>
 ld1 t71 w λt72 _=>
 ixS 4 t72 t61 w λt74 _=>
 fld 3 t74 w λt75 _=>
 ld1 t75 w λt76 _=>
 Cl prog 87 #[t76] w λt77 w=>
 (ld1 t66 w (λv' w''=>v'=t67∧w''=w))∧(ixS 4 t67 t61 w λt78 _=>
 fld 3 t78 w λt79 _=>
 stN 1 t79 t77 w λ_ w=>
 bi .add .i64 t61 (Iw 1) w λt80 w=>
 g2 [t80] w))
 (bi .add .i64 t17 (Iw 1) w λt81 w=>
 g1 [t81] w)))))))))
 (ldN 3 t1 w λt82 w=>
 stN 3 t2 t82 w λ_ w=>
 ldN 3 t2 w λr0 _=>
 K r0 w))
theorem Zj5 (h:ZlG t0 w K):Cl prog 49 #[t0] w K:=
 ZMM 83 [(2,some 25)] Tryz.func49 h
def ZrX (w:World) (K:KV):Prop:=
 bld (Zl prog 185) #[(0,1),(1,1)] [] w λt1 w=>
 al (Value.cells t1) 185 w λt2 w=>
 K t2 w
theorem ZmL (h:ZrX w K):Cl prog 50 #[] w K:=
 ZML 3 [0] Tryz.func50 h
def Zsc (w:World) (K:KV):Prop:=
 bld (Zl prog 188) #[(0,1),(1,1)] [] w λt1 w=>
 al (Value.cells t1) 188 w λt2 w=>
 K t2 w
theorem ZmT (h:Zsc w K):Cl prog 51 #[] w K:=
 ZML 3 [0] Tryz.func51 h
def ZiW (t0 t1 t2 t3 t4 t5:Value) (w:World) (K:KV):Prop:=
 al (Value.cells t0) 25 w λt6 w=>
 lnS t5 w λt20 w=>
 lp [(Value.slice none 0 0),(Iw 0)] w (b2 λt13 t21 w g1=>
 bi .lss .i64 t21 t20 w λt22 w=>
 Zr t22
 (ixS 3 t5 t21 w λt24 w=>
 ldN 3 t24 w λt25 w=>
 al (Zl prog 102) 102 w λt15 w=>
 stN 3 t15 t25 w λ_ w=>
 bi .add .i64 t2 t21 w λt29 w=>
 ldN 3 t15 w λt32 w=>
 Cl prog 89 #[t1,t29,t3,t4,t32] w λt33 w=>
 al (Zl prog 81) 81 w λt16 w=>
 stN 6 t16 t33 w λ_ w=>
 ldN 3 t6 w λt34 w=>
 fld 4 t16 w λt36 w=>
 ld1 t36 w λt37 w=>
 Cl prog 90 #[t34,t1,t37] w λt38 w=>
 lnS t38 w λt39 w=>
 lp [t13,(Iw 0)] w (b2 λt13_1 t40 w g2=>
 bi .lss .i64 t40 t39 w λt41 w=>
 Zr t41
 (ixS 1 t38 t40 w λt42 w=>
 ld1 t42 w λt43 w=>
 fld 3 t16 w λt45 w=>
 stN 1 t45 t43 w λ_ w=>
 ldN 6 t16 w λt47 w=>
 bsl 81 6 1 (Zl prog 81) [(0,t47)] w λt48 w=>
 apS prog #[76,76] 76 t13_1 t48 w λt49 w=>
 bi .add .i64 t40 (Iw 1) w λt50 w=>
 g2 [t49,t50] w)
 (bi .add .i64 t21 (Iw 1) w λt51 w=>
 g1 [t13_1,t51] w)))
 (K t13 w))
theorem Zht (h:ZiW t0 t1 t2 t3 t4 t5 w K):Cl prog 52 #[t0,t1,t2,t3,t4,t5] w K:=
 ZML 53 [12] Tryz.func52 h
def ZJN (t0:Value) (w:World) (K:KV):Prop:=
 al (Value.cells t0) 25 w λt1 w=>
 fld 0 t1 w λt7 w=>
 ld1 t7 w λt8 w=>
 Cl prog 91 #[t8] w λt9 w=>
 bi .neq .i64 t9 (Iw 0) w λt11 w=>
 Zr t11
 (K (Value.tuple #[(Iw (-1)),t9]) w)
 (fld 2 t1 w λt13 w=>
 ld1 t13 w λt14 w=>
 bi .lss .i64 t14 (Iw 0) w λt15 w=>
 gd t15 false (λk=>fld 2 t1 w k) w λt17 w=>
 gd t15 false (λk=>ld1 t17 w k) w λt18 w=>
 gd t15 false (λk=>bi .gtr .i64 t18 (Iw 1099511627776) w k) w λt19 w=>
 pk t15 (Value.bool true) t19 w λt20 w=>
 gd t20 false (λk=>fld 1 t1 w k) w λt22 w=>
 gd t20 false (λk=>ld1 t22 w k) w λt23 w=>
 gd t20 false (λk=>lnS t23 w k) w λt24 w=>
 gd t20 false (λk=>bi .lss .i64 t24 (Iw 1) w k) w λt25 w=>
 pk t20 (Value.bool true) t25 w λt26 w=>
 gd t26 false (λk=>fld 1 t1 w k) w λt28 w=>
 gd t26 false (λk=>ld1 t28 w k) w λt29 w=>
 gd t26 false (λk=>lnS t29 w k) w λt30 w=>
 gd t26 false (λk=>bi .gtr .i64 t30 (Iw 8) w k) w λt31 w=>
 pk t26 (Value.bool true) t31 w λt32 w=>
 Zr t32
 (K (Value.tuple #[(Iw (-1)),(Iw 1)]) w)
 (lp [(Iw 0)] w (b1 λt5 w g1=>
 fld 1 t1 w λt34 w=>
 ld1 t34 w λt35 w=>
 lnS t35 w λt36 w=>
 bi .lss .i64 t5 t36 w λt37 w=>
 Zr t37
 (dr w λw=>
 fld 1 t1 w λt40 _=>
 ld1 t40 w λt41 _=>
 ixS 7 t41 t5 w λt43 _=>
 ldN 7 t43 w λt44 _=>
 fld 0 t1 w λt45 _=>
 ld1 t45 w λt46 _=>
 lnS t46 w λt47 _=>
 Cl prog 92 #[t44,t47] w λt48 w=>
 bi .neq .i64 t48 (Iw 0) w λt50 w=>
 Zr t50
 (K (Value.tuple #[t5,t48]) w)
 (bi .add .i64 t5 (Iw 1) w λt39 w=>
 g1 [t39] w))
 (K (Value.tuple #[(Iw (-1)),(Iw 0)]) w))))
theorem ZJY (h:ZJN t0 w K):Cl prog 53 #[t0] w K:=
 ZML 53 [2,3] Tryz.func53 h
def ZJ5 (t0 t1:Value) (w:World) (K:KV):Prop:=
 lp [t0,(Iw 0)] w (b2 λt0_1 t5 w g1=>
 lnS t1 w λt11 w=>
 bi .lss .i64 t5 t11 w λt12 w=>
 Zr t12
 (bsl 81 6 0 #[] [] w λt15 w=>
 lp [t15,(Value.bool false),(Iw 0)] w (b3 λt6 t7 t8 w g2=>
 lnS t0_1 w λt18 w=>
 bi .lss .i64 t8 t18 w λt19 w=>
 Zr t19
 (dr w λw=>
 Zb3 t7 w λt23 _=>
 gd t23 true (λk=>k t1 w) w λt25 _=>
 gd t23 true (λk=>k t5 w) w λt26 _=>
 gd t23 true (λk=>ixS 6 t25 t26 w k) w λt27 _=>
 gd t23 true (λk=>ldN 6 t27 w k) w λt28 _=>
 gd t23 true (λk=>k t0_1 w) w λt29 _=>
 gd t23 true (λk=>k t8 w) w λt30 _=>
 gd t23 true (λk=>ixS 6 t29 t30 w k) w λt31 _=>
 gd t23 true (λk=>ldN 6 t31 w k) w λt32 _=>
 gd t23 true (λk=>Cl prog 93 #[t28,t32] w k) w λt33 w=>
 pk t23 t33 (Value.bool false) w λt34 _=>
 J2 (λt6_1 t7_1 w=>
 ixS 6 t0_1 t8 w λt45 w=>
 ldN 6 t45 w λt46 w=>
 bsl 81 6 1 (Zl prog 81) [(0,t46)] w λt47 w=>
 apS prog #[76,76] 76 t6_1 t47 w λt48 w=>
 bi .add .i64 t8 (Iw 1) w λt21 w=>
 g2 [t48,t7_1,t21] w) λk3=>
 Zr t34
 (ixS 6 t1 t5 w λt38 w=>
 ldN 6 t38 w λt39 w=>
 bsl 81 6 1 (Zl prog 81) [(0,t39)] w λt40 w=>
 apS prog #[76,76] 76 t6 t40 w λt41 w=>
 k3 t41 (Value.bool true) w)
 (k3 t6 t7 w))
 (Zb3 t7 w λt50 w=>
 J1 (λt6_2 w=>
 bi .add .i64 t5 (Iw 1) w λt14 w=>
 g1 [t6_2,t14] w) λk4=>
 Zr t50
 (ixS 6 t1 t5 w λt54 w=>
 ldN 6 t54 w λt55 w=>
 bsl 81 6 1 (Zl prog 81) [(0,t55)] w λt56 w=>
 apS prog #[76,76] 76 t6 t56 w λt57 w=>
 k4 t57 w)
 (k4 t6 w))))
 (K t0_1 w))
theorem ZKj (h:ZJ5 t0 t1 w K):Cl prog 54 #[t0,t1] w K:=
 ZML 60 [4] Tryz.func54 h
def ZJB (t0:Value) (w:World) (K:KV):Prop:=
 al (Value.cells t0) 25 w λt1 w=>
 bsl 81 6 0 #[] [] w λt5 w=>
 lp [t5,(Iw 0)] w (b2 λt3 t4 w g1=>
 fld 1 t1 w λt7 w=>
 ld1 t7 w λt8 w=>
 lnS t8 w λt9 w=>
 bi .lss .i64 t4 t9 w λt10 w=>
 Zr t10
 (dr w λw=>
 ldN 3 t1 w λt14 _=>
 fld 1 t1 w λt16 _=>
 ld1 t16 w λt17 _=>
 ixS 7 t17 t4 w λt19 _=>
 fld 6 t19 w λt20 _=>
 ld1 t20 w λt21 _=>
 Cl prog 94 #[t14,t4,(Iw 0),(Iw 0),(Iw 0),t21] w λt22 w=>
 apS prog #[76,76] 76 t3 t22 w λt23 w=>
 bi .add .i64 t4 (Iw 1) w λt12 w=>
 g1 [t23,t12] w)
 (K t3 w))
theorem ZJO (h:ZJB t0 w K):Cl prog 55 #[t0] w K:=
 ZML 25 [2] Tryz.func55 h
def ZJs (t0:Value) (w:World) (K:KV):Prop:=
 al (Zl prog 100) 100 w λt2 w=>
 dr w λw=>
 ncP t0<|
 fld 5 t0 w λt12 _=>
 ld1 t12 w λt13 _=>
 lnS t13 w λt14 _=>
 bi .eql .i64 t14 (Iw 0) w λt15 _=>
 gd t15 false (λk=>k t0 w) w λt17 _=>
 gd t15 false (λk=>nc t17 w k) w λt18 _=>
 gd t15 false (λk=>fld 5 t18 w k) w λt19 _=>
 gd t15 false (λk=>ld1 t19 w k) w λt20 _=>
 gd t15 false (λk=>ixS 6 t20 (Iw 0) w k) w λt21 _=>
 gd t15 false (λk=>fld 0 t21 w k) w λt22 _=>
 gd t15 false (λk=>fld 0 t22 w k) w λt23 _=>
 gd t15 false (λk=>ld1 t23 w k) w λt24 _=>
 gd t15 false (λk=>k t0 w) w λt25 _=>
 gd t15 false (λk=>nc t25 w k) w λt26 _=>
 gd t15 false (λk=>fld 0 t26 w k) w λt27 _=>
 gd t15 false (λk=>fld 2 t27 w k) w λt28 _=>
 gd t15 false (λk=>ld1 t28 w k) w λt29 _=>
 gd t15 false (λk=>bi .geq .i64 t24 t29 w k) w λt30 _=>
 pk t15 (Value.bool true) t30 w λt31 _=>
 Zr t31
 (bld (Zl prog 100) #[(0,6),(6,1)] [] w λt32 w=>
 stN 7 t2 t32 w λ_ w=>
 ldN 7 t2 w λr0 _=>
 K (Value.tuple #[r0,(Value.bool false)]) w)
 (ncP t0<|
 fld 5 t0 w λt35 w=>
 ld1 t35 w λt36 w=>
 ixS 6 t36 (Iw 0) w λt37 w=>
 ldN 6 t37 w λt38 w=>
 al (Zl prog 81) 81 w λt4 w=>
 stN 6 t4 t38 w λ_ w=>
 bsl 81 6 0 #[] [] w λt39 w=>
 ncP t0<|
 fld 5 t0 w λt43 w=>
 ld1 t43 w λt44 w=>
 slc 6 t44 (some (Iw 1)) none w λt45 w=>
 apS prog #[76,76] 76 t39 t45 w λt46 w=>
 fld 3 t4 w λt47 w=>
 ld1 t47 w λt48 w=>
 dr w λw=>
 ncP t0<|
 fld 0 t0 w λt52 _=>
 fld 1 t52 w λt53 _=>
 ld1 t53 w λt54 _=>
 ixS 7 t54 t48 w λt56 _=>
 fld 3 t56 w λt57 _=>
 ld1 t57 w λt58 _=>
 ncP t0<|
 fld 3 t0 w λt61 _=>
 ld1 t61 w λt62 _=>
 ixS 1 t62 t48 w λt64 _=>
 ld1 t64 w λt65 _=>
 fld 4 t4 w λt66 _=>
 ld1 t66 w λt67 _=>
 Cl prog 95 #[t58,t65,t67] w λt68 w=>
 xt 0 t68 w λt69 _=>
 xt 1 t68 w λt70 _=>
 ncP t0<|
 fld 3 t0 w λt73 w=>
 ld1 t73 w λt74 w=>
 ixS 1 t74 t48 w λt77 w=>
 stN 1 t77 t69 w λ_ w=>
 dr w λw=>
 ncP t0<|
 fld 0 t0 w λt82 _=>
 ldN 3 t82 w λt83 _=>
 ncP t0<|
 fld 4 t0 w λt87 _=>
 ld1 t87 w λt88 _=>
 ixS 1 t88 t48 w λt90 _=>
 ld1 t90 w λt91 _=>
 fld 0 t4 w λt92 _=>
 fld 0 t92 w λt93 _=>
 ld1 t93 w λt94 _=>
 fld 5 t4 w λt95 _=>
 ld1 t95 w λt96 _=>
 Cl prog 94 #[t83,t48,t91,t94,t96,t70] w λt98 w=>
 Cl prog 54 #[t46,t98] w λt99 w=>
 ncP t0<|
 fld 5 t0 w λt101 _=>
 stN 1 t101 t99 w λ_ w=>
 dr w λw=>
 ncP t0<|
 fld 4 t0 w λt104 _=>
 ld1 t104 w λt105 _=>
 ncP t0<|
 fld 4 t0 w λt109 _=>
 ld1 t109 w λt110 _=>
 ixS 1 t110 t48 w λt112 _=>
 ld1 t112 w λt113 _=>
 lnS t70 w λt115 _=>
 bi .add .i64 t113 t115 w λt116 _=>
 ixS 1 t105 t48 w λt117 _=>
 stN 1 t117 t116 w λ_ w=>
 ldN 6 t4 w λt118 w=>
 bld (Zl prog 100) #[(0,6),(6,1)] [(0,t118),(1,t69)] w λt120 w=>
 al (Zl prog 100) 100 w λt9 w=>
 stN 7 t9 t120 w λ_ w=>
 dr w λw=>
 ncP t0<|
 fld 6 t0 w λt124 _=>
 ld1 t124 w λt125 _=>
 ldN 7 t9 w λt126 _=>
 bsl 100 7 1 (Zl prog 100) [(0,t126)] w λt127 w=>
 (ld1 t124 w (λv' w''=>v'=t125∧w''=w))∧(apS prog #[40,40] 40 t125 t127 w λt128 w=>
 ncP t0<|
 fld 6 t0 w λt130 _=>
 stN 1 t130 t128 w λ_ w=>
 ldN 7 t9 w λt131 w=>
 stN 7 t2 t131 w λ_ w=>
 ldN 7 t2 w λr0 _=>
 K (Value.tuple #[r0,(Value.bool true)]) w))
theorem ZJD (h:ZJs t0 w K):Cl prog 56 #[t0] w K:=
 ZMM 132 [(2,some 100),(3,none)] Tryz.func56 h
def Zi1 (t0 t1 t2:Value) (w:World) (K:KV):Prop:=
 Cl prog 96 #[t0,t1,t2] w λt11 w=>
 bn .neq t11 w λt13 w=>
 Zr t13
 (dr w λw=>
 ncP t0<|
 fld 1 t0 w λt16 _=>
 ld1 t16 w λt17 _=>
 ncP t11<|
 fld 129 t11 w λt20 _=>
 ld1 t20 w λt21 _=>
 bi .sub .i64 t17 t21 w λt22 _=>
 K t22 w)
 (K (Iw 0) w)
theorem ZhN (h:Zi1 t0 t1 t2 w K):Cl prog 57 #[t0,t1,t2] w K:=
 ZML 23 [6] Tryz.func57 h
def ZfB (t0 t1 t2 t3:Value) (w:World) (K:KV):Prop:=
 al (Value.cells t3) 84 w λt7 w=>
 Cl prog 31 #[t0,t1] w λt15 w=>
 Cl prog 31 #[t0,t2] w λt18 w=>
 fld 0 t7 w λt21 w=>
 ld1 t21 w λt22 w=>
 bi .neq .i64 t22 (Iw 2) w λt23 w=>
 gd t23 true (λk=>k t15 w) w λt25 w=>
 gd t23 true (λk=>bn .neq t25 w k) w λt26 w=>
 pk t23 t26 (Value.bool false) w λt27 w=>
 gd t27 true (λk=>k t18 w) w λt29 w=>
 gd t27 true (λk=>bn .neq t29 w k) w λt30 w=>
 pk t27 t30 (Value.bool false) w λt31 w=>
 K (Value.tuple #[t15,t18,t31]) w
theorem ZfP (h:ZfB t0 t1 t2 t3 w K):Cl prog 58 #[t0,t1,t2,t3] w K:=
 ZML 32 [8,9,10] Tryz.func58 h
def ZkR (t0 t1 t2:Value) (w:World) (K:KV):Prop:=
 Cl prog 65 #[t0,t1] w λt11 w=>
 Zb3 t11 w λt12 w=>
 gd t12 false (λk=>k t2 w) w λt14 w=>
 gd t12 false (λk=>Cl prog 97 #[t14] w k) w λt15 w=>
 gd t12 false (λk=>Zb3 t15 w k) w λt16 w=>
 pk t12 (Value.bool true) t16 w λt17 w=>
 Zr t17
 (K (Value.tuple #[(Iw 0),(Iw 1)]) w)
 (Cl prog 98 #[t0,t1] w λt20 w=>
 dr w λw=>
 ncP t0<|
 fld 19 t0 w λt24 _=>
 ixA 2 1 t24 t20 w λt25 _=>
 ld1 t25 w λt26 _=>
 bi .add .i64 t26 (Iw 1) w λt27 _=>
 ncP t0<|
 fld 19 t0 w λt29 _=>
 ixA 2 1 t29 t20 w λt30 _=>
 stN 1 t30 t27 w λ_ w=>
 dr w λw=>
 Cl prog 64 #[t0] w λt32 w=>
 gd t32 true (λk=>k t0 w) w λt34 _=>
 gd t32 true (λk=>k t1 w) w λt35 _=>
 gd t32 true (λk=>nc t34 w k) w λt36 _=>
 gd t32 true (λk=>fld 3 t36 w k) w λt37 _=>
 gd t32 true (λk=>ixA 8 2 t37 t35 w k) w λt38 _=>
 gd t32 true (λk=>ldN 2 t38 w k) w λt39 _=>
 gd t32 true (λk=>k t0 w) w λt40 _=>
 gd t32 true (λk=>nc t40 w k) w λt41 _=>
 gd t32 true (λk=>fld 1 t41 w k) w λt42 _=>
 gd t32 true (λk=>ld1 t42 w k) w λt43 _=>
 gd t32 true (λk=>Cl prog 66 #[t39,t43] w k) w λt44 w=>
 pk t32 t44 (Value.bool false) w λt45 _=>
 J0 (λw=>
 K (Value.tuple #[t20,(Iw 0)]) w) λk1=>
 Zr t45
 (ncP t0<|
 fld 21 t0 w λt49 w=>
 ld1 t49 w λt50 w=>
 mnI .i64 t50 t2 w λt52 w=>
 ncP t0<|
 fld 21 t0 w λt54 w=>
 stN 1 t54 t52 w λ_ w=>
 k1 w)
 (k1 w))
theorem Zjy (h:ZkR t0 t1 t2 w K):Cl prog 59 #[t0,t1,t2] w K:=
 ZML 56 [6,7] Tryz.func59 h
def Ziw (t0 t1 t2 t3:Value) (w:World) (K:KV):Prop:=
 al (Value.cells t3) 84 w λt7 w=>
 Cl prog 96 #[t0,t1,t2] w λt13 w=>
 bn .eql t13 w λt16 w=>
 gd t16 false (λk=>fld 0 t7 w k) w λt18 w=>
 gd t16 false (λk=>ld1 t18 w k) w λt19 w=>
 gd t16 false (λk=>bi .lss .i64 t19 (Iw 0) w k) w λt20 w=>
 pk t16 (Value.bool true) t20 w λt21 w=>
 gd t21 false (λk=>fld 0 t7 w k) w λt23 w=>
 gd t21 false (λk=>ld1 t23 w k) w λt24 w=>
 gd t21 false (λk=>bi .gtr .i64 t24 (Iw 2) w k) w λt25 w=>
 pk t21 (Value.bool true) t25 w λt26 w=>
 gd t26 false (λk=>fld 7 t7 w k) w λt28 w=>
 gd t26 false (λk=>ld1 t28 w k) w λt29 w=>
 gd t26 false (λk=>bO prog .shr 3 (Operand.tmp 29) (Operand.const (Value.int IntKind.u64 1)) t29 (Value.int IntKind.u64 1) w k) w λt30 w=>
 gd t26 false (λk=>bi .neq .i64 t30 (Iw 0) w k) w λt31 w=>
 pk t26 (Value.bool true) t31 w λt32 w=>
 Zr t32
 (K (Iw 1) w)
 (dr w λw=>
 ncP t13<|
 fld 129 t13 w λt36 _=>
 ld1 t36 w λt37 _=>
 ncP t0<|
 fld 1 t0 w λt40 _=>
 ld1 t40 w λt41 _=>
 bi .eql .i64 t37 t41 w λt42 _=>
 Zr t42
 (K (Iw 2) w)
 (dr w λw=>
 ncP t13<|
 fld 128 t13 w λt46 _=>
 ld1 t46 w λt47 _=>
 ncP t13<|
 fld 129 t13 w λt50 _=>
 ld1 t50 w λt51 _=>
 bi .add .i64 t47 t51 w λt52 _=>
 bi .rem .i64 t52 (Iw 16) w λt53 _=>
 ldN 8 t7 w λt54 _=>
 ncP t13<|
 fld 0 t13 w λt56 _=>
 ixA 16 8 t56 t53 w λt57 _=>
 stN 8 t57 t54 w λ_ w=>
 ncP t13<|
 fld 129 t13 w λt60 w=>
 ld1 t60 w λt61 w=>
 bi .add .i64 t61 (Iw 1) w λt62 w=>
 ncP t13<|
 fld 129 t13 w λt64 w=>
 stN 1 t64 t62 w λ_ w=>
 K (Iw 0) w))
theorem ZhI (h:Ziw t0 t1 t2 t3 w K):Cl prog 60 #[t0,t1,t2,t3] w K:=
 ZML 65 [8] Tryz.func60 h
def ZdK (t0 t1 t2:Value) (w:World) (K:KV):Prop:=
 al (Zl prog 84) 84 w λt6 w=>
 Cl prog 96 #[t0,t1,t2] w λt12 w=>
 bn .eql t12 w λt14 w=>
 gd t14 false (λk=>k t12 w) w λt16 w=>
 gd t14 false (λk=>nc t16 w k) w λt17 w=>
 gd t14 false (λk=>fld 129 t17 w k) w λt18 w=>
 gd t14 false (λk=>ld1 t18 w k) w λt19 w=>
 gd t14 false (λk=>bi .eql .i64 t19 (Iw 0) w k) w λt20 w=>
 pk t14 (Value.bool true) t20 w λt21 w=>
 Zr t21
 (bld (Zl prog 84) #[(0,1),(1,6),(7,1)] [] w λt22 w=>
 stN 8 t6 t22 w λ_ w=>
 ldN 8 t6 w λr0 _=>
 K (Value.tuple #[r0,(Value.bool false)]) w)
 (dr w λw=>
 ncP t12<|
 fld 128 t12 w λt26 _=>
 ld1 t26 w λt27 _=>
 ncP t12<|
 fld 0 t12 w λt29 _=>
 ixA 16 8 t29 t27 w λt30 _=>
 ldN 8 t30 w λt31 _=>
 stN 8 t6 t31 w λ_ w=>
 ldN 8 t6 w λr0 _=>
 K (Value.tuple #[r0,(Value.bool true)]) w)
theorem ZcH (h:ZdK t0 t1 t2 w K):Cl prog 61 #[t0,t1,t2] w K:=
 ZMM 32 [(6,some 84),(7,none)] Tryz.func61 h
def ZiP (t0 t1 t2:Value) (w:World) (K:KV):Prop:=
 al (Zl prog 84) 84 w λt6 w=>
 Cl prog 61 #[t0,t1,t2] w λt15 w=>
 xt 0 t15 w λt16 w=>
 xt 1 t15 w λt17 w=>
 al (Zl prog 84) 84 w λt8 w=>
 stN 8 t8 t16 w λ_ w=>
 J0 (λw=>
 ldN 8 t8 w λt39 w=>
 stN 8 t6 t39 w λ_ w=>
 ldN 8 t6 w λr0 _=>
 K (Value.tuple #[r0,t17]) w) λk1=>
 Zr t17
 (Cl prog 96 #[t0,t1,t2] w λt22 w=>
 ncP t22<|
 fld 128 t22 w λt26 w=>
 ld1 t26 w λt27 w=>
 bi .add .i64 t27 (Iw 1) w λt28 w=>
 bi .rem .i64 t28 (Iw 16) w λt29 w=>
 ncP t22<|
 fld 128 t22 w λt31 w=>
 stN 1 t31 t29 w λ_ w=>
 ncP t22<|
 fld 129 t22 w λt34 w=>
 ld1 t34 w λt35 w=>
 bi .sub .i64 t35 (Iw 1) w λt36 w=>
 ncP t22<|
 fld 129 t22 w λt38 w=>
 stN 1 t38 t36 w λ_ w=>
 k1 w)
 (k1 w)
theorem ZhB (h:ZiP t0 t1 t2 w K):Cl prog 62 #[t0,t1,t2] w K:=
 ZMM 41 [(6,some 84),(7,none)] Tryz.func62 h
def ZmI (t0 t1 t2:Value) (w:World) (K:KV):Prop:=
 Cl prog 65 #[t0,t1] w λt9 w=>
 Zb3 t9 w λt10 w=>
 gd t10 false (λk=>k t2 w) w λt12 w=>
 gd t10 false (λk=>bO prog .shr 3 (Operand.tmp 12) (Operand.const (Value.int IntKind.u64 1)) t12 (Value.int IntKind.u64 1) w k) w λt13 w=>
 gd t10 false (λk=>bi .neq .i64 t13 (Iw 0) w k) w λt14 w=>
 pk t10 (Value.bool true) t14 w λt15 w=>
 gd t15 false (λk=>k t0 w) w λt17 w=>
 gd t15 false (λk=>k t2 w) w λt18 w=>
 gd t15 false (λk=>nc t17 w k) w λt19 w=>
 gd t15 false (λk=>fld 19 t19 w k) w λt20 w=>
 gd t15 false (λk=>ixA 2 1 t20 t18 w k) w λt21 w=>
 gd t15 false (λk=>ld1 t21 w k) w λt22 w=>
 gd t15 false (λk=>bi .eql .i64 t22 (Iw 0) w k) w λt23 w=>
 pk t15 (Value.bool true) t23 w λt24 w=>
 Zr t24
 (K (Iw 1) w)
 (dr w λw=>
 ncP t0<|
 fld 19 t0 w λt28 _=>
 ixA 2 1 t28 t2 w λt29 _=>
 ld1 t29 w λt30 _=>
 bi .sub .i64 t30 (Iw 1) w λt31 _=>
 ncP t0<|
 fld 19 t0 w λt33 _=>
 ixA 2 1 t33 t2 w λt34 _=>
 stN 1 t34 t31 w λ_ w=>
 K (Iw 0) w)
theorem ZjO (h:ZmI t0 t1 t2 w K):Cl prog 63 #[t0,t1,t2] w K:=
 ZML 35 [6] Tryz.func63 h
def Zjj (t0:Value) (w:World) (K:KV):Prop:=
 dr w λw=>
 ncP t0<|
 fld 1 t0 w λt5 _=>
 ld1 t5 w λt6 _=>
 ncP t0<|
 fld 2 t0 w λt9 _=>
 ld1 t9 w λt10 _=>
 bi .gtr .i64 t6 t10 w λt11 _=>
 K t11 w
theorem Zh7 (h:Zjj t0 w K):Cl prog 64 #[t0] w K:=
 ZML 12 [2] Tryz.func64 h
def Zns (t0 t1:Value) (w:World) (K:KV):Prop:=
 bi .geq .i64 t1 (Iw 0) w λt6 w=>
 gd t6 true (λk=>k t1 w) w λt8 w=>
 gd t6 true (λk=>k t0 w) w λt9 w=>
 gd t6 true (λk=>nc t9 w k) w λt10 w=>
 gd t6 true (λk=>fld 0 t10 w k) w λt11 w=>
 gd t6 true (λk=>ld1 t11 w k) w λt12 w=>
 gd t6 true (λk=>bi .lss .i64 t8 t12 w k) w λt13 w=>
 pk t6 t13 (Value.bool false) w λt14 w=>
 K t14 w
theorem Zk7 (h:Zns t0 t1 w K):Cl prog 65 #[t0,t1] w K:=
 ZML 15 [4] Tryz.func65 h
def Zg5 (t0 t1:Value) (w:World) (K:KV):Prop:=
 al (Value.cells t0) 138 w λt2 w=>
 fld 0 t2 w λt5 w=>
 ld1 t5 w λt6 w=>
 bi .eql .i64 t6 t1 w λt8 w=>
 K t8 w
theorem ZgN (h:Zg5 t0 t1 w K):Cl prog 66 #[t0,t1] w K:=
 ZML 9 [4] Tryz.func66 h
def ZfF (t0:Value) (w:World) (K:KV):Prop:=
 ncP t0<|
 fld 6 t0 w λt11 w=>
 ld1 t11 w λt12 w=>
 Cl prog 99 #[t12] w λt13 w=>
 xt 0 t13 w λt14 w=>
 xt 1 t13 w λt15 w=>
 al (Zl prog 81) 81 w λt4 w=>
 stN 6 t4 t14 w λ_ w=>
 J1 (λt3 w=>
 ncP t0<|
 fld 9 t0 w λt25 w=>
 ld1 t25 w λt26 w=>
 rgM prog 134 t26 w λt27 w=>
 lp [t3] w (b1 λt3_1 w g2=>
 nxM prog t27 false 0 w λt28 w=>
 xt 0 t28 w λt29 w=>
 Zr t29
 (enM prog t27 w λt30 w=>
 xt 1 t30 w λt31 w=>
 bsl 3 1 1 (Zl prog 3) [(0,t31)] w λt34 w=>
 apS prog #[22,22] 22 t3_1 t34 w λt35 w=>
 g2 [t35] w)
 (Cl prog 70 #[t3_1] w λt37 w=>
 K t37 w))) λk1=>
 Zr t15
 (fld 0 t4 w λt18 w=>
 fld 0 t18 w λt19 w=>
 ld1 t19 w λt20 w=>
 bsl 3 1 1 (Zl prog 3) [(0,t20)] w λt21 w=>
 apS prog #[22,22] 22 (Value.slice none 0 0) t21 w λt22 w=>
 k1 t22 w)
 (k1 (Value.slice none 0 0) w)
theorem ZfJ (h:ZfF t0 w K):Cl prog 67 #[t0] w K:=
 ZML 38 [2] Tryz.func67 h
def ZgY (t0:Value) (w:World) (K:KV):Prop:=
 ncP t0<|
 fld 2 t0 w λt5 w=>
 ld1 t5 w λt6 w=>
 K t6 w
theorem ZgA (h:ZgY t0 w K):Cl prog 68 #[t0] w K:=
 ZML 7 [2] Tryz.func68 h
def Zha (t0 t1 t2:Value) (w:World) (K:KV):Prop:=
 Cl prog 65 #[t0,t1] w λt10 w=>
 Zb3 t10 w λt11 w=>
 gd t11 false (λk=>k t2 w) w λt13 w=>
 gd t11 false (λk=>Cl prog 97 #[t13] w k) w λt14 w=>
 gd t11 false (λk=>Zb3 t14 w k) w λt15 w=>
 pk t11 (Value.bool true) t15 w λt16 w=>
 Zr t16
 (K (Iw 1) w)
 (dr w λw=>
 Cl prog 64 #[t0] w λt19 w=>
 Zb3 t19 w λt20 _=>
 gd t20 false (λk=>k t0 w) w λt22 _=>
 gd t20 false (λk=>Cl prog 100 #[t22,(Value.func (.func 66) #[] #[])] w k) w λt23 w=>
 gd t20 false (λk=>Zb3 t23 w k) w λt24 _=>
 pk t20 (Value.bool true) t24 w λt25 _=>
 gd t25 false (λk=>k t0 w) w λt27 _=>
 gd t25 false (λk=>k t1 w) w λt28 _=>
 gd t25 false (λk=>nc t27 w k) w λt29 _=>
 gd t25 false (λk=>fld 3 t29 w k) w λt30 _=>
 gd t25 false (λk=>ixA 8 2 t30 t28 w k) w λt31 _=>
 gd t25 false (λk=>ldN 2 t31 w k) w λt32 _=>
 gd t25 false (λk=>k t0 w) w λt33 _=>
 gd t25 false (λk=>nc t33 w k) w λt34 _=>
 gd t25 false (λk=>fld 1 t34 w k) w λt35 _=>
 gd t25 false (λk=>ld1 t35 w k) w λt36 _=>
 gd t25 false (λk=>Cl prog 101 #[t32,t36] w k) w λt37 w=>
 pk t25 (Value.bool true) t37 w λt38 _=>
 Zr t38
 (K (Iw 130) w)
 (dr w λw=>
 ncP t0<|
 fld 2 t0 w λt43 _=>
 ld1 t43 w λt44 _=>
 ncP t0<|
 fld 19 t0 w λt47 _=>
 bO prog .and 3 (Operand.tmp 44) (Operand.const (Iw 1)) t44 (Iw 1) w λt45 w=>
 ixA 2 1 t47 t45 w λt48 _=>
 ld1 t48 w λt49 _=>
 bi .gtr .i64 t49 (Iw 0) w λt50 _=>
 Zr t50
 (K (Iw 150) w)
 (dr w λw=>
 ncP t0<|
 fld 1 t0 w λt55 _=>
 ld1 t55 w λt56 _=>
 ncP t0<|
 fld 3 t0 w λt58 _=>
 ixA 8 2 t58 t1 w λt59 _=>
 fld 1 t59 w λt60 _=>
 stN 1 t60 t56 w λ_ w=>
 ncP t0<|
 fld 21 t0 w λt64 w=>
 ld1 t64 w λt65 w=>
 mnI .i64 t65 t2 w λt67 w=>
 ncP t0<|
 fld 21 t0 w λt69 w=>
 stN 1 t69 t67 w λ_ w=>
 Cl prog 100 #[t0,(Value.func (.func 101) #[] #[])] w λt71 w=>
 J0 (λw=>
 K (Iw 0) w) λk1=>
 Zr t71
 (ncP t0<|
 fld 1 t0 w λt75 w=>
 ld1 t75 w λt76 w=>
 ncP t0<|
 fld 2 t0 w λt78 w=>
 stN 1 t78 t76 w λ_ w=>
 dr w λw=>
 ncP t0<|
 fld 22 t0 w λt82 _=>
 ld1 t82 w λt83 _=>
 ncP t0<|
 fld 21 t0 w λt86 _=>
 ld1 t86 w λt87 _=>
 mxI .i64 t83 t87 w λt88 w=>
 ncP t0<|
 fld 22 t0 w λt90 _=>
 stN 1 t90 t88 w λ_ w=>
 k1 w)
 (k1 w))))
theorem ZgB (h:Zha t0 t1 t2 w K):Cl prog 69 #[t0,t1,t2] w K:=
 ZML 91 [6] Tryz.func69 h
def Zmt (t0:Value) (w:World) (K:KV):Prop:=
 lnS t0 w λt7 w=>
 lp [(Iw 1125899906842624),(Iw 0)] w (b2 λt3 t8 w g1=>
 bi .lss .i64 t8 t7 w λt9 w=>
 Zr t9
 (ixS 1 t0 t8 w λt10 w=>
 ld1 t10 w λt11 w=>
 Cl prog 102 #[t11] w λt14 w=>
 mnI .i64 t3 t14 w λt15 w=>
 bi .add .i64 t8 (Iw 1) w λt16 w=>
 g1 [t15,t16] w)
 (K t3 w))
theorem ZjX (h:Zmt t0 w K):Cl prog 70 #[t0] w K:=
 ZML 18 [2] Tryz.func70 h
def ZeF (t0 t1:Value) (w:World) (K:KV):Prop:=
 ncP t0<|
 fld 7 t0 w λt14 w=>
 ld1 t14 w λt15 w=>
 Cl prog 103 #[t15] w λt16 w=>
 bi .lss .i64 t1 t16 w λt17 w=>
 Zr t17
 (K (Value.tuple #[(Value.slice none 0 0),(Value.slice none 0 0),(Iw 110)]) w)
 (Cl prog 67 #[t0] w λt21 w=>
 bi .gtr .i64 t1 t21 w λt22 w=>
 Zr t22
 (K (Value.tuple #[(Value.slice none 0 0),(Value.slice none 0 0),(Iw 130)]) w)
 (ncP t0<|
 fld 7 t0 w λt25 w=>
 ld1 t25 w λt26 w=>
 Cl prog 104 #[t26,t1] w λt28 w=>
 lnS t28 w λt29 w=>
 lp [(Value.slice none 0 0),(Iw 0)] w (b2 λt7 t30 w g1=>
 bi .lss .i64 t30 t29 w λt31 w=>
 Zr t31
 (ixS 10 t28 t30 w λt32 w=>
 ldN 10 t32 w λt33 w=>
 al (Zl prog 203) 203 w λt9 w=>
 stN 10 t9 t33 w λ_ w=>
 fld 0 t9 w λt35 w=>
 ldN 6 t35 w λt36 w=>
 fld 8 t9 w λt37 w=>
 ld1 t37 w λt38 w=>
 bld (Zl prog 100) #[(0,6),(6,1)] [(0,t36),(1,t38)] w λt39 w=>
 bsl 100 7 1 (Zl prog 100) [(0,t39)] w λt40 w=>
 apS prog #[40,40] 40 t7 t40 w λt41 w=>
 bi .add .i64 t30 (Iw 1) w λt42 w=>
 g1 [t41,t42] w)
 (ncP t0<|
 fld 10 t0 w λt46 w=>
 ld1 t46 w λt47 w=>
 apS prog #[40,40] 40 t47 t7 w λt49 w=>
 ncP t0<|
 fld 10 t0 w λt51 w=>
 stN 1 t51 t49 w λ_ w=>
 ncP t0<|
 fld 8 t0 w λt55 w=>
 ld1 t55 w λt56 w=>
 Cl prog 105 #[t56,t1] w λt58 w=>
 K (Value.tuple #[t7,t58,(Iw 0)]) w))))
theorem ZeP (h:ZeF t0 t1 w K):Cl prog 71 #[t0,t1] w K:=
 ZML 59 [4,5,6] Tryz.func71 h
def ZiR (t0:Value) (w:World) (K:KV):Prop:=
 ncP t0<|
 fld 22 t0 w λt5 w=>
 ld1 t5 w λt6 w=>
 K t6 w
theorem Zhn (h:ZiR t0 w K):Cl prog 72 #[t0] w K:=
 ZML 7 [2] Tryz.func72 h
def Zpz (t0:Value) (w:World) (K:KV):Prop:=
 lnS t0 w λt7 w=>
 lp [(Value.slice none 0 0),(Iw 0)] w (b2 λt3 t8 w g1=>
 bi .lss .i64 t8 t7 w λt9 w=>
 Zr t9
 (ixS 6 t0 t8 w λt10 w=>
 ldN 6 t10 w λt11 w=>
 al (Zl prog 81) 81 w λt5 w=>
 stN 6 t5 t11 w λ_ w=>
 ldN 6 t5 w λt13 w=>
 bld (Zl prog 84) #[(0,1),(1,6),(7,1)] [(1,t13)] w λt14 w=>
 bsl 84 8 1 (Zl prog 84) [(0,t14)] w λt15 w=>
 apS prog #[50,50] 50 t3 t15 w λt16 w=>
 bi .add .i64 t8 (Iw 1) w λt17 w=>
 g1 [t16,t17] w)
 (K t3 w))
theorem Zlt (h:Zpz t0 w K):Cl prog 73 #[t0] w K:=
 ZML 19 [2] Tryz.func73 h
def Zg8 (t0:Value) (w:World) (K:KV):Prop:=
 al (Value.cells t0) 55 w λt1 w=>
 K (Value.func (Fn.func 106) #[] #[t1]) w
theorem ZgQ (h:Zg8 t0 w K):Cl prog 74 #[t0] w K:=
 ZML 4 [2] Tryz.func74 h
def ZaH (t0 t1:Value) (w:World) (K:KV):Prop:=
 lnS t0 w λt7 w=>
 lp [(Iw 0)] w (b1 λt8 w g1=>
 bi .lss .i64 t8 t7 w λt9 w=>
 Zr t9
 (ixS 8 t0 t8 w λt14 w=>
 ldN 8 t14 w λt15 w=>
 clV prog t1 #[t15] w λt16 w=>
 Zr t16
 (K t8 w)
 (bi .add .i64 t8 (Iw 1) w λt18 w=>
 g1 [t18] w))
 (K (Iw (-1)) w))
theorem Zbn (h:ZaH t0 t1 w K):Cl prog 75 #[t0,t1] w K:=
 ZML 19 [4] Tryz.func75 h
def ZiH (t0:Value) (w:World) (K:KV):Prop:=
 ncP t0<|
 fld 1 t0 w λt5 w=>
 ld1 t5 w λt6 w=>
 lnS t6 w λt7 w=>
 K t7 w
theorem Zib (h:ZiH t0 w K):Cl prog 76 #[t0] w K:=
 ZML 8 [2] Tryz.func76 h
def Zfn (t0 t1:Value) (w:World) (K:KV):Prop:=
 ld1 t0 w λt3 w=>
 Zr t3
 (K (Iw 0) w)
 (ld1 t1 w λt4 w=>
 K t4 w)
theorem ZfU (h:Zfn t0 t1 w K):Cl prog 77 #[t0,t1] w K:=
 ZML 5 [2] Tryz.func77 h
def ZkW (t0 t1:Value) (w:World) (K:KV):Prop:=
 lnS t0 w λt8 w=>
 lp [(Iw (-1)),(Iw 0)] w (b2 λt4 t9 w g1=>
 bi .lss .i64 t9 t8 w λt10 w=>
 Zr t10
 (ixS 1 t0 t9 w λt11 w=>
 ld1 t11 w λt12 w=>
 bi .leq .i64 t12 t4 w λt15 w=>
 gd t15 false (λk=>k t12 w) w λt17 w=>
 gd t15 false (λk=>ld1 t1 w k) w λt18 w=>
 gd t15 false (λk=>bi .geq .i64 t17 t18 w k) w λt19 w=>
 pk t15 (Value.bool true) t19 w λt20 w=>
 Zr t20
 (K (Value.bool false) w)
 (bi .add .i64 t9 (Iw 1) w λt22 w=>
 g1 [t12,t22] w))
 (K (Value.bool true) w))
theorem Zjf (h:ZkW t0 t1 w K):Cl prog 78 #[t0,t1] w K:=
 ZML 23 [3] Tryz.func78 h
def Zku (t0 t1:Value) (w:World) (K:KV):Prop:=
 fld 3 t0 w λt8 w=>
 ld1 t8 w λt9 w=>
 lnS t9 w λt10 w=>
 lp [(Iw 0)] w (b1 λt11 w g1=>
 bi .lss .i64 t11 t10 w λt12 w=>
 Zr t12
 (ixS 4 t9 t11 w λt13 w=>
 ldN 4 t13 w λt14 w=>
 al (Zl prog 48) 48 w λt4 w=>
 stN 4 t4 t14 w λ_ w=>
 fld 1 t4 w λt15 w=>
 ld1 t15 w λt16 w=>
 ld1 t1 w λt17 w=>
 bi .geq .i64 t16 t17 w λt18 w=>
 Zr t18
 (K (Iw 81) w)
 (fld 3 t4 w λt19 w=>
 ld1 t19 w λt20 w=>
 lnS t20 w λt21 w=>
 lp [(Iw 0)] w (b1 λt22 w g2=>
 bi .lss .i64 t22 t21 w λt23 w=>
 Zr t23
 (ixS 3 t20 t22 w λt24 w=>
 ldN 3 t24 w λt25 w=>
 al (Zl prog 102) 102 w λt6 w=>
 stN 3 t6 t25 w λ_ w=>
 dr w λw=>
 fld 4 t0 w λt26 _=>
 ld1 t26 w λt27 _=>
 fld 0 t6 w λt28 _=>
 ld1 t28 w λt29 _=>
 fld 1 t6 w λt32 _=>
 ld1 t32 w λt33 _=>
 fld 1 t0 w λt34 _=>
 ld1 t34 w λt35 _=>
 bi .geq .i64 t33 t35 w λt36 _=>
 Cl prog 80 #[t27,t29] w λt30 w=>
 (ld1 t34 w (λv' w''=>v'=t35∧w''=w))∧((ld1 t32 w (λv' w''=>v'=t33∧w''=w))∧(Cl prog 43 #[t30,(Iw 81)] w λt31 w=>
 (ld1 t34 w (λv' w''=>v'=t35∧w''=w))∧((ld1 t32 w (λv' w''=>v'=t33∧w''=w))∧(Cl prog 43 #[t36,(Iw 80)] w λt37 w=>
 bsl 91 1 2 (Zl prog 91) [(0,t31),(1,t37)] w λt38 w=>
 Cl prog 40 #[t38] w λt39 w=>
 bi .neq .i64 t39 (Iw 0) w λt41 w=>
 Zr t41
 (K t39 w)
 (bi .add .i64 t22 (Iw 1) w λt43 w=>
 g2 [t43] w))))))
 (bi .add .i64 t11 (Iw 1) w λt44 w=>
 g1 [t44] w))))
 (K (Iw 0) w))
theorem ZjB (h:Zku t0 t1 w K):Cl prog 79 #[t0,t1] w K:=
 ZML 45 [2] Tryz.func79 h
def Zb6 (t0 t1:Value) (w:World) (K:KV):Prop:=
 Cl prog 107 #[t0,t1] w λt7 w=>
 bi .geq .i64 t7 (Iw 0) w λt8 w=>
 K t8 w
theorem ZcF (h:Zb6 t0 t1 w K):Cl prog 80 #[t0,t1] w K:=
 ZML 9 [4] Tryz.func80 h
end Go.Proofs.YtnhaekgogppbiaaGreat
end
