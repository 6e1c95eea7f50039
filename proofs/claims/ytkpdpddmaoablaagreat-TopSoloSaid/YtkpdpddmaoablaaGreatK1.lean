/- Texts of the proof, joined. Conditions: none. -/
import Derived.Test.YtkpdpddmaoablaaGreatK0
import Derived.Test.YtkpdpddmaoablaaGreatProg
import Derived.KernelRfl
import Derived.Maps.RangeRun
section
namespace Go.E
open Go.RowKit
def Ev.putL (ρ:Ev):List (Nat × Value)→Ev
 | []=>ρ
 | (t,v)::l=>Ev.putL (ρ.upd t v) l
def bgn (l:Nat) (w:World) (K:World→Prop):Prop:=∃r,w.heap[l]?=some (.loop r)∧r.state=.ready∧K (w.putObj l (.loop { r with state:=.busy }))
def edn (l:Nat) (w:World) (K:World→Prop):Prop:=∃r,w.heap[l]?=some (.loop r)∧K (w.putObj l (.loop { r with state:=.ready,pending:=none }))
def Zz7 (D:Nat) (w:World) (K:World→Prop):Prop:=w.heap[D]?=some (.deferred (some []))∧K (w.putObj D (.deferred none))
def rdW (P:Program) (nt:Nat) (ps:List Nat) (asx bd:Code) (ρ:Ev) (l:Nat) (args:Nat→Value) (w:World) (k:World→Prop):Prop:=
 cw P nt 0 asx (lv 0 bd 0 (λ_=>0)) (λ_=>0) ⟨λρ1 w1=>bgn l w1 λw2=>cw P nt 0 bd 0 (λ_=>0) ⟨λ_ w3=>edn l w3 k,λ_ _ _=>False,λ_ _=>False⟩ ρ1 w2,λ_ _ _=>False,λ_ _=>False⟩ (ρ.putL (ps.zip ((List.range ps.length).map args))) w
def lvR (asx bd:Code):Nat:=lv 0 asx (lv 0 bd 0 (λ_=>0)) (λ_=>0)
structure ZcX (nt:Nat) (ps:List Nat) (asx bd:Code) (ρ:Ev) (r:Loop):Prop where
 params:r.params=ps.toArray
 assign:r.assign=asx
 body:r.body=bd
 size:r.tmps.size=nt
 agr:∀t,(lvR asx bd).testBit t=true→r.tmps.getD t undef=ρ t
theorem ZcX.turn {nt:Nat} {ps:List Nat} {asx bd:Code} {ρ:Ev} {r:Loop} (h:ZcX nt ps asx bd ρ r) (st:LoopState) (pd:Option Code):ZcX nt ps asx bd ρ { r with state:=st,pending:=pd }:=
 ⟨h.params,h.assign,h.body,h.size,h.agr⟩
theorem Zmj {m nt:Nat}:∀(l:List (Nat × Value)) (tmps:Array Value) (ρ:Ev),(∀x∈l,x.1<nt)→ZdN [] nt m { tmps:=tmps,defers:=[] } ρ→
  ZdN [] nt m { tmps:=l.foldl (λ(tmps:Array Value) (x:Nat × Value)=>tmps.setIfInBounds x.1 x.2) tmps,defers:=[] } (ρ.putL l)
 | [],_,_,_,h=>h
 | (t,v)::l,tmps,ρ,hl,h=>by
  refine Zmj l (tmps.setIfInBounds t v) (ρ.upd t v) (λx hx=>hl x (List.mem_cons_of_mem _ hx)) ?_
  have h1:=(h.put (d:=some t) (v:=v) (λt' ht=>by cases ht;exact hl (t,v) List.mem_cons_self)).mono (m':=m) (λt ht=>by simp[ht])
  exact h1
section
variable {P:Program} {w:World} {K:KV}
theorem ZwK (hm:P.follows .mixedOrders=true) {nt l:Nat} {ps:List Nat} {asx bd:Code} {ρ:Ev} {r:Loop} {args:Array Value} (hr:w.heap[l]?=some (.loop r)) (hf:ZcX nt ps asx bd ρ r) (hs:args.size=ps.length)
  (hps:ps.all (λt=>decide (t<nt))=true) (hda:ZaT asx=true) (hdb:ZaT bd=true) (hoa:Zf6 P nt 0 asx (lv 0 bd 0 (λ_=>0)) (λ_=>0)=true) (hob:Zf6 P nt 0 bd 0 (λ_=>0)=true)
  (h:rdW P nt ps asx bd ρ l (λi=>args.getD i undef) w λw'=>K (.bool true) w'):ex P (Instr.yield l args) w K:=by
 unfold ex
 rw[run_yield hr (by rw[hf.params];simpa using hs)]
 show RoundIn Fence.wide 0 P l r.fn _ r.assign r.body w _
 rw[hf.assign,hf.body]
 refine roundIn_of_wpIn trivial ?_
 have hzip:(r.params.zip args).toList=ps.zip args.toList:=by rw[hf.params,Array.toList_zip]
 have hargs:(List.range ps.length).map (λi=>args.getD i undef)=args.toList:=by
  apply List.ext_getElem
  ·simp[hs]
  ·intro i h1 h2
   simp at h2
   simp[Array.getD_eq_getD_getElem?,h2]
 unfold rdW at h
 rw[hargs] at h
 have hag:ZdN [] nt (lvR asx bd) { tmps:=(r.params.zip args).foldl (λtmps (x:Nat × Value)=>tmps.setIfInBounds x.1 x.2) r.tmps,defers:=[] } (ρ.putL (ps.zip args.toList)):=by
  rw[←Array.foldl_toList,hzip]
  refine Zmj _ _ _ (λx hx=>?_) ⟨hf.size,rfl,hf.agr⟩
  exact of_decide_eq_true (List.all_eq_true.1 hps x.1 (List.of_mem_zip hx).1)
 refine Zac (ro:=some l) hm asx (lv 0 bd 0 (λ_=>0)) (λ_=>0) _ _ _ w _ (.inr hda) hoa hag ?_ ?_ ?_ h
 ·rintro ρ1 a1 w1 ⟨r1,h1,h2,h3⟩ ha1 _
  refine ⟨_,run_beginRound h1 h2,?_⟩
  refine Zac (ro:=some l) hm bd 0 (λ_=>0) _ _ _ _ _ (.inr hdb) hob ha1 ?_ ?_ ?_ h3
  ·rintro ρ2 a2 w2 ⟨r2,h4,h5⟩ _ _
   exact ⟨_,_,run_endRound none h4,_,rfl,h5⟩
  ·rintro _ _ _ _ hF _ _
   exact hF.elim
  ·rintro _ _ _ hF _
   exact hF.elim
 ·rintro _ _ _ _ hF _ _
  exact hF.elim
 ·rintro _ _ _ hF _
  exact hF.elim
def rfW (P:Program) (gv:Value) (np:Nat) (Bd:Nat→(Nat→Value)→World→(World→Prop)→Prop) (w:World) (Kn:Nat→World→Prop):Prop:=
 ∀(LR:Loop→Prop),(∀r st pd,LR r→LR { r with state:=st,pending:=pd })→
  (∀(r:Loop) (W:World) (l:Nat) (args:Array Value) (K:KV),LR r→W.heap[l]?=some (.loop r)→args.size=np→Bd l (λi=>args.getD i undef) W (λW'=>K (.bool true) W')→ex P (Instr.yield l args) W K)→
  ∀r,LR r→r.state=.ready→r.pending=none→
  ∃f2 first captured,gv=.func (.func f2) first captured∧ZdL P f2=true∧Cl P f2 (first++#[.func (.yield (w.heap.size+1)) #[] #[]]++captured) ((w.alloc (.deferred (some []))).alloc (.loop r)) λ_ w3=>
   ∃r',w3.heap[w.heap.size+1]?=some (.loop r')∧r'.state≠.busy∧r'.pending=none∧Kn w.heap.size (w3.putObj (w.heap.size+1) (.loop { r' with state:=.exhausted }))
def ZGi (P:Program) (nt:Nat) (rs:List Nat) (A B C E:Code) (g:Operand) (ps:List Nat) (asx bd:Code) (args:Array Value) (w:World) (K:KV):Prop:=
 let rl:=Zgs rs
 let lE:=lv rl E rl (λ_=>0)
 let lC:=lE ||| ZAC g ||| lvR asx bd
 let lB:=lv rl C lC (λ_=>0)
 let lA:=lv rl B lB (λ_=>0)
 cw P nt rl A lA (λ_=>0) ⟨λρ w=>cw P nt rl B lB (λ_=>0) ⟨λρ w=>cw P nt rl C lC (λ_=>0) ⟨λρ w=>
  rfW P (ρ.opd g) ps.length (λl args W k=>rdW P nt ps asx bd ρ l args W k) w λD w=>
   cw P nt rl E rl (λ_=>0) ⟨λρ' w'=>Zz7 D w' λw''=>K (ZBO rs ρ') w'',λ_ _ _=>False,λ_ _=>False⟩ ρ w,
  λ_ _ _=>False,λ_ _=>False⟩ ρ w,λ_ _ _=>False,λ_ _=>False⟩ ρ w,λ_ _ _=>False,λ_ _=>False⟩ (Ev.init args) w
def Zue (P:Program) (nt:Nat) (rs:List Nat) (A B C E:Code) (g:Operand) (ps:List Nat) (asx bd:Code):Bool:=
 let rl:=Zgs rs
 let lE:=lv rl E rl (λ_=>0)
 let lC:=lE ||| ZAC g ||| lvR asx bd
 let lB:=lv rl C lC (λ_=>0)
 let lA:=lv rl B lB (λ_=>0)
 Zf6 P nt rl A lA (λ_=>0)&&Zf6 P nt rl B lB (λ_=>0)&&Zf6 P nt rl C lC (λ_=>0)&&Zf6 P nt rl E rl (λ_=>0)&&
 ps.all (λt=>decide (t<nt))&&ZaT asx&&ZaT bd&&Zf6 P nt 0 asx (lv 0 bd 0 (λ_=>0)) (λ_=>0)&&Zf6 P nt 0 bd 0 (λ_=>0)&&(match g with | .tmp _=>true | _=>false)
theorem ZnS {f:FuncId} {fn:Func} {args:Array Value} {nt i:Nat} {rs:List Nat} {A B C E:Code} {g:Operand} {ps:List Nat} {asx bd:Code} (hm:P.follows .mixedOrders=true)
  (hf:P.funcs[f]?=some fn) (hb:fn.body=some (.seq A (.seq B (.seq (.seq C (.block i (.rangeFunc g ps.toArray asx bd))) (.seq E .ret))))) (hn:fn.ntmps=nt) (hr:fn.results=(rs.map ResultVar.tmp).toArray) (hargs:args.size≤nt)
  (hok:Zue P nt rs A B C E g ps asx bd=true) (h:ZGi P nt rs A B C E g ps asx bd args w K):Zdi P f args w K:=by
 unfold Zue at hok
 simp only[Bool.and_eq_true] at hok
 obtain ⟨⟨⟨⟨⟨⟨⟨⟨⟨hA,hB⟩,hC⟩,hE⟩,hps⟩,hda⟩,hdb⟩,hoa⟩,hob⟩,hg⟩:=hok
 refine callsIn_wide (n:=0).1 (callsIn_of_wp_marks hf hb trivial ?_ rfl)
 unfold ZGi at h
 have hno:∀{p:Prop},False→p:=λh=>h.elim
 refine wpIn_seq (Zac (ro:=none) hm A _ _ _ _ _ w _ (.inl rfl) hA (⟨by simp[hn];omega,rfl,λt _=>?_⟩:ZdN [] nt _ _ (Ev.init args)) ?_ ?_ ?_ h)
 ·simp only[Ev.init,Array.getD_eq_getD_getElem?,Array.getElem?_append]
  split
  ·rfl
  ·rename_i hge
   rw[Array.getElem?_eq_none (xs:=args) (by omega)]
   cases hx:(Array.replicate (fn.ntmps - args.size) undef)[t - args.size]? with
   | none=>rfl
   | some v=>
    simp only[Array.getElem?_replicate] at hx
    split at hx
    ·cases hx;rfl
    ·cases hx
 rotate_left
 ·exact λ_ _ _ _ hF _ _=>hF.elim
 ·exact λ_ _ _ hF _=>hF.elim
 intro ρ1 a1 w1 h1 ha1 _
 refine wpIn_seq (Zac (ro:=none) hm B _ _ _ _ _ w1 _ (.inl rfl) hB ha1 ?_ ?_ ?_ h1)
 rotate_left
 ·exact λ_ _ _ _ hF _ _=>hF.elim
 ·exact λ_ _ _ hF _=>hF.elim
 intro ρ2 a2 w2 h2 ha2 _
 refine wpIn_seq (wpIn_seq (Zac (ro:=none) hm C _ _ _ _ _ w2 _ (.inl rfl) hC ha2 ?_ ?_ ?_ h2))
 rotate_left
 ·exact λ_ _ _ _ hF _ _=>hF.elim
 ·exact λ_ _ _ hF _=>hF.elim
 intro ρ3 a3 w3 h3 ha3 _
 refine wpIn_block (wpIn_rangeFunc λfn' _=>?_)
 have hev:a3.eval g=ρ3.opd g:=ha3.opd (l:=[g]) (λt ht=>by
  simp only[Zra,List.foldr_cons,List.foldr_nil,Nat.or_zero] at ht
  simp[ht]) g (by simp)
 obtain ⟨f2,first,captured,hgv,hbody,hcl⟩:=h3 (ZcX nt ps asx bd ρ3) (λr st pd hr=>hr.turn st pd)
  (λr W l args K hr hW hs hB=>ZwK hm hW hr hs hps hda hdb hoa hob hB)
  { state:=.ready,pending:=none,fn:=fn',tmps:=a3.tmps,params:=ps.toArray,assign:=asx,body:=bd,defers:=w3.heap.size }
  ⟨rfl,rfl,rfl,ha3.1,λt ht=>ha3.2.2 t (by simp[ht])⟩ rfl rfl
 refine ⟨w3.heap.size+1,[{ target:=.collected w3.heap.size,args:=#[] }],((w3.alloc (.deferred (some []))).alloc (.loop { state:=.ready,pending:=none,fn:=fn',tmps:=a3.tmps,params:=ps.toArray,assign:=asx,body:=bd,defers:=w3.heap.size })),{ target:=.fn (.func f2) captured,args:=first++#[.func (.yield (w3.heap.size+1)) #[] #[]] },((w3.alloc (.deferred (some []))).alloc (.loop { state:=.ready,pending:=none,fn:=fn',tmps:=a3.tmps,params:=ps.toArray,assign:=asx,body:=bd,defers:=w3.heap.size })),f2,first++#[.func (.yield (w3.heap.size+1)) #[] #[]]++captured,((w3.alloc (.deferred (some []))).alloc (.loop { state:=.ready,pending:=none,fn:=fn',tmps:=a3.tmps,params:=ps.toArray,assign:=asx,body:=bd,defers:=w3.heap.size })),run_enterLoop_outer fn' a3.tmps ps.toArray asx bd,?_,λ_ _=>trivial,?_,(λh=>by cases h),callsIn_wide.2 (Calls.mono (Cl.ret hbody hcl) ?_)⟩
 ·have he:a3.eval g=.func (.func f2) first captured:=hev.trans hgv
  simp only[resolve,he,Deferred.ofValue,List.map_toArray,List.map_cons,List.map_nil]
  rfl
 ·exact Zcu hbody
 ·rintro ev w5 ⟨v,rfl,r',hr1,hr2,hr3,hr4⟩
  rw[hr3] at hr4
  refine ⟨none,_,by rw[run_endLoop hr1 hr2,hr3],?_⟩
  show Exit.inBlock _ _ .normal _ _
  refine wpIn_seq (Zac (ro:=none) (ds:=[{ target:=.collected w3.heap.size,args:=#[] }]) hm E _ _ _ _ _ _ _ (.inl rfl) hE ?_ ?_ ?_ ?_ hr4)
  ·exact ⟨ha3.1,by rw[ha3.2.1];rfl,λt ht=>ha3.2.2 t (by simp[ht])⟩
  ·rintro ρ4 a4 w6 ⟨hD,hK⟩ ha4 _
   refine wpIn_ret ?_
   show LeavesInM _ _ _ _ _ _ a4.defers _ _
   rw[ha4.2.1]
   refine ⟨by simp,.inl ⟨_,_,rfl,run_takeDeferred hD,?_⟩⟩
   exact ⟨_,Zia hr (⟨ha4.1,rfl,ha4.2.2⟩:ZdN [] nt _ { a4 with defers:=[] } ρ4) (λt ht=>Zfs ht) _,_,rfl,hK⟩
  ·exact λ_ _ _ _ hF _ _=>hF.elim
  ·exact λ_ _ _ hF _=>hF.elim
def ZEB (P:Program) (nt:Nat) (rs:List Nat) (b:Option Code) (args:Array Value) (w:World) (K:KV):Prop:=
 match b with
 | some (.seq A (.seq B (.seq (.seq C (.block _ (.rangeFunc g ps asx bd))) (.seq E .ret))))=>ZGi P nt rs A B C E g ps.toList asx bd args w K
 | _=>False
def Zuw (P:Program) (nt:Nat) (rs:List Nat) (b:Option Code):Bool:=
 match b with
 | some (.seq A (.seq B (.seq (.seq C (.block _ (.rangeFunc g ps asx bd))) (.seq E .ret))))=>Zue P nt rs A B C E g ps.toList asx bd
 | _=>false
theorem Zm6 {f:FuncId} {fn:Func} {args:Array Value} {nt:Nat} {rs:List Nat} (hm:P.follows .mixedOrders=true)
  (hf:P.funcs[f]?=some fn) (hn:fn.ntmps=nt) (hr:fn.results=(rs.map ResultVar.tmp).toArray) (hargs:args.size≤nt)
  (hok:Zuw P nt rs fn.body=true) {X:Prop} (hX:X=ZEB P nt rs fn.body args w K) (h:X):Zdi P f args w K:=by
 rw[hX] at h
 unfold ZEB at h
 unfold Zuw at hok
 split at h
 ·rename_i A B C j g ps asx bd E hb
  rw[hb] at hok
  exact ZnS (i:=j) (ps:=ps.toList) hm hf (by rw[hb,Array.toArray_toList]) hn hr hargs hok h
 ·exact h.elim
def lpC (LR:Loop→Prop) (l:Nat) (st:LoopState):HP:=λh=>(∀r st pd,LR r→LR { r with state:=st,pending:=pd })∧∃r,LR r∧r.state=st∧r.pending=none∧h l=some (.loop r)
def dfC (D:Nat):HP:=λh=>h D=some (.deferred (some []))
variable {e:World} {R:List HP} {LR:Loop→Prop} {l:Nat}
theorem ZhR {st:LoopState} (hS:Sat e w (lpC LR l st::R)):(∀r st pd,LR r→LR { r with state:=st,pending:=pd })∧∃r,LR r∧r.state=st∧r.pending=none∧Sat e w ((λh=>h l=some (.loop r))::R):=by
 obtain ⟨h1,h2,d,s1,s2,⟨hc,r,h3,h4,h5,h6⟩,h7⟩:=hS.mem
 exact ⟨hc,r,h3,h4,h5,hS.of_mem λ_=>⟨h1,h2,d,s1,s2,h6,h7⟩⟩
theorem ZcS {o:Obj} {b:Nat} (hS:Sat e w ((λh=>h b=some o)::R)):w.heap[b]?=some o:=by
 obtain ⟨g,hg,hs⟩:=hS.get 0 rfl
 exact hs _ _ hg
theorem ZB7 {K:World→Prop} (hS:Sat e w (lpC LR l .ready::R)) (hk:∀w',Sat e w' (lpC LR l .busy::R)→K w'):bgn l w K:=by
 obtain ⟨hc,r,h1,h2,h3,h4⟩:=ZhR hS
 refine ⟨r,ZcS h4,h2,hk _ ?_⟩
 have h5:Sat e (w.putObj l (.loop { r with state:=.busy })) ((λh=>h l=some (.loop { r with state:=.busy }))::R):=h4.setB
 exact h5.imp λg hg=>⟨hc,_,hc r .busy r.pending h1,rfl,h3,hg⟩
theorem ZwR {K:World→Prop} (hS:Sat e w (lpC LR l .busy::R)) (hk:∀w',Sat e w' (lpC LR l .ready::R)→K w'):edn l w K:=by
 obtain ⟨hc,r,h1,h2,h3,h4⟩:=ZhR hS
 refine ⟨r,ZcS h4,hk _ ?_⟩
 have h5:Sat e (w.putObj l (.loop { r with state:=.ready,pending:=none })) ((λh=>h l=some (.loop { r with state:=.ready,pending:=none }))::R):=h4.setB
 exact h5.imp λg hg=>⟨hc,_,hc r .ready none h1,rfl,rfl,hg⟩
theorem Zvn {K:World→Prop} {D:Nat} (hS:Sat e w (dfC D::R)) (hk:∀w',Sat e w' R→K w'):Zz7 D w K:=by
 refine ⟨ZcS (o:=.deferred (some [])) hS,hk _ ?_⟩
 have h5:Sat e (w.putObj D (.deferred none)) ((λh=>h D=some (.deferred none))::R):=Sat.setB (o:=.deferred (some [])) hS
 exact h5.drop
theorem ZHL {gv:Value} {np:Nat} {Bd:Nat→(Nat→Value)→World→(World→Prop)→Prop} {Kn:Nat→World→Prop} {f2:FuncId} {captured:Array Value} (hg:gv=.func (.func f2) #[] captured) (hb:ZdL P f2=true) (hS:Sat e w R)
  (h:∀(l D:Nat) (LR:Loop→Prop) (w1:World) (Kf:World→Prop),
   (∀{e W:World} {R:List HP} {args:Array Value} {K:KV},Sat e W (lpC LR l .ready::R)→args.size=np→Bd l (λi=>args.getD i undef) W (λW'=>K (.bool true) W')→clV P (.func (.yield l) #[] #[]) args W K)→
   (∀{W:World} {R:List HP},Sat e W (lpC LR l .ready::R)→(∀W',Sat e W' R→Kn D W')→Kf W)→
   Sat e w1 (lpC LR l .ready::dfC D::R)→Cl P f2 (#[.func (.yield l) #[] #[]]++captured) w1 λ_ W=>Kf W):rfW P gv np Bd w Kn:=by
 intro LR hc hy r hr hst hpd
 refine ⟨f2,#[],captured,hg,hb,?_⟩
 have h1:=(hS.alloc (.deferred (some []))).alloc (.loop r)
 rw[World.size_alloc] at h1
 refine h (w.heap.size+1) w.heap.size LR _ _ ?_ ?_ (h1.imp λg hg=>⟨hc,r,hr,hst,hpd,hg⟩)
 ·intro e W R args K hW hs hB
  obtain ⟨_,r,k1,k2,k3,k4⟩:=ZhR hW
  refine ⟨_,_,_,rfl,?_⟩
  show ex P (Instr.yield _ (#[]++args)) W K
  rw[Array.empty_append]
  exact hy r W _ args K k1 (ZcS k4) hs hB
 ·intro W R hW hK
  obtain ⟨_,r,k1,k2,k3,k4⟩:=ZhR hW
  refine ⟨r,ZcS k4,by rw[k2];exact (by decide),k3,hK _ ?_⟩
  have h5:Sat e (W.putObj (w.heap.size+1) (.loop { r with state:=.exhausted })) ((λh=>h (w.heap.size+1)=some (.loop { r with state:=.exhausted }))::R):=k4.setB
  exact h5.drop
end
end Go.E
end
section
namespace Go.E
open Go.RowKit
def edr (l:Nat) (w:World) (K:World→Prop):Prop:=∃r,w.heap[l]?=some (.loop r)∧K (w.putObj l (.loop { r with state:=.done,pending:=some .ret }))
def ZFT (P:Program) (nt:Nat) (ps:List Nat) (asx bd:Code) (ρ:Ev) (l:Nat) (args:Nat→Value) (w:World) (k:KV):Prop:=
 cw P nt 0 asx (lv 0 bd 0 (λ_=>0)) (λ_=>0) ⟨λρ1 w1=>bgn l w1 λw2=>cw P nt 0 bd 0 (λ_=>0) ⟨λ_ w3=>edn l w3 λw4=>k (.bool true) w4,λ_ _ _=>False,λ_ w3=>edr l w3 λw4=>k (.bool false) w4⟩ ρ1 w2,λ_ _ _=>False,λ_ _=>False⟩ (ρ.putL (ps.zip ((List.range ps.length).map args))) w
section
variable {P:Program} {w:World} {K:KV}
theorem ZuM (hm:P.follows .mixedOrders=true) {nt l:Nat} {ps:List Nat} {asx bd:Code} {ρ:Ev} {r:Loop} {args:Array Value} (hr:w.heap[l]?=some (.loop r)) (hf:ZcX nt ps asx bd ρ r) (hs:args.size=ps.length)
  (hps:ps.all (λt=>decide (t<nt))=true) (hda:ZaT asx=true) (hdb:ZaT bd=true) (hoa:Zf6 P nt 0 asx (lv 0 bd 0 (λ_=>0)) (λ_=>0)=true) (hob:Zf6 P nt 0 bd 0 (λ_=>0)=true)
  (h:ZFT P nt ps asx bd ρ l (λi=>args.getD i undef) w K):ex P (Instr.yield l args) w K:=by
 unfold ex
 rw[run_yield hr (by rw[hf.params];simpa using hs)]
 show RoundIn Fence.wide 0 P l r.fn _ r.assign r.body w _
 rw[hf.assign,hf.body]
 refine roundIn_of_wpIn trivial ?_
 have hzip:(r.params.zip args).toList=ps.zip args.toList:=by rw[hf.params,Array.toList_zip]
 have hargs:(List.range ps.length).map (λi=>args.getD i undef)=args.toList:=by
  apply List.ext_getElem
  ·simp[hs]
  ·intro i h1 h2
   simp at h2
   simp[Array.getD_eq_getD_getElem?,h2]
 unfold ZFT at h
 rw[hargs] at h
 have hag:ZdN [] nt (lvR asx bd) { tmps:=(r.params.zip args).foldl (λtmps (x:Nat × Value)=>tmps.setIfInBounds x.1 x.2) r.tmps,defers:=[] } (ρ.putL (ps.zip args.toList)):=by
  rw[←Array.foldl_toList,hzip]
  refine Zmj _ _ _ (λx hx=>?_) ⟨hf.size,rfl,hf.agr⟩
  exact of_decide_eq_true (List.all_eq_true.1 hps x.1 (List.of_mem_zip hx).1)
 refine Zac (ro:=some l) hm asx (lv 0 bd 0 (λ_=>0)) (λ_=>0) _ _ _ w _ (.inr hda) hoa hag ?_ ?_ ?_ h
 ·rintro ρ1 a1 w1 ⟨r1,h1,h2,h3⟩ ha1 _
  refine ⟨_,run_beginRound h1 h2,?_⟩
  refine Zac (ro:=some l) hm bd 0 (λ_=>0) _ _ _ _ _ (.inr hdb) hob ha1 ?_ ?_ ?_ h3
  ·rintro ρ2 a2 w2 ⟨r2,h4,h5⟩ _ _
   exact ⟨_,_,run_endRound none h4,_,rfl,h5⟩
  ·rintro _ _ _ _ hF _ _
   exact hF.elim
  ·rintro ρ2 a2 w2 ⟨r2,h4,h5⟩ _
   exact ⟨_,_,run_endRound (some .ret) h4,_,rfl,h5⟩
 ·rintro _ _ _ _ hF _ _
  exact hF.elim
 ·rintro _ _ _ hF _
  exact hF.elim
def ZFR (P:Program) (gv:Value) (np:Nat) (Bd:Nat→(Nat→Value)→World→KV→Prop) (w:World) (Kn Kr:Nat→World→Prop):Prop:=
 ∀(LR:Loop→Prop),(∀r st pd,LR r→LR { r with state:=st,pending:=pd })→
  (∀(r:Loop) (W:World) (l:Nat) (args:Array Value) (K:KV),LR r→W.heap[l]?=some (.loop r)→args.size=np→Bd l (λi=>args.getD i undef) W K→ex P (Instr.yield l args) W K)→
  ∀r,LR r→r.state=.ready→r.pending=none→
  ∃f2 first captured,gv=.func (.func f2) first captured∧ZdL P f2=true∧Cl P f2 (first++#[.func (.yield (w.heap.size+1)) #[] #[]]++captured) ((w.alloc (.deferred (some []))).alloc (.loop r)) λ_ w3=>
   ∃r',w3.heap[w.heap.size+1]?=some (.loop r')∧r'.state≠.busy∧
    ((r'.pending=none∧Kn w.heap.size (w3.putObj (w.heap.size+1) (.loop { r' with state:=.exhausted })))∨(r'.pending=some .ret∧Kr w.heap.size (w3.putObj (w.heap.size+1) (.loop { r' with state:=.exhausted }))))
def Zz0 (P:Program) (nt:Nat) (rs:List (Nat × Option TypeId)) (A C E:Code) (g:Operand) (ps:List Nat) (asx bd:Code) (args:Array Value) (w:World) (K:KV):Prop:=
 let rl:=Zgs (rs.map (·.1))
 let lE:=lv rl E rl (λ_=>0)
 let lC:=lE ||| rl ||| ZAC g ||| lvR asx bd
 let lA:=lv rl C lC (λ_=>0)
 cw P nt rl A lA (λ_=>0) ⟨λρ w=>cw P nt rl C lC (λ_=>0) ⟨λρ w=>
  ZFR P (ρ.opd g) ps.length (λl args W k=>ZFT P nt ps asx bd ρ l args W k) w
   (λD w=>cw P nt rl E rl (λ_=>0) ⟨λρ' w'=>Zz7 D w' λw''=>ZvW P rs [] ρ' w'' K,λ_ _ _=>False,λ_ _=>False⟩ ρ w)
   (λD w=>Zz7 D w λw''=>ZvW P rs [] ρ w'' K),
  λ_ _ _=>False,λ_ _=>False⟩ ρ w,λ_ _ _=>False,λ_ _=>False⟩ (Ev.init args) w
def Zq4 (P:Program) (nt:Nat) (rs:List (Nat × Option TypeId)) (A C E:Code) (g:Operand) (ps:List Nat) (asx bd:Code):Bool:=
 let rl:=Zgs (rs.map (·.1))
 let lE:=lv rl E rl (λ_=>0)
 let lC:=lE ||| rl ||| ZAC g ||| lvR asx bd
 let lA:=lv rl C lC (λ_=>0)
 Zf6 P nt rl A lA (λ_=>0)&&Zf6 P nt rl C lC (λ_=>0)&&Zf6 P nt rl E rl (λ_=>0)&&
 ps.all (λt=>decide (t<nt))&&ZaT asx&&ZaT bd&&Zf6 P nt 0 asx (lv 0 bd 0 (λ_=>0)) (λ_=>0)&&Zf6 P nt 0 bd 0 (λ_=>0)&&(match g with | .tmp _=>true | _=>false)
theorem ZmS {f:FuncId} {fn:Func} {args:Array Value} {nt i:Nat} {rs:List (Nat × Option TypeId)} {A C E:Code} {g:Operand} {ps:List Nat} {asx bd:Code} (hm:P.follows .mixedOrders=true)
  (hf:P.funcs[f]?=some fn) (hb:fn.body=some (.seq A (.seq (.seq C (.block i (.rangeFunc g ps.toArray asx bd))) (.seq E .ret)))) (hn:fn.ntmps=nt) (hr:fn.results=(rs.map Zx9).toArray) (hargs:args.size≤nt)
  (hok:Zq4 P nt rs A C E g ps asx bd=true) (h:Zz0 P nt rs A C E g ps asx bd args w K):Zdi P f args w K:=by
 unfold Zq4 at hok
 simp only[Bool.and_eq_true] at hok
 obtain ⟨⟨⟨⟨⟨⟨⟨⟨hA,hC⟩,hE⟩,hps⟩,hda⟩,hdb⟩,hoa⟩,hob⟩,hg⟩:=hok
 have hmem:∀r∈rs,(Zgs (rs.map (·.1))).testBit r.1=true:=λr hr=>Zfs (List.mem_map.2 ⟨r,hr,rfl⟩)
 refine callsIn_wide (n:=0).1 (callsIn_of_wp_marks hf hb trivial ?_ rfl)
 unfold Zz0 at h
 refine wpIn_seq (Zac (ro:=none) hm A _ _ _ _ _ w _ (.inl rfl) hA (⟨by simp[hn];omega,rfl,λt _=>?_⟩:ZdN [] nt _ _ (Ev.init args)) ?_ ?_ ?_ h)
 ·simp only[Ev.init,Array.getD_eq_getD_getElem?,Array.getElem?_append]
  split
  ·rfl
  ·rename_i hge
   rw[Array.getElem?_eq_none (xs:=args) (by omega)]
   cases hx:(Array.replicate (fn.ntmps - args.size) undef)[t - args.size]? with
   | none=>rfl
   | some v=>
    simp only[Array.getElem?_replicate] at hx
    split at hx
    ·cases hx;rfl
    ·cases hx
 rotate_left
 ·exact λ_ _ _ _ hF _ _=>hF.elim
 ·exact λ_ _ _ hF _=>hF.elim
 intro ρ1 a1 w2 h2 ha2 _
 refine wpIn_seq (wpIn_seq (Zac (ro:=none) hm C _ _ _ _ _ w2 _ (.inl rfl) hC ha2 ?_ ?_ ?_ h2))
 rotate_left
 ·exact λ_ _ _ _ hF _ _=>hF.elim
 ·exact λ_ _ _ hF _=>hF.elim
 intro ρ3 a3 w3 h3 ha3 _
 refine wpIn_block (wpIn_rangeFunc λfn' _=>?_)
 have hev:a3.eval g=ρ3.opd g:=ha3.opd (l:=[g]) (λt ht=>by
  simp only[Zra,List.foldr_cons,List.foldr_nil,Nat.or_zero] at ht
  simp[ht]) g (by simp)
 obtain ⟨f2,first,captured,hgv,hbody,hcl⟩:=h3 (ZcX nt ps asx bd ρ3) (λr st pd hr=>hr.turn st pd)
  (λr W l args K hr hW hs hB=>ZuM hm hW hr hs hps hda hdb hoa hob hB)
  { state:=.ready,pending:=none,fn:=fn',tmps:=a3.tmps,params:=ps.toArray,assign:=asx,body:=bd,defers:=w3.heap.size }
  ⟨rfl,rfl,rfl,ha3.1,λt ht=>ha3.2.2 t (by simp[ht])⟩ rfl rfl
 refine ⟨w3.heap.size+1,[{ target:=.collected w3.heap.size,args:=#[] }],((w3.alloc (.deferred (some []))).alloc (.loop { state:=.ready,pending:=none,fn:=fn',tmps:=a3.tmps,params:=ps.toArray,assign:=asx,body:=bd,defers:=w3.heap.size })),{ target:=.fn (.func f2) captured,args:=first++#[.func (.yield (w3.heap.size+1)) #[] #[]] },((w3.alloc (.deferred (some []))).alloc (.loop { state:=.ready,pending:=none,fn:=fn',tmps:=a3.tmps,params:=ps.toArray,assign:=asx,body:=bd,defers:=w3.heap.size })),f2,first++#[.func (.yield (w3.heap.size+1)) #[] #[]]++captured,((w3.alloc (.deferred (some []))).alloc (.loop { state:=.ready,pending:=none,fn:=fn',tmps:=a3.tmps,params:=ps.toArray,assign:=asx,body:=bd,defers:=w3.heap.size })),run_enterLoop_outer fn' a3.tmps ps.toArray asx bd,?_,λ_ _=>trivial,?_,(λh=>by cases h),callsIn_wide.2 (Calls.mono (Cl.ret hbody hcl) ?_)⟩
 ·have he:a3.eval g=.func (.func f2) first captured:=hev.trans hgv
  simp only[resolve,he,Deferred.ofValue,List.map_toArray,List.map_cons,List.map_nil]
  rfl
 ·exact Zcu hbody
 ·rintro ev w5 ⟨v,rfl,r',hr1,hr2,hr3⟩
  rcases hr3 with ⟨hr3,hr4⟩ | ⟨hr3,hr4⟩
  ·rw[hr3] at hr4
   refine ⟨none,_,by rw[run_endLoop hr1 hr2,hr3],?_⟩
   show Exit.inBlock _ _ .normal _ _
   refine wpIn_seq (Zac (ro:=none) (ds:=[{ target:=.collected w3.heap.size,args:=#[] }]) hm E _ _ _ _ _ _ _ (.inl rfl) hE ?_ ?_ ?_ ?_ hr4)
   ·exact ⟨ha3.1,by rw[ha3.2.1];rfl,λt ht=>ha3.2.2 t (by simp[ht])⟩
   ·rintro ρ4 a4 w6 ⟨hD,hK⟩ ha4 _
    refine wpIn_ret ?_
    show LeavesInM _ _ _ _ _ _ a4.defers _ _
    rw[ha4.2.1]
    refine ⟨by simp,.inl ⟨_,_,rfl,run_takeDeferred hD,?_⟩⟩
    obtain ⟨v,k3,k4⟩:=Zdr hr (⟨ha4.1,rfl,ha4.2.2⟩:ZdN [] nt _ { a4 with defers:=[] } ρ4) hmem hK
    exact ⟨_,k3,_,rfl,k4⟩
   ·exact λ_ _ _ _ hF _ _=>hF.elim
   ·exact λ_ _ _ hF _=>hF.elim
  ·rw[hr3] at hr4
   refine ⟨some .ret,_,by rw[run_endLoop hr1 hr2,hr3],?_⟩
   obtain ⟨hD,hK⟩:=hr4
   refine wpIn_ret ?_
   show LeavesInM _ _ _ _ _ _ (_++a3.defers) _ _
   rw[ha3.2.1]
   refine ⟨by simp,.inl ⟨_,_,rfl,run_takeDeferred hD,?_⟩⟩
   obtain ⟨v,k3,k4⟩:=Zdr hr (⟨ha3.1,rfl,ha3.2.2⟩:ZdN [] nt _ { a3 with defers:=[] } ρ3) (λr hr=>by simp[hmem r hr]) hK
   exact ⟨_,k3,_,rfl,k4⟩
def Zx1 (P:Program) (nt:Nat) (rs:List (Nat × Option TypeId)) (b:Option Code) (args:Array Value) (w:World) (K:KV):Prop:=
 match b with
 | some (.seq A (.seq (.seq C (.block _ (.rangeFunc g ps asx bd))) (.seq E .ret)))=>Zz0 P nt rs A C E g ps.toList asx bd args w K
 | _=>False
def ZrS (P:Program) (nt:Nat) (rs:List (Nat × Option TypeId)) (b:Option Code):Bool:=
 match b with
 | some (.seq A (.seq (.seq C (.block _ (.rangeFunc g ps asx bd))) (.seq E .ret)))=>Zq4 P nt rs A C E g ps.toList asx bd
 | _=>false
theorem Zlq {f:FuncId} {fn:Func} {args:Array Value} {nt:Nat} {rs:List (Nat × Option TypeId)} (hm:P.follows .mixedOrders=true)
  (hf:P.funcs[f]?=some fn) (hn:fn.ntmps=nt) (hr:fn.results=(rs.map Zx9).toArray) (hargs:args.size≤nt)
  (hok:ZrS P nt rs fn.body=true) {X:Prop} (hX:X=Zx1 P nt rs fn.body args w K) (h:X):Zdi P f args w K:=by
 rw[hX] at h
 unfold Zx1 at h
 unfold ZrS at hok
 split at h
 ·rename_i A C j g ps asx bd E hb
  rw[hb] at hok
  exact ZmS (i:=j) (ps:=ps.toList) hm hf (by rw[hb,Array.toArray_toList]) hn hr hargs hok h
 ·exact h.elim
variable {e:World} {R:List HP} {LR:Loop→Prop} {l:Nat}
def lpD (LR:Loop→Prop) (l:Nat):HP:=λh=>∃r,LR r∧r.state=.done∧r.pending=some .ret∧h l=some (.loop r)
theorem ZGj {K:World→Prop} (hS:Sat e w (lpC LR l .busy::R)) (hk:∀w',Sat e w' (lpD LR l::R)→K w'):edr l w K:=by
 obtain ⟨hc,r,h1,h2,h3,h4⟩:=ZhR hS
 refine ⟨r,ZcS h4,hk _ ?_⟩
 have h5:Sat e (w.putObj l (.loop { r with state:=.done,pending:=some .ret })) ((λh=>h l=some (.loop { r with state:=.done,pending:=some .ret }))::R):=h4.setB
 exact h5.imp λg hg=>⟨_,hc r .done (some .ret) h1,rfl,rfl,hg⟩
theorem ZF0 {gv:Value} {np:Nat} {Bd:Nat→(Nat→Value)→World→KV→Prop} {Kn Kr:Nat→World→Prop} {f2:FuncId} {captured:Array Value} (hg:gv=.func (.func f2) #[] captured) (hb:ZdL P f2=true) (hS:Sat e w R)
  (h:∀(l D:Nat) (LR:Loop→Prop) (w1:World) (Kf:World→Prop),
   (∀{e W:World} {R:List HP} {args:Array Value} {K:KV},Sat e W (lpC LR l .ready::R)→args.size=np→Bd l (λi=>args.getD i undef) W K→clV P (.func (.yield l) #[] #[]) args W K)→
   (∀{W:World} {R:List HP},Sat e W (lpC LR l .ready::R)→(∀W',Sat e W' R→Kn D W')→Kf W)→
   (∀{W:World} {R:List HP},Sat e W (lpD LR l::R)→(∀W',Sat e W' R→Kr D W')→Kf W)→
   Sat e w1 (lpC LR l .ready::dfC D::R)→Cl P f2 (#[.func (.yield l) #[] #[]]++captured) w1 λ_ W=>Kf W):ZFR P gv np Bd w Kn Kr:=by
 intro LR hc hy r hr hst hpd
 refine ⟨f2,#[],captured,hg,hb,?_⟩
 have h1:=(hS.alloc (.deferred (some []))).alloc (.loop r)
 rw[World.size_alloc] at h1
 refine h (w.heap.size+1) w.heap.size LR _ _ ?_ ?_ ?_ (h1.imp λg hg=>⟨hc,r,hr,hst,hpd,hg⟩)
 ·intro e W R args K hW hs hB
  obtain ⟨_,r,k1,k2,k3,k4⟩:=ZhR hW
  refine ⟨_,_,_,rfl,?_⟩
  show ex P (Instr.yield _ (#[]++args)) W K
  rw[Array.empty_append]
  exact hy r W _ args K k1 (ZcS k4) hs hB
 ·intro W R hW hK
  obtain ⟨_,r,k1,k2,k3,k4⟩:=ZhR hW
  refine ⟨r,ZcS k4,by rw[k2];exact (by decide),.inl ⟨k3,hK _ ?_⟩⟩
  have h5:Sat e (W.putObj (w.heap.size+1) (.loop { r with state:=.exhausted })) ((λh=>h (w.heap.size+1)=some (.loop { r with state:=.exhausted }))::R):=k4.setB
  exact h5.drop
 ·intro W R hW hK
  obtain ⟨h1,h2,d,s1,s2,⟨r,k1,k2,k3,k4⟩,h7⟩:=hW.mem
  have k4:Sat e W ((λh=>h (w.heap.size+1)=some (.loop r))::R):=hW.of_mem λ_=>⟨h1,h2,d,s1,s2,k4,h7⟩
  refine ⟨r,ZcS k4,by rw[k2];exact (by decide),.inr ⟨k3,hK _ ?_⟩⟩
  have h5:Sat e (W.putObj (w.heap.size+1) (.loop { r with state:=.exhausted })) ((λh=>h (w.heap.size+1)=some (.loop { r with state:=.exhausted }))::R):=k4.setB
  exact h5.drop
end
end Go.E
end
section
namespace Go.Proofs.YtkpdpddmaoablaaGreat
open Go Go.E
set_option linter.unusedVariables false
set_option maxRecDepth 100000
noncomputable abbrev prog:Program:=Go.Proofs.Tryz.prog
theorem Zm:prog.follows .mixedOrders=true:=by kernel_rfl
theorem ZML {f:FuncId} {fn:Func} {args:Array Value} {w:World} {K:KV} {F:Prop} (nt:Nat) (rs:List Nat) (hf:prog.funcs[f]?=some fn) (h:F) (hb:ZdL prog f=true:=by kernel_rfl) (hs:(match fn.body with | some _=>true | none=>false)=true:=by kernel_rfl) (hn:fn.ntmps=nt:=by kernel_rfl) (hr:fn.results=(rs.map ResultVar.tmp).toArray:=by kernel_rfl) (ha:Nat.ble args.size nt=true:=by kernel_rfl) (hok:ZGz prog nt rs (match fn.body with | some c=>c | none=>.skip)=true:=by kernel_rfl) (he:F=fnW prog nt rs (match fn.body with | some c=>c | none=>.skip) args w K:=by kernel_rfl):Cl prog f args w K:=
 Cl.mk hb (Zc Zm hf hs hn hr (Nat.le_of_ble_eq_true ha) hok he h)
theorem ZMM {f:FuncId} {fn:Func} {args:Array Value} {w:World} {K:KV} {F:Prop} (nt:Nat) (rs:List (Nat × Option TypeId)) (hf:prog.funcs[f]?=some fn) (h:F) (hb:ZdL prog f=true:=by kernel_rfl) (hs:(match fn.body with | some _=>true | none=>false)=true:=by kernel_rfl) (hn:fn.ntmps=nt:=by kernel_rfl) (hr:fn.results=(rs.map Zx9).toArray:=by kernel_rfl) (ha:Nat.ble args.size nt=true:=by kernel_rfl) (hok:ZEZ prog nt rs (match fn.body with | some c=>c | none=>.skip)=true:=by kernel_rfl) (he:F=ZGt prog nt rs (match fn.body with | some c=>c | none=>.skip) args w K:=by kernel_rfl):Cl prog f args w K:=
 Cl.mk hb (Zab Zm hf hs hn hr (Nat.le_of_ble_eq_true ha) hok he h)
abbrev Iw (n:Int):Value:=.int .i64 n
end Go.Proofs.YtkpdpddmaoablaaGreat
end
section
namespace Go.E
open Go.RowKit
theorem ZwL {k:IntKind} {a b:Int} {w:World} {K:KV} (h:K (.bool (decide (a<b))) w):bi .lss k (.int k a) (.int k b) w K:=by
 by_cases c:a<b
 ·rw[decide_eq_true c] at h;exact Ztt c h
 ·rw[decide_eq_false c] at h;exact Ze7 c h
theorem ZHY {k:IntKind} {a b:Int} {w:World} {K:KV} (h:K (.bool (decide (a≤b))) w):bi .leq k (.int k a) (.int k b) w K:=by
 by_cases c:a≤b
 ·rw[decide_eq_true c] at h;exact ZCA c h
 ·rw[decide_eq_false c] at h;exact ZCF c h
theorem ZFJ {k:IntKind} {a b:Int} {w:World} {K:KV} (h:K (.bool (decide (b<a))) w):bi .gtr k (.int k a) (.int k b) w K:=by
 by_cases c:b<a
 ·rw[decide_eq_true c] at h;exact ZtF c h
 ·rw[decide_eq_false c] at h;exact Zle c h
theorem ZGo {k:IntKind} {a b:Int} {w:World} {K:KV} (h:K (.bool (decide (b≤a))) w):bi .geq k (.int k a) (.int k b) w K:=by
 by_cases c:b≤a
 ·rw[decide_eq_true c] at h;exact Zqv c h
 ·rw[decide_eq_false c] at h;exact ZnR c h
theorem ZBD {k:IntKind} {a b:Int} {w:World} {K:KV} (h:K (.bool (decide (a=b))) w):bi .eql k (.int k a) (.int k b) w K:=by
 by_cases c:a=b
 ·rw[decide_eq_true c] at h;exact Znq c h
 ·rw[decide_eq_false c] at h;exact Zd8 c h
theorem ZF7 {k:IntKind} {a b:Int} {w:World} {K:KV} (h:K (.bool (decide (¬a=b))) w):bi .neq k (.int k a) (.int k b) w K:=by
 by_cases c:¬a=b
 ·rw[decide_eq_true c] at h;exact Zng c h
 ·rw[decide_eq_false c] at h;exact ZoP (Decidable.not_not.1 c) h
theorem Zam {a b:Value} {w:World} {K:KV} (h:K a w):xt 0 (.tuple #[a,b]) w K:=⟨_,a,rfl,rfl,h⟩
theorem Zal {a b:Value} {w:World} {K:KV} (h:K b w):xt 1 (.tuple #[a,b]) w K:=⟨_,b,rfl,rfl,h⟩
theorem Zok {a b c:Value} {w:World} {K:KV} (h:K a w):xt 0 (.tuple #[a,b,c]) w K:=⟨_,a,rfl,rfl,h⟩
theorem Zow {a b c:Value} {w:World} {K:KV} (h:K b w):xt 1 (.tuple #[a,b,c]) w K:=⟨_,b,rfl,rfl,h⟩
theorem ZoK {a b c:Value} {w:World} {K:KV} (h:K c w):xt 2 (.tuple #[a,b,c]) w K:=⟨_,c,rfl,rfl,h⟩
theorem Zrb {s:Bool} {body:KV→Prop} {w:World} {K:KV} (h:K undef w):gd undef s body w K:=⟨λe=>(by cases e),λ_=>h⟩
theorem Zk5 {q:Bool} {w:World} {K:KV} (h:K (.bool (!q)) w):Zb3 (.bool q) w K:=⟨q,rfl,h⟩
theorem Zt1 {p:Prop} [Decidable p] {A B:Prop} (h1:p→A) (h2:¬p→B):Zr (.bool (decide p)) A B:=⟨decide p,rfl,λh=>h1 (of_decide_eq_true h),λh=>h2 (of_decide_eq_false h)⟩
theorem Zuk (p:Nat→Prop):∀n,p n→∃n,p n∧∀m,p m→n≤m:=by
 intro n
 induction n using Nat.strongRecOn with
 | _ n ih=>
  intro h
  by_cases hq:∃m,m<n∧p m
  ·obtain ⟨m,hm,hpm⟩:=hq
   exact ih m hm hpm
  ·exact ⟨n,h,λm hm=>by
    by_cases hl:m<n
    ·exact absurd ⟨m,hl,hm⟩ hq
    ·omega⟩
open Classical in
noncomputable def lst (p:Nat→Prop):Nat:=if h:∃n,p n∧∀m,p m→n≤m then Classical.choose h else 0
theorem Zdy {p:Nat→Prop} {n:Nat} (h:p n):p (lst p)∧∀m,p m→lst p≤m:=by
 have:=Zuk p n h
 unfold lst
 rw[dif_pos this]
 exact Classical.choose_spec this
theorem ZG9 {w:World} {f:World→Zbc→Prop} (I:Nat→World→Prop) (n:Nat) (h0:I n w)
  (hr:∀n w (g:Zbc),I n w→(∀n' w',n'<n→I n' w'→g [] w')→f w g):lp [] w (b0 f):=by
 refine lp0 (λw=>∃n,I n w) (λw=>lst λn=>I n w) ⟨n,h0⟩ ?_
 rintro w g ⟨n,hI⟩ hg
 have hs:=Zdy (p:=λn=>I n w) hI
 exact hr _ w g hs.1 λn' w' hn hI'=>hg _ ⟨n',hI'⟩ (Nat.lt_of_le_of_lt ((Zdy (p:=λn=>I n w') hI').2 n' hI') hn)
theorem Zdk {x0:Value} {w:World} {f:Value→World→Zbc→Prop} (I:Nat→Value→World→Prop) (n:Nat) (h0:I n x0 w)
  (hr:∀n x0 w (g:Zbc),I n x0 w→(∀n' x0' w',n'<n→I n' x0' w'→g [x0'] w')→f x0 w g):lp [x0] w (b1 f):=by
 refine lp1 (λx0 w=>∃n,I n x0 w) (λx0 w=>lst λn=>I n x0 w) ⟨n,h0⟩ ?_
 rintro x0 w g ⟨n,hI⟩ hg
 have hs:=Zdy (p:=λn=>I n x0 w) hI
 exact hr _ x0 w g hs.1 λn' x0' w' hn hI'=>hg _ _ ⟨n',hI'⟩ (Nat.lt_of_le_of_lt ((Zdy (p:=λn=>I n x0' w') hI').2 n' hI') hn)
theorem ZjF {x0 x1:Value} {w:World} {f:Value→Value→World→Zbc→Prop} (I:Nat→Value→Value→World→Prop) (n:Nat) (h0:I n x0 x1 w)
  (hr:∀n x0 x1 w (g:Zbc),I n x0 x1 w→(∀n' x0' x1' w',n'<n→I n' x0' x1' w'→g [x0',x1'] w')→f x0 x1 w g):lp [x0,x1] w (b2 f):=by
 refine lp2 (λx0 x1 w=>∃n,I n x0 x1 w) (λx0 x1 w=>lst λn=>I n x0 x1 w) ⟨n,h0⟩ ?_
 rintro x0 x1 w g ⟨n,hI⟩ hg
 have hs:=Zdy (p:=λn=>I n x0 x1 w) hI
 exact hr _ x0 x1 w g hs.1 λn' x0' x1' w' hn hI'=>hg _ _ _ ⟨n',hI'⟩ (Nat.lt_of_le_of_lt ((Zdy (p:=λn=>I n x0' x1' w') hI').2 n' hI') hn)
theorem ZIw {x0 x1 x2:Value} {w:World} {f:Value→Value→Value→World→Zbc→Prop} (I:Nat→Value→Value→Value→World→Prop) (n:Nat) (h0:I n x0 x1 x2 w)
  (hr:∀n x0 x1 x2 w (g:Zbc),I n x0 x1 x2 w→(∀n' x0' x1' x2' w',n'<n→I n' x0' x1' x2' w'→g [x0',x1',x2'] w')→f x0 x1 x2 w g):lp [x0,x1,x2] w (b3 f):=by
 refine lp3 (λx0 x1 x2 w=>∃n,I n x0 x1 x2 w) (λx0 x1 x2 w=>lst λn=>I n x0 x1 x2 w) ⟨n,h0⟩ ?_
 rintro x0 x1 x2 w g ⟨n,hI⟩ hg
 have hs:=Zdy (p:=λn=>I n x0 x1 x2 w) hI
 exact hr _ x0 x1 x2 w g hs.1 λn' x0' x1' x2' w' hn hI'=>hg _ _ _ _ ⟨n',hI'⟩ (Nat.lt_of_le_of_lt ((Zdy (p:=λn=>I n x0' x1' x2' w') hI').2 n' hI') hn)
theorem ZlB {κ ν:Type} [DecidableEq κ]:∀{m:List (κ × ν)},(m.map (·.1)).Nodup→∀{p:κ × ν},p∈m→(m.find? λq=>decide (q.1=p.1))=some p
 | [],_,p,h=>by cases h
 | q::m,hn,p,h=>by
  rw[List.map_cons,List.nodup_cons] at hn
  rw[List.find?_cons]
  cases h with
  | head=>simp
  | tail _ h=>
   have:¬q.1=p.1:=λe=>hn.1 (List.mem_map.2 ⟨p,h,e.symm⟩)
   simp only[this,decide_false]
   exact ZlB hn.2 h
section
variable {κ ν:Type}
structure ZvT [DecidableEq κ] (P:Program) (kt:TypeId) (kf:κ→Value):Prop where
 chk:∀(b:Bool) (k:κ) (w:World),(Instr.checkKey b 10000 kt (kf k)).run P w=.ok () w
 fnd:∀(k:κ) (es:List MapEntry) (ks:List κ),es.map (·.key)=ks.map kf→∀w:World,(Instr.findKey kt (kf k) es).run P w=.ok ((ks.findIdx? λx=>decide (x=k)).bind λi=>(es[i]?).map λe=>(i,e.val)) w
 sam:∀k,Instr.sameBits 10000 (kf k) (kf k)=true
structure Zx6 (P:Program) (t kt vt:TypeId) (zv:Value):Prop where
 und:P.underlying t=some (.map kt vt)
 zero:∃i,P.info? vt=some i∧i.zero=some zv
def ZBE (es:List MapEntry) (clock:Nat):Prop:=es.Pairwise (λa b=>a.born<b.born)∧∀e∈es,e.born<clock
def Zcn (kf:κ→Value) (vf:ν→Value) (p:κ × ν):Value × Value:=(kf p.1,vf p.2)
def Zaj (kf:κ→Value) (vf:ν→Value) (b:Nat) (m:List (κ × ν)):HP:=λh=>
 ∃es clock,h b=some (.map es clock)∧es.toList.map (λe=>(e.key,e.val))=m.map (Zcn kf vf)∧ZBE es.toList clock
def lkA [DecidableEq κ] (m:List (κ × ν)) (k:κ):Option ν:=(m.find? λp=>decide (p.1=k)).map (·.2)
def upA [DecidableEq κ] (m:List (κ × ν)) (k:κ) (x:ν):List (κ × ν):=if (lkA m k).isSome then m.map (λp=>if p.1=k then (k,x) else p) else m++[(k,x)]
def Znz (m:List (κ × ν)):Prop:=(m.map (·.1)).Nodup
variable {P:Program} {kt vt t:TypeId} {kf:κ→Value} {vf:ν→Value} {zv:Value} {e w:World} {L:List HP} {K:KV} {b:Nat} {m:List (κ × ν)}
theorem ZlZ {es:List MapEntry} (h:es.map (λe=>(e.key,e.val))=m.map (Zcn kf vf)):es.map (·.key)=(m.map (·.1)).map kf:=by
 have:=congrArg (List.map Prod.fst) h
 simpa [List.map_map,Function.comp_def,Zcn] using this
theorem ZxB {es:List MapEntry} (h:es.map (λe=>(e.key,e.val))=m.map (Zcn kf vf)) (i:Nat):(es[i]?).map (·.val)=(m[i]?).map λp=>vf p.2:=by
 have:=congrArg (λl=>(l[i]?).map Prod.snd) h
 simpa [List.getElem?_map,Option.map_map,Function.comp_def,Zcn] using this
theorem ZxT {es:List MapEntry} (h:es.map (λe=>(e.key,e.val))=m.map (Zcn kf vf)) (i:Nat):(es[i]?).map (·.key)=(m[i]?).map λp=>kf p.1:=by
 have:=congrArg (λl=>(l[i]?).map Prod.fst) h
 simpa [List.getElem?_map,Option.map_map,Function.comp_def,Zcn] using this
theorem ZlY [DecidableEq κ]:∀(m:List (κ × ν)) (k:κ),((m.map (·.1)).findIdx? λx=>decide (x=k)).bind (λi=>(m[i]?).map (·.2))=lkA m k
 | [],k=>rfl
 | p::m,k=>by
  simp only[List.map_cons,List.findIdx?_cons,lkA,List.find?_cons]
  by_cases h:p.1=k
  ·simp[h]
  ·have ih:=ZlY m k
   simp only[lkA] at ih
   simp only[h,decide_false,Bool.false_eq_true,if_false,←ih]
   cases hf:(m.map (·.1)).findIdx? (λx=>decide (x=k)) with
   | none=>simp
   | some i=>simp
theorem Sat.getMap (hS:Sat e w L) (i:Nat) (hi:L[i]?=some (Zaj kf vf b m)):∃es clock,w.heap[b]?=some (.map es clock)∧es.toList.map (λe=>(e.key,e.val))=m.map (Zcn kf vf)∧ZBE es.toList clock:=by
 obtain ⟨g,⟨es,clock,h1,h2,h3⟩,hs⟩:=hS.get i hi
 exact ⟨es,clock,hs _ _ h1,h2,h3⟩
theorem Zfx (kf:κ→Value) (vf:ν→Value) (hS:Sat e w L) (hk:∀b w',Sat e w' (Zaj kf vf b []::L)→K (.map (some b)) w'):ZlQ w K:=by
 refine hk _ _ ((hS.alloc (.map #[] 0)).imp λg hg=>⟨#[],0,hg,rfl,?_⟩)
 exact ⟨List.Pairwise.nil,λe he=>by cases he⟩
theorem Zbf {b:Nat} {es:Array MapEntry} {clock:Nat} (h:w.heap[b]?=some (.map es clock)):(getObj b).run P w=.ok (.map es clock) w:=by
 simp only[getObj,Sem.run,h]
theorem ZsE [DecidableEq κ] (KT:ZvT P kt kf) (MT:Zx6 P t kt vt zv) (hS:Sat e w L) (i:Nat) (hi:L[i]?=some (Zaj kf vf b m)) (k:κ)
  (hk:K (.tuple #[match lkA m k with | some x=>vf x | none=>zv,.bool (lkA m k).isSome]) w):lkM P t (.map (some b)) (kf k) true w K:=by
 obtain ⟨es,clock,h1,h2,h3⟩:=hS.getMap i hi
 obtain ⟨inf,hi1,hi2⟩:=MT.zero
 refine Yn (w':=w) ?_ hk
 have hf:=KT.fnd k es.toList (m.map (·.1)) (ZlZ h2) w
 unfold Instr.lookup
 simp only[Sem.run_bind,Yb MT.und,Result.andThen_ok,Zbf h1,Sem.run_pure,KT.chk,hf]
 have hl:=ZlY m k
 cases hx:(m.map (·.1)).findIdx? (λx=>decide (x=k)) with
 | none=>
  rw[hx] at hl
  simp only[Option.bind_none] at hl ⊢
  rw[←hl]
  simp only[Sem.run_bind,Zdn hi1 hi2,Result.andThen_ok,Sem.run_pure]
  rfl
 | some j=>
  rw[hx] at hl
  simp only[Option.bind_some] at hl ⊢
  have hv:=ZxB h2 j
  have hjl:j<m.length:=by
   obtain ⟨hj,_⟩:=List.findIdx?_eq_some_iff_getElem.1 hx
   simpa using hj
  rw[List.getElem?_eq_getElem hjl] at hv hl
  simp only[Option.map_some] at hv hl
  obtain ⟨e',he,hev⟩:=Option.map_eq_some_iff.1 hv
  rw[he,←hl]
  simp only[Option.map_some,hev]
  rfl
theorem Zmm {k0:IntKind} (k:Int):∀(es:List MapEntry) (ks:List Int) (i:Nat),es.map (·.key)=ks.map (λn=>Value.int k0 n)→
  Instr.findNow (.int k0) (.int k0 k) es i=some ((ks.findIdx? λx=>decide (x=k)).bind λj=>(es[j]?).map λe=>(i+j,e.val))
 | [],ks,i,h=>by
  cases ks with
  | nil=>rfl
  | cons=>cases h
 | e::es,ks,i,h=>by
  cases ks with
  | nil=>cases h
  | cons x ks=>
   simp only[List.map_cons,List.cons.injEq] at h
   simp only[Instr.findNow,h.1,Instr.sameNow,if_true,List.findIdx?_cons]
   by_cases hx:x=k
   ·subst hx
    simp
   ·have hk:(k==x)=false:=by simp;exact λe=>hx e.symm
    rw[hk,Zmm k es ks (i+1) h.2]
    simp only[hx,decide_false,Bool.false_eq_true,if_false]
    cases ks.findIdx? (λx=>decide (x=k)) with
    | none=>rfl
    | some j=>simp[Nat.add_comm,Nat.add_left_comm]
theorem Zwe {P:Program} {kt:TypeId} {k0:IntKind} (hu:P.underlying kt=some (.int k0)):ZvT P kt (λn:Int=>.int k0 n) where
 chk b k w:=by
  unfold Instr.checkKey
  simp only[Sem.run_bind,Yb hu,Result.andThen_ok,Sem.run_pure]
 fnd k es ks h w:=by
  unfold Instr.findKey
  simp only[Sem.run_bind,Yb hu,Result.andThen_ok,Zmm k es ks 0 h,Sem.run_pure,Nat.zero_add]
 sam k:=by simp[Instr.sameBits]
theorem ZlP {es:List MapEntry} {clock:Nat} (h:ZBE es clock) (i:Nat) (f:MapEntry→MapEntry) (hf:∀e,(f e).born=e.born):ZBE (es.modify i f) clock:=by
 have hb:(es.modify i f).map (·.born)=es.map (·.born):=by
  apply List.ext_getElem?
  intro j
  simp only[List.getElem?_map,List.getElem?_modify]
  cases es[j]? with
  | none=>rfl
  | some x=>by_cases hij:i=j <;> simp[hij,hf]
 constructor
 ·have h1:=(List.pairwise_map (f:=λe:MapEntry=>e.born) (R:=(·<·))).2 h.1
  rw[←hb] at h1
  exact List.pairwise_map.1 h1
 ·intro e he
  have:e.born∈(es.modify i f).map (·.born):=List.mem_map.2 ⟨e,he,rfl⟩
  rw[hb] at this
  obtain ⟨e',he',h2⟩:=List.mem_map.1 this
  rw[←h2]
  exact h.2 e' he'
theorem ZsG [DecidableEq κ] (KT:ZvT P kt kf) (MT:Zx6 P t kt vt zv) (hu:Znz m) (hS:Sat e w (Zaj kf vf b m::L)) (k:κ) (x:ν) {xv:Value} (hx:xv=vf x)
  (hk:∀w',Sat e w' (Zaj kf vf b (upA m k x)::L)→K undef w'):upM P t (.map (some b)) (kf k) xv w K:=by
 subst hx
 obtain ⟨h1,h2,d,s1,s2,⟨es,clock,hb,hm,hbo⟩,r⟩:=hS.mem
 have hh:w.heap[b]?=some (.map es clock):=s1 _ _ hb
 have hlt:b<w.heap.size:=(Array.getElem?_eq_some_iff.1 hh).1
 have hS0:Sat e w ((λg=>g b=some (.map es clock))::L):=⟨hS.os,hS.tape,hS.output,hS.drawn,hS.size,h1,h2,d,s1,s2,hb,r⟩
 have hf:=KT.fnd k es.toList (m.map (·.1)) (ZlZ hm) w
 have hl:=ZlY m k
 cases hx:(m.map (·.1)).findIdx? (λx=>decide (x=k)) with
 | none=>
  rw[hx] at hl hf
  simp only[Option.bind_none] at hl hf
  refine Zwl (w':=World.setB w b (.map (es.push { key:=kf k,val:=vf x,born:=clock }) (clock+1))) ?_ (hk _ ?_)
  ·unfold Instr.mapUpdate
   simp only[Sem.run_bind,Yb MT.und,Result.andThen_ok,Zbf hh,KT.chk,hf,setObj,Sem.run,hh,World.setB]
  ·refine hS0.setB.imp λg hg=>⟨_,_,hg,?_,?_⟩
   ·unfold upA
    rw[←hl]
    simp[hm,Zcn]
   ·constructor
    ·rw[Array.toList_push,List.pairwise_append]
     exact ⟨hbo.1,by simp,λa ha b hb'=>by simp at hb';subst hb';exact hbo.2 a ha⟩
    ·intro e' he'
     rw[Array.toList_push,List.mem_append] at he'
     rcases he' with he' | he'
     ·have:=hbo.2 e' he';omega
     ·simp at he';subst he';simp
 | some j=>
  rw[hx] at hl hf
  simp only[Option.bind_some] at hl hf
  obtain ⟨hj,hjk,hjn⟩:=List.findIdx?_eq_some_iff_getElem.1 hx
  simp only[List.length_map] at hj
  simp only[List.getElem_map,decide_eq_true_eq] at hjk
  have hkey:=ZxT hm j
  rw[List.getElem?_eq_getElem hj] at hkey hl
  simp only[Option.map_some] at hkey hl
  obtain ⟨e',he,hek⟩:=Option.map_eq_some_iff.1 hkey
  rw[he] at hf
  simp only[Option.map_some] at hf
  have he2:es[j]?=some e':=by rw[←Array.getElem?_toList];exact he
  refine Zwl (w':=World.setB w b (.map (es.modify j λe=>{ e with key:=kf k,val:=vf x }) clock)) ?_ (hk _ ?_)
  ·unfold Instr.mapUpdate
   have hst:(Instr.keyThatStays (((es[j]?).map (·.key)).getD (kf k)) (kf k)).run P w=.ok (kf k) w:=by
    rw[he2]
    simp only[Option.map_some,Option.getD_some,hek,hjk,Instr.keyThatStays,KT.sam,if_true,Sem.run_pure]
   simp only[Sem.run_bind,Yb MT.und,Result.andThen_ok,Zbf hh,KT.chk,hf,hst,setObj,Sem.run,hh,World.setB]
  ·refine hS0.setB.imp λg hg=>⟨_,_,hg,?_,?_⟩
   ·unfold upA
    rw[←hl]
    simp only[Option.isSome_some,if_true]
    apply List.ext_getElem?
    intro n
    have hn:=congrArg (λl=>l[n]?) hm
    simp only[List.getElem?_map] at hn ⊢
    rw[Array.toList_modify,List.getElem?_modify]
    cases hen:es.toList[n]? with
    | none=>
     rw[hen] at hn
     cases hmn:m[n]? with
     | none=>rfl
     | some p=>rw[hmn] at hn;cases hn
    | some en=>
     rw[hen] at hn
     cases hmn:m[n]? with
     | none=>rw[hmn] at hn;cases hn
     | some p=>
      rw[hmn] at hn
      simp only[Option.map_some,Option.some.injEq] at hn ⊢
      by_cases hjn':j=n
      ·subst hjn'
       have hp:p.1=k:=by
        rw[List.getElem?_eq_getElem hj] at hmn
        cases hmn
        exact hjk
       simp[hp,Zcn]
      ·have hp:p.1≠k:=by
        intro hpk
        have hnl:=(List.getElem?_eq_some_iff.1 hmn).1
        have e1:(m.map (·.1))[j]?=some k:=by simp[List.getElem?_eq_getElem hj,hjk]
        have e2:(m.map (·.1))[n]?=some k:=by simp[hmn,hpk]
        have:=(List.getElem?_inj (by simpa using hj) hu).1 (e1.trans e2.symm)
        exact hjn' this
       simp only[hjn',if_false,hp]
       exact congrArg some hn
   ·rw[Array.toList_modify]
    exact ZlP hbo j _ (λ_=>rfl)
theorem Zw2 [DecidableEq κ] (m:List (κ × ν)) (k:κ) (x:ν):(upA m k x).map (·.1)=if (lkA m k).isSome then m.map (·.1) else m.map (·.1)++[k]:=by
 unfold upA
 split
 ·rw[List.map_map]
  apply List.map_congr_left
  intro p _
  simp only[Function.comp]
  split
  ·rename_i h;exact h.symm
  ·rfl
 ·simp
theorem ZwA [DecidableEq κ] {m:List (κ × ν)} {k:κ}:lkA m k=none↔k∉m.map (·.1):=by
 unfold lkA
 simp only[Option.map_eq_none_iff,List.find?_eq_none,decide_eq_true_eq,List.mem_map,not_exists,not_and]
theorem Znz.up [DecidableEq κ] {m:List (κ × ν)} (h:Znz m) (k:κ) (x:ν):Znz (upA m k x):=by
 unfold Znz
 rw[Zw2]
 split
 ·exact h
 ·rename_i hn
  have:lkA m k=none:=by cases hl:lkA m k <;> simp_all
  rw[ZwA] at this
  rw[List.nodup_append]
  exact ⟨h,by simp,λa ha b hb=>by simp at hb;subst hb;exact λe=>this (e▸ha)⟩
theorem ZiY [DecidableEq κ] {m:List (κ × ν)} (_h:Znz m) (k:κ) (x:ν) (j:κ):lkA (upA m k x) j=if j=k then some x else lkA m j:=by
 unfold upA
 split
 ·rename_i hs
  clear _h
  induction m with
  | nil=>simp[lkA] at hs
  | cons p m ih=>
   simp only[lkA,List.map_cons,List.find?_cons] at hs ih ⊢
   by_cases hp:p.1=k
   ·by_cases hj:j=k
    ·subst hj
     simp[hp]
    ·have hpj:¬p.1=j:=λe=>hj (e▸hp)
     have hkj:¬k=j:=λe=>hj e.symm
     simp only[hp,if_true,hkj,decide_false,hj,if_false]
     clear ih hs
     have:∀m:List (κ × ν),((m.map λp=>if p.1=k then (k,x) else p).find? λp=>decide (p.1=j)).map (·.2)=(m.find? λp=>decide (p.1=j)).map (·.2):=by
      intro m
      induction m with
      | nil=>rfl
      | cons q m ih=>
       simp only[List.map_cons,List.find?_cons]
       by_cases hq:q.1=k
       ·have hqj:¬q.1=j:=λe=>hj (e▸hq)
        simp only[hq,if_true,hkj,decide_false]
        exact ih
       ·simp only[hq,if_false]
        cases hqd:decide (q.1=j) with
        | true=>rfl
        | false=>exact ih
     simpa using this m
   ·simp only[hp,decide_false,if_false] at hs ⊢
    have ih':=ih hs
    by_cases hpj:p.1=j
    ·have hjk:¬j=k:=λe=>hp (hpj.trans e)
     simp[hpj,hjk]
    ·simp only[hpj,decide_false]
     exact ih'
 ·rename_i hn
  have hnone:lkA m k=none:=by cases hl:lkA m k <;> simp_all
  unfold lkA at hnone ⊢
  rw[List.find?_append]
  by_cases hj:j=k
  ·subst hj
   rw[Option.map_eq_none_iff] at hnone
   simp[hnone]
  ·have hkj:¬k=j:=λe=>hj e.symm
   simp[hj,hkj]
def ZwS (kf:κ→Value) (vf:ν→Value) (b r:Nat) (m rem:List (κ × ν)) (cur:Option (κ × ν)):HP:=λh=>
 ∃es clock seen,h b=some (.map es clock)∧h r=some (.mapIter (some b) clock seen clock)∧es.toList.map (λe=>(e.key,e.val))=m.map (Zcn kf vf)∧ZBE es.toList clock∧
  (es.toList.filter λe=>!seen.contains e.born).map (λe=>(e.key,e.val))=rem.map (Zcn kf vf)∧
  match cur with
  | none=>seen=#[]
  | some p=>∃e'∈es.toList,seen.back?=some e'.born∧(e'.key,e'.val)=Zcn kf vf p
theorem ZB0 (hu:P.underlying t=some (.map kt vt)) (hS:Sat e w (Zaj kf vf b m::L)) (hk:∀r w',Sat e w' (ZwS kf vf b r m m none::L)→K (.pointer (some ⟨r,0,none⟩)) w'):rgM P t (.map (some b)) w K:=by
 obtain ⟨h1,h2,d,s1,s2,⟨es,clock,hb,hm,hbo⟩,r⟩:=hS.mem
 have hh:w.heap[b]?=some (.map es clock):=s1 _ _ hb
 refine Yn (w':=w.alloc (.mapIter (some b) clock #[] clock)) (v:=.pointer (some ⟨w.heap.size,0,none⟩)) ?_ (hk _ _ ?_)
 ·unfold Instr.range
  simp only[Sem.run_bind,Yb hu,Result.andThen_ok,Zbf hh,Sem.run_pure,newObj,Sem.run,World.alloc]
 ·have hS0:Sat e w ((λg=>g b=some (.map es clock))::L):=⟨hS.os,hS.tape,hS.output,hS.drawn,hS.size,h1,h2,d,s1,s2,hb,r⟩
  have h3:=hS0.alloc (.mapIter (some b) clock #[] clock)
  refine (Sat.join (l':=[_,_]) h3).imp λg hg=>?_
  obtain ⟨g1,g2,d',t1,t2,p1,g3,g4,d2,t3,t4,p2,_⟩:=hg
  exact ⟨es,clock,#[],t2 _ _ (t3 _ _ p2),t1 _ _ p1,hm,hbo,by rw[List.filter_eq_self.2 (λ_ _=>by simp)];exact hm,rfl⟩
theorem Zsr {r:Nat} {rem:List (κ × ν)} {cur:Option (κ × ν)}:∀g,ZwS kf vf b r m rem cur g→Zaj kf vf b m g:=λ_ ⟨es,clock,_,h1,_,h2,h3,_⟩=>⟨es,clock,h1,h2,h3⟩
theorem Sat.setB2 {b:Nat} {o':Obj} {Q P2:HP} (hS:Sat e w (Q::L)) (hq:∀g,Q g→∃o,g b=some o) (hp:∀g,Q g→P2 (λx=>if x=b then some o' else g x)):Sat e (World.setB w b o') (P2::L):=by
 obtain ⟨h1,h2,d,s1,s2,q,r⟩:=hS.mem
 obtain ⟨o,ho⟩:=hq h1 q
 have hw:Go.E.hp w b=some o:=s1 _ _ ho
 have hlt:b<w.heap.size:=(Array.getElem?_eq_some_iff.1 hw).1
 have hb2:h2 b=none:=by
  rcases d b with k | k
  ·rw[ho] at k;cases k
  ·exact k
 refine ⟨hS.os,hS.tape,hS.output,hS.drawn,by simpa [World.setB] using hS.size,(λx=>if x=b then some o' else h1 x),h2,λx=>?_,λx u k=>?_,λx u k=>?_,hp _ q,r⟩
 ·by_cases e:x=b
  ·subst e;exact .inr hb2
  ·simp only[if_neg e];exact d x
 ·rw[ZqG _ _ _ hlt]
  by_cases e:x=b
  ·subst e;simpa using k
  ·simp only[if_neg e] at k ⊢;exact s1 x u k
 ·rw[ZqG _ _ _ hlt]
  by_cases e:x=b
  ·subst e;rw[hb2] at k;cases k
  ·simp only[if_neg e];exact s2 x u k
theorem List.eraseIdx_map_c {α β:Type} (f:α→β):∀(l:List α) (i:Nat),(l.eraseIdx i).map f=(l.map f).eraseIdx i
 | [],_=>rfl
 | _::_,0=>rfl
 | a::l,i+1=>by simp[List.eraseIdx_map_c f l i]
theorem ZpQ (es:List MapEntry) (seen:Array Nat) (x:MapEntry) (i:Nat) (hnd:(es.map (·.born)).Nodup) (l:List MapEntry) (hl:l=es.filter λe=>!seen.contains e.born) (hi:i<l.length) (hx:l[i]=x) :
  (es.filter λe=>!(seen.push x.born).contains e.born)=l.eraseIdx i:=by
 have h1:(es.filter λe=>!(seen.push x.born).contains e.born)=(es.filter λe=>!seen.contains e.born).filter λe=>!(e.born==x.born):=by
  rw[List.filter_filter]
  apply List.filter_congr
  intro a _
  by_cases h:a.born=x.born <;> simp[h,Array.mem_push]
 rw[h1,←hl]
 have hnd2:(l.map (·.born)).Nodup:=by rw[hl];exact (List.Sublist.map _ List.filter_sublist).nodup hnd
 clear h1 hnd hl
 induction l generalizing i with
 | nil=>cases hi
 | cons a l ih=>
  rw[List.map_cons,List.nodup_cons] at hnd2
  cases i with
  | zero=>
   simp only[List.getElem_cons_zero] at hx
   subst hx
   simp only[List.filter_cons,beq_self_eq_true,Bool.not_true,Bool.false_eq_true,if_false,List.eraseIdx_cons_zero]
   apply List.filter_eq_self.2
   intro y hy
   have:y.born≠a.born:=λh=>hnd2.1 (List.mem_map.2 ⟨y,hy,h⟩)
   simpa using this
  | succ i=>
   simp only[List.getElem_cons_succ] at hx
   have hil:i<l.length:=by simpa using hi
   have:a.born≠x.born:=λh=>hnd2.1 (List.mem_map.2 ⟨x,by rw[←hx];exact List.getElem_mem _,h.symm⟩)
   have hb:(!(a.born==x.born))=true:=by simpa using this
   simp only[List.filter_cons,hb,if_true,List.eraseIdx_cons_succ]
   rw[ih i hil hx hnd2.2]
theorem ZBW {r:Nat} {rem:List (κ × ν)} {cur:Option (κ × ν)} {ty:TypeId} (hS:Sat e w (ZwS kf vf b r m rem cur::L))
  (h0:rem=[]→∀w',Sat e w' (ZwS kf vf b r m [] cur::L)→K (.tuple #[.bool false]) w')
  (h1:∀(i:Nat) (p:κ × ν) (w':World),rem[i]?=some p→Sat e w' (ZwS kf vf b r m (rem.eraseIdx i) (some p)::L)→K (.tuple #[.bool true,kf p.1,vf p.2]) w') :
  nxM P (.pointer (some ⟨r,0,none⟩)) false ty w K:=by
 obtain ⟨g,hg,hs⟩:=hS.get 0 rfl
 obtain ⟨es,clock,seen,hb,hr,hm,hbo,hrem,hcur⟩:=hg
 have hwb:w.heap[b]?=some (.map es clock):=hs _ _ hb
 have hwr:w.heap[r]?=some (.mapIter (some b) clock seen clock):=hs _ _ hr
 have hold:∀x∈es.toList,x.born<clock:=hbo.2
 have hleft:(leftOf es seen).toList=es.toList.filter λe=>!seen.contains e.born:=by unfold leftOf;simp
 rw[←hleft] at hrem
 rcases run_next_at (P:=P) w ty r b clock clock seen es clock hwr hwb hold (Nat.le_refl _) with ⟨hz,hrun⟩ | ⟨x,hx,w1,hw1,hrun⟩
 ·have hr0:rem=[]:=by
   have:=congrArg List.length hrem
   rw[List.length_map,List.length_map,Array.length_toList,hz] at this
   exact List.length_eq_zero_iff.1 this.symm
  subst hr0
  exact Yn hrun (h0 rfl w hS)
 ·obtain ⟨i,hi,hxi⟩:=List.getElem_of_mem hx
  have hil:i<rem.length:=by
   have:=congrArg List.length hrem
   simp only[List.length_map] at this
   omega
  have hpe:(x.key,x.val)=Zcn kf vf rem[i]:=by
   have:=congrArg (λl=>l[i]?) hrem
   simp only[List.getElem?_map,List.getElem?_eq_getElem hi,List.getElem?_eq_getElem hil,Option.map_some,Option.some.injEq,hxi] at this
   exact this
  have hSw:Sat e w1 (ZwS kf vf b r m rem cur::L):=by rcases hw1 with rfl | rfl;exact hS;exact hS.drew
  have hk2:=h1 i rem[i] (World.setB w1 r (.mapIter (some b) clock (seen.push x.born) clock)) (List.getElem?_eq_getElem hil)
  simp only[Zcn,Prod.mk.injEq] at hpe
  rw[←hpe.1,←hpe.2] at hk2
  refine Yn hrun (hk2 ?_)
  have hw1b:w1.heap[b]?=some (.map es clock):=by rcases hw1 with rfl | rfl <;> exact hwb
  have hw1r:w1.heap[r]?=some (.mapIter (some b) clock seen clock):=by rcases hw1 with rfl | rfl <;> exact hwr
  have hS1:Sat e w1 ((λg=>g b=some (.map es clock)∧g r=some (.mapIter (some b) clock seen clock))::L):=by
   obtain ⟨k1,k2,d,s1,s2,⟨es',clock',seen',q1,q2,_⟩,rr⟩:=hSw.mem
   have e1:=s1 _ _ q1
   have e2:=s1 _ _ q2
   have f1:some (Obj.map es' clock')=some (Obj.map es clock):=by rw[←hw1b];exact e1.symm
   have f2:some (Obj.mapIter (some b) clock' seen' clock')=some (Obj.mapIter (some b) clock seen clock):=by rw[←hw1r];exact e2.symm
   refine ⟨hSw.os,hSw.tape,hSw.output,hSw.drawn,hSw.size,k1,k2,d,s1,s2,⟨by rw[q1,f1],by rw[q2,f2]⟩,rr⟩
  refine hS1.setB2 (λg hg=>⟨_,hg.2⟩) (λg hg=>?_)
  have hbr:b≠r:=by
   intro h
   subst h
   rw[hg.1] at hg
   cases hg.2
  have hnd:(es.toList.map (·.born)).Nodup:=(List.pairwise_map (f:=λe:MapEntry=>e.born) (R:=(·<·))).2 hbo.1 |>.imp (λh=>Nat.ne_of_lt h)
  refine ⟨es,clock,seen.push x.born,by simp only[if_neg hbr];exact hg.1,by simp,hm,hbo,?_,x,?_,by simp,by simp only[Zcn,hpe]⟩
  ·have:(es.toList.filter λe=>!(seen.push x.born).contains e.born)=(leftOf es seen).toList.eraseIdx i:=by
    exact ZpQ es.toList seen x i hnd _ hleft hi hxi
   rw[this,List.eraseIdx_map_c,hrem,←List.eraseIdx_map_c]
  ·rw[hleft] at hx
   exact (List.mem_filter.1 hx).1
theorem ZCg {r:Nat} {rem:List (κ × ν)} {p:κ × ν} (i:Nat) (hS:Sat e w L) (hi:L[i]?=some (ZwS kf vf b r m rem (some p)))
  (hk:K (.tuple #[kf p.1,vf p.2]) w):enM P (.pointer (some ⟨r,0,none⟩)) w K:=by
 obtain ⟨g,hg,hs⟩:=hS.get i hi
 obtain ⟨es,clock,seen,hb,hr,hm,hbo,hrem,e',he',hback,hpe⟩:=hg
 have hwb:w.heap[b]?=some (.map es clock):=hs _ _ hb
 have hwr:w.heap[r]?=some (.mapIter (some b) clock seen clock):=hs _ _ hr
 have hfind:es.find? (λx=>x.born==e'.born)=some e':=by
  rw[←Array.find?_toList]
  have huniq:∀l:List MapEntry,l.Pairwise (λa b=>a.born<b.born)→e'∈l→l.find? (λx=>x.born==e'.born)=some e':=by
   intro l
   induction l with
   | nil=>intro _ h;cases h
   | cons x l ih=>
    intro hp hmem
    rw[List.pairwise_cons] at hp
    rw[List.find?_cons]
    cases hmem with
    | head=>simp
    | tail _ hmem=>
     have:=hp.1 e' hmem
     have hne:(x.born==e'.born)=false:=by simp;omega
     rw[hne]
     exact ih hp.2 hmem
  exact huniq _ hbo.1 he'
 refine Yn (w':=w) (v:=.tuple #[e'.key,e'.val]) ?_ ?_
 ·unfold Instr.entry
  have h1:(getObj r).run P w=.ok (.mapIter (some b) clock seen clock) w:=by simp only[getObj,Sem.run,hwr]
  simp only[Sem.run_bind,h1,Result.andThen_ok,hback,Zbf hwb,bne_self_eq_false,Bool.false_eq_true,if_false,hfind,Sem.run_pure]
 ·simp only[Zcn,Prod.mk.injEq] at hpe
  rw[hpe.1,hpe.2]
  exact hk
end
end Go.E
end
section
namespace Go.Proofs.YtkpdpddmaoablaaGreat
open Go Go.E
set_option linter.unusedVariables false
set_option maxRecDepth 100000
theorem Zr6:Zl prog 3=#[(Value.int IntKind.i64 0)]:=by kernel_rfl
theorem ZDc:Zl prog 4=#[(Value.bool false)]:=by kernel_rfl
theorem ZxC:prog.underlying 22=some (.slice 4):=by kernel_rfl
theorem ZxQ:prog.underlying 23=some (.slice 5):=by kernel_rfl
theorem ZQN:prog.underlying 24=some (.slice 3):=by kernel_rfl
theorem ZOX:TE prog 24 3 1 8:=⟨ZQN,⟨Go.Proofs.Tryz.t3,(match Go.Proofs.Tryz.t3.zero with | some z=>z | none=>undef),by kernel_rfl,by kernel_rfl,by kernel_rfl,by kernel_rfl,by kernel_rfl⟩,by decide⟩
theorem ZQO:prog.underlying 25=some (.slice 53):=by kernel_rfl
theorem ZQZ:TE prog 25 53 7 120:=⟨ZQO,⟨Go.Proofs.Tryz.t53,(match Go.Proofs.Tryz.t53.zero with | some z=>z | none=>undef),by kernel_rfl,by kernel_rfl,by kernel_rfl,by kernel_rfl,by kernel_rfl⟩,by decide⟩
theorem ZOw:Zl prog 27=#[(Value.slice none 0 0),(Value.slice none 0 0),(Value.int IntKind.i64 0)]:=by kernel_rfl
theorem ZQG:prog.underlying 35=some (.slice 42):=by kernel_rfl
theorem ZPl:TE prog 35 42 7 56:=⟨ZQG,⟨Go.Proofs.Tryz.t42,(match Go.Proofs.Tryz.t42.zero with | some z=>z | none=>undef),by kernel_rfl,by kernel_rfl,by kernel_rfl,by kernel_rfl,by kernel_rfl⟩,by decide⟩
theorem ZPw:Zl prog 38=#[(Value.int IntKind.i64 0),(Value.int IntKind.i64 0),(Value.int IntKind.i64 0)]:=by kernel_rfl
theorem ZPy:eqT prog 6 38=some 3:=by kernel_rfl
theorem ZPC:Zb7 prog 38=true:=by kernel_rfl
theorem ZQJ:prog.eqGuardType prog.depth 38=false:=by kernel_rfl
theorem ZNN:Zl prog 40=#[(Value.int IntKind.i64 0),(Value.int IntKind.i64 0),(Value.int IntKind.i64 0),(Value.int IntKind.i64 0),(Value.int IntKind.i64 0),(Value.int IntKind.i64 0)]:=by kernel_rfl
theorem ZOu:Zl prog 42=#[(Value.int IntKind.i64 0),(Value.int IntKind.i64 0),(Value.int IntKind.i64 0),(Value.int IntKind.i64 0),(Value.int IntKind.i64 0),(Value.int IntKind.i64 0),(Value.int IntKind.i64 0)]:=by kernel_rfl
theorem ZTh:eqT prog 6 42=some 7:=by kernel_rfl
theorem ZTg:Zb7 prog 42=true:=by kernel_rfl
theorem ZTk:prog.eqGuardType prog.depth 42=false:=by kernel_rfl
theorem ZQM:prog.underlying 50=some (.slice 57):=by kernel_rfl
theorem ZRB:TE prog 50 57 4 48:=⟨ZQM,⟨Go.Proofs.Tryz.t57,(match Go.Proofs.Tryz.t57.zero with | some z=>z | none=>undef),by kernel_rfl,by kernel_rfl,by kernel_rfl,by kernel_rfl,by kernel_rfl⟩,by decide⟩
theorem ZQC:prog.underlying 51=some (.slice 55):=by kernel_rfl
theorem ZRC:TE prog 51 55 3 24:=⟨ZQC,⟨Go.Proofs.Tryz.t55,(match Go.Proofs.Tryz.t55.zero with | some z=>z | none=>undef),by kernel_rfl,by kernel_rfl,by kernel_rfl,by kernel_rfl,by kernel_rfl⟩,by decide⟩
theorem ZOh:Zl prog 53=#[(Value.int IntKind.i64 0),(Value.int IntKind.i64 0),(Value.int IntKind.i64 0),(Value.slice none 0 0),(Value.slice none 0 0),(Value.slice none 0 0),(Value.slice none 0 0)]:=by kernel_rfl
theorem ZPt:Zl prog 55=#[(Value.int IntKind.i64 0),(Value.int IntKind.i64 0),(Value.int IntKind.i64 0)]:=by kernel_rfl
theorem ZPF:Zl prog 57=#[(Value.int IntKind.i64 0),(Value.int IntKind.i64 0),(Value.int IntKind.i64 0),(Value.slice none 0 0)]:=by kernel_rfl
theorem ZRf:prog.underlying 63=some (.slice 92):=by kernel_rfl
theorem ZRH:TE prog 63 92 1 24:=⟨ZRf,⟨Go.Proofs.Tryz.t92,(match Go.Proofs.Tryz.t92.zero with | some z=>z | none=>undef),by kernel_rfl,by kernel_rfl,by kernel_rfl,by kernel_rfl,by kernel_rfl⟩,by decide⟩
theorem ZRn:prog.underlying 64=some (.slice 90):=by kernel_rfl
theorem ZRt:TE prog 64 90 1 16:=⟨ZRn,⟨Go.Proofs.Tryz.t90,(match Go.Proofs.Tryz.t90.zero with | some z=>z | none=>undef),by kernel_rfl,by kernel_rfl,by kernel_rfl,by kernel_rfl,by kernel_rfl⟩,by decide⟩
theorem ZOF:prog.underlying 81=some (.slice 40):=by kernel_rfl
theorem ZPm:TE prog 81 40 6 48:=⟨ZOF,⟨Go.Proofs.Tryz.t40,(match Go.Proofs.Tryz.t40.zero with | some z=>z | none=>undef),by kernel_rfl,by kernel_rfl,by kernel_rfl,by kernel_rfl,by kernel_rfl⟩,by decide⟩
theorem ZOc:Zl prog 85=#[(Value.int IntKind.i64 0),(Value.int IntKind.i64 0),(Value.int IntKind.i64 0),(Value.int IntKind.i64 0),(Value.int IntKind.i64 0),(Value.int IntKind.i64 0),(Value.int IntKind.i64 0),(Value.int IntKind.i64 0)]:=by kernel_rfl
theorem ZRi:prog.underlying 92=some (.slice 85):=by kernel_rfl
theorem ZO0:TE prog 92 85 8 64:=⟨ZRi,⟨Go.Proofs.Tryz.t85,(match Go.Proofs.Tryz.t85.zero with | some z=>z | none=>undef),by kernel_rfl,by kernel_rfl,by kernel_rfl,by kernel_rfl,by kernel_rfl⟩,by decide⟩
theorem ZTd:prog.underlying 100=some (.slice 105):=by kernel_rfl
theorem ZS2:TE prog 100 105 3 40:=⟨ZTd,⟨Go.Proofs.Tryz.t105,(match Go.Proofs.Tryz.t105.zero with | some z=>z | none=>undef),by kernel_rfl,by kernel_rfl,by kernel_rfl,by kernel_rfl,by kernel_rfl⟩,by decide⟩
theorem ZTc:prog.underlying 101=some (.slice 40):=by kernel_rfl
theorem ZSZ:TE prog 101 40 6 48:=⟨ZTc,⟨Go.Proofs.Tryz.t40,(match Go.Proofs.Tryz.t40.zero with | some z=>z | none=>undef),by kernel_rfl,by kernel_rfl,by kernel_rfl,by kernel_rfl,by kernel_rfl⟩,by decide⟩
theorem ZOW:prog.underlying 137=some (.map 3 3):=by kernel_rfl
theorem ZNU:Zx6 prog 137 3 3 (Value.int IntKind.i64 0):=⟨ZOW,⟨Go.Proofs.Tryz.t3,by kernel_rfl,by kernel_rfl⟩⟩
theorem ZNS:ZvT prog 3 (λn:Int=>.int .i64 n):=Zwe (by kernel_rfl)
theorem ZQl:Zl prog 141=#[(Value.int IntKind.i64 0),(Value.int IntKind.i64 0)]:=by kernel_rfl
theorem ZQy:Zl prog 145=#[(Value.int IntKind.i64 0),(Value.int IntKind.i64 0),(Value.int IntKind.i64 0),(Value.int IntKind.i64 0),(Value.int IntKind.i64 0),(Value.int IntKind.i64 0),(Value.int IntKind.i64 0),(Value.int IntKind.i64 0),(Value.int IntKind.i64 0),(Value.int IntKind.i64 0),(Value.int IntKind.i64 0),(Value.int IntKind.i64 0),(Value.int IntKind.i64 0),(Value.int IntKind.i64 0),(Value.int IntKind.i64 0),(Value.int IntKind.i64 0),(Value.int IntKind.i64 0),(Value.int IntKind.i64 0),(Value.int IntKind.i64 0),(Value.int IntKind.i64 0),(Value.int IntKind.i64 0),(Value.int IntKind.i64 0),(Value.int IntKind.i64 0)]:=by kernel_rfl
theorem ZQg:Zl prog 172=#[(Value.map none),(Value.int IntKind.i64 0)]:=by kernel_rfl
theorem ZQR:prog.underlying 173=some (.map 38 3):=by kernel_rfl
theorem ZN6:Zx6 prog 173 38 3 (Value.int IntKind.i64 0):=⟨ZQR,⟨Go.Proofs.Tryz.t3,by kernel_rfl,by kernel_rfl⟩⟩
theorem ZQq:Zl prog 175=#[(Value.int IntKind.i64 0),(Value.slice none 0 0),(Value.map none)]:=by kernel_rfl
theorem Zrn:prog.underlying 176=some (.slice 227):=by kernel_rfl
theorem ZPn:TE prog 176 227 10 96:=⟨Zrn,⟨Go.Proofs.Tryz.t227,(match Go.Proofs.Tryz.t227.zero with | some z=>z | none=>undef),by kernel_rfl,by kernel_rfl,by kernel_rfl,by kernel_rfl,by kernel_rfl⟩,by decide⟩
theorem ZPB:prog.underlying 179=some (.slice 242):=by kernel_rfl
theorem ZPs:TE prog 179 242 9 72:=⟨ZPB,⟨Go.Proofs.Tryz.t242,(match Go.Proofs.Tryz.t242.zero with | some z=>z | none=>undef),by kernel_rfl,by kernel_rfl,by kernel_rfl,by kernel_rfl,by kernel_rfl⟩,by decide⟩
theorem ZQp:Zl prog 181=#[(Value.int IntKind.i64 0),(Value.slice none 0 0)]:=by kernel_rfl
theorem ZQW:prog.underlying 212=some (.map 214 4):=by kernel_rfl
theorem ZO6:Zx6 prog 212 214 4 (Value.bool false):=⟨ZQW,⟨Go.Proofs.Tryz.t4,by kernel_rfl,by kernel_rfl⟩⟩
theorem ZP2:Zl prog 214=#[(Value.int IntKind.i64 0),(Value.int IntKind.i64 0)]:=by kernel_rfl
theorem ZQ8:eqT prog 6 214=some 2:=by kernel_rfl
theorem ZQ6:Zb7 prog 214=true:=by kernel_rfl
theorem ZN8:Zl prog 227=#[(Value.int IntKind.i64 0),(Value.int IntKind.i64 0),(Value.int IntKind.i64 0),(Value.int IntKind.i64 0),(Value.int IntKind.i64 0),(Value.int IntKind.i64 0),(Value.int IntKind.i64 0),(Value.int IntKind.i64 0),(Value.int IntKind.i64 0),(Value.slice none 0 0)]:=by kernel_rfl
theorem ZOt:Zl prog 242=#[(Value.int IntKind.i64 0),(Value.int IntKind.i64 0),(Value.int IntKind.i64 0),(Value.int IntKind.i64 0),(Value.int IntKind.i64 0),(Value.int IntKind.i64 0),(Value.int IntKind.i64 0),(Value.int IntKind.i64 0),(Value.int IntKind.i64 0)]:=by kernel_rfl
theorem Zoc:Zl prog 300=#[(Value.pointer none)]:=by kernel_rfl
theorem ZQ1:prog.underlying 321=some (.slice 38):=by kernel_rfl
theorem ZRy:TE prog 321 38 3 24:=⟨ZQ1,⟨Go.Proofs.Tryz.t38,(match Go.Proofs.Tryz.t38.zero with | some z=>z | none=>undef),by kernel_rfl,by kernel_rfl,by kernel_rfl,by kernel_rfl,by kernel_rfl⟩,by decide⟩
variable {t0 t1 t2 t3 t4 t5 t6 t7 t8 t9 t10 t11 t12 t13 t14 t15 t16 t17 t18 t19 t20 t21 t22 t23 t24 t25 t26 t27 t28 t29:Value} {w:World} {K:KV}
def ZRO (t0 t1 t2 t3 t4:Value) (w:World) (K:KV):Prop:=
 cvI .i64 t0 w λt18 w=>
 bi .rem .i64 t18 (Iw 3) w λt19 w=>
 bi .add .i64 (Iw 2) t19 w λt20 w=>
 Cl prog 6 #[t20,t1,t3,(Iw 20)] w λt25 w=>
 cvI .i64 t4 w λt27 w=>
 bi .rem .i64 t27 (Iw 14) w λt28 w=>
 bi .add .i64 (Iw 2) t28 w λt29 w=>
 Cl prog 7 #[t25,t29] w λt30 w=>
 xt 0 t30 w λt31 w=>
 xt 1 t30 w λt32 w=>
 Cl prog 6 #[t20,t2,t3,(Iw 20)] w λt37 w=>
 Cl prog 7 #[t37,(Iw 16)] w λt38 w=>
 xt 0 t38 w λt39 w=>
 xt 1 t38 w λt40 w=>
 bi .neq .i64 t32 (Iw 0) w λt42 w=>
 gd t42 false (λk=>k t40 w) w λt44 w=>
 gd t42 false (λk=>bi .neq .i64 t44 (Iw 0) w k) w λt45 w=>
 pk t42 (Value.bool true) t45 w λt46 w=>
 gd t46 false (λk=>k t31 w) w λt48 w=>
 gd t46 false (λk=>bn .eql t48 w k) w λt49 w=>
 pk t46 (Value.bool true) t49 w λt50 w=>
 gd t50 false (λk=>k t39 w) w λt52 w=>
 gd t50 false (λk=>bn .eql t52 w k) w λt53 w=>
 pk t50 (Value.bool true) t53 w λt54 w=>
 Zr t54
 (K (Value.bool false) w)
 (Cl prog 8 #[t31,t20,(Iw 300)] w λ_ w=>
 Cl prog 8 #[t39,t20,(Iw 300)] w λ_ w=>
 lp [(Iw 0)] w (b1 λt16 w g1=>
 bi .lss .i64 t16 t20 w λt63 w=>
 Zr t63
 (Cl prog 10 #[t31,t16] w λt68 w=>
 Cl prog 10 #[t39,t16] w λt71 w=>
 Cl prog 11 #[t68,t71] w λt72 w=>
 Zb3 t72 w λt73 w=>
 gd t73 false (λk=>k t31 w) w λt75 w=>
 gd t73 false (λk=>k t16 w) w λt76 w=>
 gd t73 false (λk=>Cl prog 12 #[t75,t76] w k) w λt77 w=>
 gd t73 false (λk=>k t39 w) w λt78 w=>
 gd t73 false (λk=>k t16 w) w λt79 w=>
 gd t73 false (λk=>Cl prog 12 #[t78,t79] w k) w λt80 w=>
 gd t73 false (λk=>bi .neq .i64 t77 t80 w k) w λt81 w=>
 pk t73 (Value.bool true) t81 w λt82 w=>
 Zr t82
 (K (Value.bool false) w)
 (bi .add .i64 t16 (Iw 1) w λt65 w=>
 g1 [t65] w))
 (Cl prog 9 #[t31] w λt84 w=>
 gd t84 true (λk=>k t39 w) w λt86 w=>
 gd t84 true (λk=>Cl prog 9 #[t86] w k) w λt87 w=>
 pk t84 t87 (Value.bool false) w λt88 w=>
 gd t88 true (λk=>k t31 w) w λt90 w=>
 gd t88 true (λk=>Cl prog 10 #[t90,(Iw 1)] w k) w λt91 w=>
 gd t88 true (λk=>lnS t91 w k) w λt92 w=>
 gd t88 true (λk=>bi .gtr .i64 t92 (Iw 0) w k) w λt93 w=>
 pk t88 t93 (Value.bool false) w λt94 w=>
 K t94 w)))
theorem ZRQ (h:ZRO t0 t1 t2 t3 t4 w K):Cl prog 4 #[t0,t1,t2,t3,t4] w K:=
 ZML 95 [10] Tryz.func4 h
def ZRP (t0 t1 t2:Value) (w:World) (K:KV):Prop:=
 cvI .i64 t0 w λt17 w=>
 bi .rem .i64 t17 (Iw 3) w λt18 w=>
 bi .add .i64 (Iw 2) t18 w λt19 w=>
 Cl prog 6 #[t19,t1,t2,(Iw 22)] w λt23 w=>
 al (Zl prog 27) 27 w λt8 w=>
 stN 3 t8 t23 w λ_ w=>
 ldN 3 t8 w λt25 w=>
 Cl prog 7 #[t25,(Iw 8)] w λt26 w=>
 xt 0 t26 w λt27 w=>
 xt 1 t26 w λt28 w=>
 ldN 3 t8 w λt30 w=>
 Cl prog 13 #[t30] w λt31 w=>
 xt 0 t31 w λt32 w=>
 xt 1 t31 w λt33 w=>
 bi .neq .i64 t28 (Iw 0) w λt35 w=>
 gd t35 false (λk=>k t33 w) w λt37 w=>
 gd t35 false (λk=>bi .neq .i64 t37 (Iw 0) w k) w λt38 w=>
 pk t35 (Value.bool true) t38 w λt39 w=>
 gd t39 false (λk=>k t27 w) w λt41 w=>
 gd t39 false (λk=>bn .eql t41 w k) w λt42 w=>
 pk t39 (Value.bool true) t42 w λt43 w=>
 gd t43 false (λk=>k t32 w) w λt45 w=>
 gd t43 false (λk=>bn .eql t45 w k) w λt46 w=>
 pk t43 (Value.bool true) t46 w λt47 w=>
 Zr t47
 (K (Value.bool false) w)
 (Cl prog 8 #[t27,t19,(Iw 300)] w λ_ w=>
 Cl prog 14 #[t32,(Iw 1000)] w λt52 w=>
 lp [(Iw 0),(Iw 0)] w (b2 λt14 t15 w g1=>
 bi .lss .i64 t15 t19 w λt55 w=>
 Zr t55
 (Cl prog 10 #[t27,t15] w λt60 w=>
 Cl prog 15 #[t32,t15] w λt63 w=>
 Cl prog 11 #[t60,t63] w λt64 w=>
 Zb3 t64 w λt65 w=>
 gd t65 false (λk=>k t27 w) w λt67 w=>
 gd t65 false (λk=>k t15 w) w λt68 w=>
 gd t65 false (λk=>Cl prog 12 #[t67,t68] w k) w λt69 w=>
 gd t65 false (λk=>k t32 w) w λt70 w=>
 gd t65 false (λk=>k t15 w) w λt71 w=>
 gd t65 false (λk=>Cl prog 16 #[t70,t71] w k) w λt72 w=>
 gd t65 false (λk=>bi .neq .i64 t69 t72 w k) w λt73 w=>
 pk t65 (Value.bool true) t73 w λt74 w=>
 Zr t74
 (K (Value.bool false) w)
 (Cl prog 10 #[t27,t15] w λt78 w=>
 lnS t78 w λt79 w=>
 bi .add .i64 t14 t79 w λt80 w=>
 bi .add .i64 t15 (Iw 1) w λt57 w=>
 g1 [t80,t57] w))
 (bi .eql .i64 t52 t14 w λt83 w=>
 gd t83 true (λk=>k t14 w) w λt85 w=>
 gd t83 true (λk=>bi .gtr .i64 t85 (Iw 0) w k) w λt86 w=>
 pk t83 t86 (Value.bool false) w λt87 w=>
 gd t87 true (λk=>k t27 w) w λt89 w=>
 gd t87 true (λk=>Cl prog 9 #[t89] w k) w λt90 w=>
 pk t87 t90 (Value.bool false) w λt91 w=>
 K t91 w)))
theorem ZRS (h:ZRP t0 t1 t2 w K):Cl prog 5 #[t0,t1,t2] w K:=
 ZML 92 [6] Tryz.func5 h
def ZN3 (t0 t1 t2 t3:Value) (w:World) (K:KV):Prop:=
 al (Zl prog 27) 27 w λt8 w=>
 bld (Zl prog 27) #[(0,1),(1,1),(2,1)] [(2,t3)] w λt15 w=>
 al (Zl prog 27) 27 w λt9 w=>
 stN 3 t9 t15 w λ_ w=>
 lp [(Iw 0)] w (b1 λt10 w g1=>
 bi .lss .i64 t10 t0 w λt18 w=>
 Zr t18
 (fld 0 t9 w λt21 w=>
 ld1 t21 w λt22 w=>
 bsl 3 1 1 (Zl prog 3) [(0,(Iw (-1)))] w λt23 w=>
 apS prog #[24,24] 24 t22 t23 w λt24 w=>
 fld 0 t9 w λt25 w=>
 stN 1 t25 t24 w λ_ w=>
 bi .add .i64 t10 (Iw 1) w λt20 w=>
 g1 [t20] w)
 (lp [(Iw 0)] w (b1 λt11 w g2=>
 bi .lss .i64 t11 t0 w λt28 w=>
 Zr t28
 (lnS t2 w λt33 w=>
 bi .lss .i64 t11 t33 w λt34 w=>
 J1 (λt12 w=>
 bsl 3 1 1 (Zl prog 3) [(0,t11)] w λt44 w=>
 bi .add .i64 t11 t0 w λt47 w=>
 bi .sub .i64 t47 (Iw 1) w λt48 w=>
 bi .rem .i64 t48 t0 w λt50 w=>
 bsl 3 1 1 (Zl prog 3) [(0,t50)] w λt51 w=>
 bld (Zl prog 53) #[(0,1),(1,1),(2,1),(3,1),(4,1),(5,1),(6,1)] [(1,t12),(4,t44),(5,t51)] w λt52 w=>
 al (Zl prog 53) 53 w λt13 w=>
 stN 7 t13 t52 w λ_ w=>
 lnS t1 w λt55 w=>
 bi .lss .i64 t11 t55 w λt56 w=>
 gd t56 true (λk=>k t1 w) w λt58 w=>
 gd t56 true (λk=>k t11 w) w λt59 w=>
 gd t56 true (λk=>ixS 1 t58 t59 w k) w λt60 w=>
 gd t56 true (λk=>ld1 t60 w k) w λt61 w=>
 pk t56 t61 (Value.bool false) w λt62 w=>
 J0 (λw=>
 bi .add .i64 t11 t0 w λt66 w=>
 bi .sub .i64 t66 (Iw 1) w λt67 w=>
 bi .rem .i64 t67 t0 w λt69 w=>
 bld (Zl prog 55) #[(0,1),(1,1),(2,1)] [(0,t11),(1,t12),(2,(Iw 1))] w λt72 w=>
 bsl 55 3 1 (Zl prog 55) [(0,t72)] w λt73 w=>
 bld (Zl prog 57) #[(0,1),(1,1),(2,1),(3,1)] [(1,t69),(3,t73)] w λt74 w=>
 bsl 57 4 1 (Zl prog 57) [(0,t74)] w λt75 w=>
 fld 3 t13 w λt76 w=>
 stN 1 t76 t75 w λ_ w=>
 bi .eql .i64 t11 (Iw 0) w λt78 w=>
 J0 (λw=>
 fld 1 t9 w λt82 w=>
 ld1 t82 w λt83 w=>
 ldN 7 t13 w λt84 w=>
 bsl 53 7 1 (Zl prog 53) [(0,t84)] w λt85 w=>
 apS prog #[25,25] 25 t83 t85 w λt86 w=>
 fld 1 t9 w λt87 w=>
 stN 1 t87 t86 w λ_ w=>
 bi .add .i64 t11 (Iw 1) w λt30 w=>
 g2 [t30] w) λk5=>
 Zr t78
 (bld (Zl prog 55) #[(0,1),(1,1),(2,1)] [(0,(Iw 0)),(1,(Iw 1))] w λt79 w=>
 bsl 55 3 1 (Zl prog 55) [(0,t79)] w λt80 w=>
 fld 6 t13 w λt81 w=>
 stN 1 t81 t80 w λ_ w=>
 k5 w)
 (k5 w)) λk4=>
 Zr t62
 (fld 0 t13 w λt63 w=>
 stN 1 t63 (Iw 1) w λ_ w=>
 k4 w)
 (k4 w)) λk3=>
 Zr t34
 (ixS 1 t2 t11 w λt37 w=>
 ld1 t37 w λt38 w=>
 cvI .i64 t38 w λt39 w=>
 bi .rem .i64 t39 (Iw 5) w λt40 w=>
 bi .add .i64 (Iw 1) t40 w λt41 w=>
 k3 t41 w)
 (k3 (Iw 1) w))
 (ldN 3 t9 w λt88 w=>
 stN 3 t8 t88 w λ_ w=>
 ldN 3 t8 w λr0 _=>
 K r0 w))))
theorem ZN4 (h:ZN3 t0 t1 t2 t3 w K):Cl prog 6 #[t0,t1,t2,t3] w K:=
 ZMM 89 [(8,some 27)] Tryz.func6 h
def ZvL (t0 t1:Value) (w:World) (K:KV):Prop:=
 al (Value.cells t0) 27 w λt2 w=>
 ldN 3 t2 w λt21 w=>
 Cl prog 17 #[t21] w λt22 w=>
 xt 0 t22 w λ_ w=>
 xt 1 t22 w λt24 w=>
 bi .neq .i64 t24 (Iw 0) w λt26 w=>
 Zr t26
 (K (Value.tuple #[(Value.pointer none),t24]) w)
 (fld 1 t2 w λt29 w=>
 ld1 t29 w λt30 w=>
 lnS t30 w λt31 w=>
 Cl prog 18 #[t31,t1] w λt33 w=>
 xt 0 t33 w λt34 w=>
 xt 1 t33 w λt35 w=>
 bi .neq .i64 t35 (Iw 0) w λt37 w=>
 Zr t37
 (K (Value.tuple #[(Value.pointer none),t35]) w)
 (dr w λw=>
 fld 2 t2 w λt39 _=>
 ld1 t39 w λt40 _=>
 fld 1 t2 w λt42 _=>
 ld1 t42 w λt43 _=>
 lnS t43 w λt44 _=>
 mkS prog 63 t44 t44 w λt45 w=>
 (ld1 t39 w (λv' w''=>v'=t40∧w''=w))∧(bld (Zl prog 67) #[(0,1),(1,1),(2,1),(3,1),(4,1)] [(0,t40),(3,t34),(2,t45)] w λt46 w=>
 al (Value.cells t46) 67 w λt47 w=>
 fld 1 t2 w λt48 w=>
 ld1 t48 w λt49 w=>
 lnS t49 w λt50 w=>
 lp [(Iw 0),(Iw 0)] w (b2 λt11 t51 w g1=>
 bi .lss .i64 t51 t50 w λt52 w=>
 Zr t52
 (J1 (λt11_1 w=>
 bi .add .i64 t51 (Iw 1) w λt99 w=>
 g1 [t11_1,t99] w) λk2=>
 ixS 7 t49 t51 w λt54 w=>
 ldN 7 t54 w λt55 w=>
 al (Zl prog 53) 53 w λt13 w=>
 stN 7 t13 t55 w λ_ w=>
 fld 0 t13 w λt56 w=>
 ld1 t56 w λt57 w=>
 bi .eql .i64 t57 (Iw 0) w λt58 w=>
 Zr t58
 (ldN 3 t2 w λt60 w=>
 Cl prog 19 #[t60,t51] w λt62 w=>
 xt 0 t62 w λt63 w=>
 xt 1 t62 w λ_ w=>
 ncP t47<|
 fld 1 t47 w λt68 w=>
 ld1 t68 w λt69 w=>
 bld (Zl prog 72) #[(0,1)] [(0,t63)] w λt71 w=>
 bsl 90 1 1 (Zl prog 90) [(0,(Value.iface 72 t71))] w λt73 w=>
 apS prog #[64,64] 64 t69 t73 w λt74 w=>
 ncP t47<|
 fld 1 t47 w λt76 w=>
 stN 1 t76 t74 w λ_ w=>
 k2 t11 w)
 (ldN 3 t2 w λt78 w=>
 Cl prog 20 #[t78,t51] w λt80 w=>
 xt 0 t80 w λt81 w=>
 xt 1 t80 w λ_ w=>
 ncP t47<|
 fld 1 t47 w λt86 w=>
 ld1 t86 w λt87 w=>
 bld (Zl prog 78) #[(0,1),(1,1),(2,1)] [(0,t81),(1,t11)] w λt90 w=>
 al (Value.cells t90) 78 w λt91 w=>
 bsl 90 1 1 (Zl prog 90) [(0,(Value.iface 76 t91))] w λt93 w=>
 apS prog #[64,64] 64 t87 t93 w λt94 w=>
 ncP t47<|
 fld 1 t47 w λt96 w=>
 stN 1 t96 t94 w λ_ w=>
 bi .add .i64 t11 (Iw 1) w λt98 w=>
 k2 t98 w))
 (bi .gtr .i64 t11 (Iw 0) w λt101 w=>
 J0 (λw=>
 ldN 3 t2 w λt110 w=>
 Cl prog 22 #[t110] w λt111 w=>
 lnS t111 w λt112 w=>
 lp [(Iw 0)] w (b1 λt113 w g4=>
 bi .lss .i64 t113 t112 w λt114 w=>
 Zr t114
 (ixS 6 t111 t113 w λt115 w=>
 ldN 6 t115 w λt116 w=>
 al (Zl prog 40) 40 w λt19 w=>
 stN 6 t19 t116 w λ_ w=>
 fld 0 t19 w λt118 w=>
 fld 1 t118 w λt119 w=>
 ld1 t119 w λt120 w=>
 ldN 6 t19 w λt121 w=>
 bld (Zl prog 85) #[(0,1),(1,6),(7,1)] [(1,t121)] w λt122 w=>
 bsl 85 8 1 (Zl prog 85) [(0,t122)] w λt123 w=>
 Cl prog 23 #[t47,t120,t123] w λ_ w=>
 bi .add .i64 t113 (Iw 1) w λt125 w=>
 g4 [t125] w)
 (K (Value.tuple #[t47,(Iw 0)]) w))) λk3=>
 Zr t101
 (Cl prog 21 #[t11] w λt105 w=>
 xt 0 t105 w λt106 w=>
 xt 1 t105 w λ_ w=>
 ncP t47<|
 fld 4 t47 w λt109 w=>
 stN 1 t109 t106 w λ_ w=>
 k3 w)
 (k3 w))))))
theorem ZoN (h:ZvL t0 t1 w K):Cl prog 7 #[t0,t1] w K:=
 ZML 127 [4,5] Tryz.func7 h
def ZNY (t0 t1 t2:Value) (w:World) (K:KV):Prop:=
 lp [(Iw 0)] w (b1 λt6 w g1=>
 bi .lss .i64 t6 t2 w λt16 w=>
 gd t16 true (λk=>k t0 w) w λt18 w=>
 gd t16 true (λk=>Cl prog 9 #[t18] w k) w λt19 w=>
 gd t16 true (λk=>Zb3 t19 w k) w λt20 w=>
 pk t16 t20 (Value.bool false) w λt21 w=>
 Zr t21
 (lp [(Iw 0)] w (b1 λt7 w g2=>
 bi .lss .i64 t7 t1 w λt26 w=>
 Zr t26
 (lp [(Iw 0)] w (b1 λt8 w g3=>
 bi .lss .i64 t8 (Iw 16) w λt30 w=>
 Zr t30
 (bld (Zl prog 88) #[(0,1),(1,1),(2,1)] [(0,(Iw 1)),(1,t7)] w λt35 w=>
 Cl prog 24 #[t0,t35] w λ_ w=>
 bi .add .i64 t8 (Iw 1) w λt32 w=>
 g3 [t32] w)
 (lp [(Iw 0)] w (b1 λt9 w g4=>
 bi .lss .i64 t9 t1 w λt39 w=>
 Zr t39
 (lp [(Iw 0)] w (b1 λt10 w g5=>
 bi .lss .i64 t10 (Iw 8) w λt43 w=>
 Zr t43
 (bld (Zl prog 88) #[(0,1),(1,1),(2,1)] [(0,(Iw 2)),(1,t7),(2,t9)] w λt49 w=>
 Cl prog 24 #[t0,t49] w λ_ w=>
 bi .add .i64 t10 (Iw 1) w λt45 w=>
 g5 [t45] w)
 (bi .add .i64 t9 (Iw 1) w λt41 w=>
 g4 [t41] w)))
 (bi .add .i64 t7 (Iw 1) w λt28 w=>
 g2 [t28] w)))))
 (lp [(Iw 0)] w (b1 λt11 w g6=>
 bi .lss .i64 t11 t1 w λt53 w=>
 Zr t53
 (bld (Zl prog 88) #[(0,1),(1,1),(2,1)] [(0,(Iw 0)),(1,t11)] w λt58 w=>
 Cl prog 24 #[t0,t58] w λ_ w=>
 bld (Zl prog 88) #[(0,1),(1,1),(2,1)] [(0,(Iw 3)),(1,t11)] w λt62 w=>
 Cl prog 24 #[t0,t62] w λ_ w=>
 bi .add .i64 t11 (Iw 1) w λt55 w=>
 g6 [t55] w)
 (bld (Zl prog 88) #[(0,1),(1,1),(2,1)] [(0,(Iw 4))] w λt65 w=>
 Cl prog 24 #[t0,t65] w λ_ w=>
 lp [(Iw 0)] w (b1 λt12 w g7=>
 bi .lss .i64 t12 t1 w λt69 w=>
 Zr t69
 (bld (Zl prog 88) #[(0,1),(1,1),(2,1)] [(0,(Iw 5)),(1,t12)] w λt74 w=>
 Cl prog 24 #[t0,t74] w λ_ w=>
 bi .add .i64 t12 (Iw 1) w λt71 w=>
 g7 [t71] w)
 (lp [(Iw 0)] w (b1 λt13 w g8=>
 bi .lss .i64 t13 t1 w λt78 w=>
 Zr t78
 (bld (Zl prog 88) #[(0,1),(1,1),(2,1)] [(0,(Iw 6)),(1,t13)] w λt83 w=>
 Cl prog 24 #[t0,t83] w λ_ w=>
 bi .add .i64 t13 (Iw 1) w λt80 w=>
 g8 [t80] w)
 (bi .add .i64 t6 (Iw 1) w λt23 w=>
 g1 [t23] w)))))))))
 (K (Value.tuple #[]) w))
theorem ZN0 (h:ZNY t0 t1 t2 w K):Cl prog 8 #[t0,t1,t2] w K:=
 ZML 85 [] Tryz.func8 h
def ZeG (t0:Value) (w:World) (K:KV):Prop:=
 dr w λw=>
 ncP t0<|
 fld 3 t0 w λt9 _=>
 ld1 t9 w λt10 _=>
 ncP t0<|
 fld 3 t0 w λt14 _=>
 ld1 t14 w λt15 _=>
 Cl prog 25 #[t10,(Iw 0)] w λt11 w=>
 (ld1 t14 w (λv' w''=>v'=t15∧w''=w))∧(Cl prog 25 #[t15,(Iw 1)] w λt16 w=>
 bi .add .i64 t11 t16 w λt17 _=>
 bi .gtr .i64 t17 (Iw 0) w λt18 _=>
 Zr t18
 (K (Value.bool false) w)
 (ncP t0<|
 fld 1 t0 w λt21 w=>
 ld1 t21 w λt22 w=>
 lnS t22 w λt23 w=>
 lp [(Iw 0)] w (b1 λt24 w g1=>
 bi .lss .i64 t24 t23 w λt25 w=>
 Zr t25
 (ixS 1 t22 t24 w λt27 w=>
 ld1 t27 w λt28 w=>
 ncP t0<|
 fld 2 t0 w λt31 w=>
 ld1 t31 w λt32 w=>
 ixS 1 t32 t24 w λt34 w=>
 ld1 t34 w λt35 w=>
 Cl prog 26 #[t35,(Value.func (.func 27) #[] #[])] w λt36 w=>
 Zr t36
 (K (Value.bool false) w)
 (clI prog t28 "Waiting" #[] w λt38 w=>
 dr w λw=>
 lnS t38 w λt40 _=>
 bi .gtr .i64 t40 (Iw 0) w λt41 _=>
 gd t41 true (λk=>k t38 w) w λt43 _=>
 gd t41 true (λk=>ixS 6 t43 (Iw 0) w k) w λt44 _=>
 gd t41 true (λk=>fld 0 t44 w k) w λt45 _=>
 gd t41 true (λk=>fld 0 t45 w k) w λt46 _=>
 gd t41 true (λk=>ld1 t46 w k) w λt47 _=>
 gd t41 true (λk=>k t0 w) w λt48 _=>
 gd t41 true (λk=>nc t48 w k) w λt49 _=>
 gd t41 true (λk=>fld 0 t49 w k) w λt50 _=>
 gd t41 true (λk=>ld1 t50 w k) w λt51 _=>
 gd t41 true (λk=>bi .lss .i64 t47 t51 w k) w λt52 _=>
 pk t41 t52 (Value.bool false) w λt53 _=>
 Zr t53
 (K (Value.bool false) w)
 (Cl prog 28 #[t0,t24] w λt56 w=>
 bn .neq t56 w λt58 w=>
 gd t58 true (λk=>k t56 w) w λt60 w=>
 gd t58 true (λk=>nc t60 w k) w λt61 w=>
 gd t58 true (λk=>fld 0 t61 w k) w λt62 w=>
 gd t58 true (λk=>ld1 t62 w k) w λt63 w=>
 gd t58 true (λk=>Cl prog 29 #[t63] w k) w λt64 w=>
 gd t58 true (λk=>bi .gtr .i64 t64 (Iw 0) w k) w λt65 w=>
 pk t58 t65 (Value.bool false) w λt66 w=>
 Zr t66
 (K (Value.bool false) w)
 (bi .add .i64 t24 (Iw 1) w λt67 w=>
 g1 [t67] w))))
 (K (Value.bool true) w))))
theorem ZeO (h:ZeG t0 w K):Cl prog 9 #[t0] w K:=
 ZML 68 [2] Tryz.func9 h
def Zhc (t0 t1:Value) (w:World) (K:KV):Prop:=
 Cl prog 30 #[t0,t1] w λt7 w=>
 Zb3 t7 w λt8 w=>
 Zr t8
 (K (Value.slice none 0 0) w)
 (ncP t0<|
 fld 1 t0 w λt11 w=>
 ld1 t11 w λt12 w=>
 ixS 1 t12 t1 w λt14 w=>
 ld1 t14 w λt15 w=>
 clI prog t15 "Log" #[] w λt16 w=>
 K t16 w)
theorem Zgr (h:Zhc t0 t1 w K):Cl prog 10 #[t0,t1] w K:=
 ZML 17 [4] Tryz.func10 h
def Zdv (t0 t1:Value) (w:World) (K:KV):Prop:=
 lnS t0 w λt7 w=>
 lnS t1 w λt9 w=>
 bi .neq .i64 t7 t9 w λt10 w=>
 Zr t10
 (K (Value.bool false) w)
 (lp [(Iw 0)] w (b1 λt5 w g1=>
 lnS t0 w λt13 w=>
 bi .lss .i64 t5 t13 w λt14 w=>
 Zr t14
 (dr w λw=>
 ixS 7 t0 t5 w λt19 _=>
 ldN 7 t19 w λt20 _=>
 ixS 7 t1 t5 w λt23 _=>
 ldN 7 t23 w λt24 _=>
 bO prog .neq 42 (Operand.tmp 20) (Operand.tmp 24) t20 t24 w λt25 w=>
 Zr t25
 (K (Value.bool false) w)
 (bi .add .i64 t5 (Iw 1) w λt16 w=>
 g1 [t16] w))
 (K (Value.bool true) w)))
theorem Zd2 (h:Zdv t0 t1 w K):Cl prog 11 #[t0,t1] w K:=
 ZML 26 [4] Tryz.func11 h
def ZKo (t0 t1:Value) (w:World) (K:KV):Prop:=
 Cl prog 30 #[t0,t1] w λt7 w=>
 Zb3 t7 w λt8 w=>
 Zr t8
 (K (Iw (-1)) w)
 (ncP t0<|
 fld 1 t0 w λt11 w=>
 ld1 t11 w λt12 w=>
 ixS 1 t12 t1 w λt14 w=>
 ld1 t14 w λt15 w=>
 clI prog t15 "State" #[] w λt16 w=>
 K t16 w)
theorem ZKs (h:ZKo t0 t1 w K):Cl prog 12 #[t0,t1] w K:=
 ZML 17 [4] Tryz.func12 h
def ZSF (t0:Value) (w:World) (K:KV):Prop:=
 al (Value.cells t0) 27 w λt1 w=>
 ldN 3 t1 w λt10 w=>
 Cl prog 17 #[t10] w λt11 w=>
 xt 0 t11 w λ_ w=>
 xt 1 t11 w λt13 w=>
 bi .neq .i64 t13 (Iw 0) w λt15 w=>
 Zr t15
 (K (Value.tuple #[(Value.pointer none),t13]) w)
 (ldN 3 t1 w λt17 w=>
 Cl prog 31 #[t17] w λt18 w=>
 bld (Zl prog 103) #[(0,3),(3,1),(4,1)] [(0,t18)] w λt19 w=>
 al (Value.cells t19) 103 w λt20 w=>
 fld 1 t1 w λt21 w=>
 ld1 t21 w λt22 w=>
 lnS t22 w λt23 w=>
 lp [(Iw 0)] w (b1 λt24 w g1=>
 bi .lss .i64 t24 t23 w λt25 w=>
 Zr t25
 (ixS 7 t22 t24 w λt26 w=>
 ldN 7 t26 w λt27 w=>
 al (Zl prog 53) 53 w λt8 w=>
 stN 7 t8 t27 w λ_ w=>
 dr w λw=>
 ncP t20<|
 fld 3 t20 w λt31 _=>
 ld1 t31 w λt32 _=>
 fld 2 t8 w λt33 _=>
 ld1 t33 w λt34 _=>
 fld 6 t8 w λt35 _=>
 ld1 t35 w λt36 _=>
 lnS t36 w λt37 _=>
 bld (Zl prog 105) #[(0,1),(1,1),(2,1)] [(0,t34),(1,t37)] w λt38 w=>
 (ld1 t31 w (λv' w''=>v'=t32∧w''=w))∧(bsl 105 3 1 (Zl prog 105) [(0,t38)] w λt39 w=>
 (ld1 t31 w (λv' w''=>v'=t32∧w''=w))∧(apS prog #[100,100] 100 t32 t39 w λt40 w=>
 ncP t20<|
 fld 3 t20 w λt42 _=>
 stN 1 t42 t40 w λ_ w=>
 bi .add .i64 t24 (Iw 1) w λt43 w=>
 g1 [t43] w)))
 (ldN 3 t1 w λt44 w=>
 Cl prog 22 #[t44] w λt45 w=>
 Cl prog 32 #[t45,(Value.func (Fn.func 33) #[t20] #[])] w λ_ w=>
 K (Value.tuple #[t20,(Iw 0)]) w)))
theorem ZSl (h:ZSF t0 w K):Cl prog 13 #[t0] w K:=
 ZML 50 [2,3] Tryz.func13 h
def ZR7 (t0 t1:Value) (w:World) (K:KV):Prop:=
 J1 (λt5 w=>
 K t5 w) λk1=>
 lp [(Iw 0)] w (b1 λt5_1 w g2=>
 bi .lss .i64 t5_1 t1 w λt10 w=>
 Zr t10
 (Cl prog 34 #[t0] w λt15 w=>
 xt 0 t15 w λt16 w=>
 xt 1 t15 w λt17 w=>
 al (Zl prog 42) 42 w λt6 w=>
 stN 7 t6 t16 w λ_ w=>
 Zb3 t17 w λt19 w=>
 Zr t19
 (k1 t5_1 w)
 (bi .add .i64 t5_1 (Iw 1) w λt12 w=>
 g2 [t12] w))
 (k1 t5_1 w))
theorem ZR4 (h:ZR7 t0 t1 w K):Cl prog 14 #[t0,t1] w K:=
 ZML 21 [4] Tryz.func14 h
def ZSh (t0 t1:Value) (w:World) (K:KV):Prop:=
 bi .lss .i64 t1 (Iw 0) w λt6 w=>
 gd t6 false (λk=>k t1 w) w λt8 w=>
 gd t6 false (λk=>k t0 w) w λt9 w=>
 gd t6 false (λk=>nc t9 w k) w λt10 w=>
 gd t6 false (λk=>fld 3 t10 w k) w λt11 w=>
 gd t6 false (λk=>ld1 t11 w k) w λt12 w=>
 gd t6 false (λk=>lnS t12 w k) w λt13 w=>
 gd t6 false (λk=>bi .geq .i64 t8 t13 w k) w λt14 w=>
 pk t6 (Value.bool true) t14 w λt15 w=>
 Zr t15
 (K (Value.slice none 0 0) w)
 (ncP t0<|
 fld 3 t0 w λt18 w=>
 ld1 t18 w λt19 w=>
 ixS 3 t19 t1 w λt21 w=>
 fld 2 t21 w λt22 w=>
 ld1 t22 w λt23 w=>
 Cl prog 35 #[t23] w λt24 w=>
 K t24 w)
theorem ZSd (h:ZSh t0 t1 w K):Cl prog 15 #[t0,t1] w K:=
 ZML 25 [4] Tryz.func15 h
def ZR6 (t0 t1:Value) (w:World) (K:KV):Prop:=
 bi .lss .i64 t1 (Iw 0) w λt6 w=>
 gd t6 false (λk=>k t1 w) w λt8 w=>
 gd t6 false (λk=>k t0 w) w λt9 w=>
 gd t6 false (λk=>nc t9 w k) w λt10 w=>
 gd t6 false (λk=>fld 3 t10 w k) w λt11 w=>
 gd t6 false (λk=>ld1 t11 w k) w λt12 w=>
 gd t6 false (λk=>lnS t12 w k) w λt13 w=>
 gd t6 false (λk=>bi .geq .i64 t8 t13 w k) w λt14 w=>
 pk t6 (Value.bool true) t14 w λt15 w=>
 Zr t15
 (K (Iw (-1)) w)
 (ncP t0<|
 fld 3 t0 w λt18 w=>
 ld1 t18 w λt19 w=>
 ixS 3 t19 t1 w λt21 w=>
 fld 0 t21 w λt22 w=>
 ld1 t22 w λt23 w=>
 K t23 w)
theorem ZR5 (h:ZR6 t0 t1 w K):Cl prog 16 #[t0,t1] w K:=
 ZML 24 [4] Tryz.func16 h
def Zks (t0:Value) (w:World) (K:KV):Prop:=
 al (Value.cells t0) 27 w λt1 w=>
 fld 2 t1 w λt9 w=>
 ld1 t9 w λt10 w=>
 Cl prog 40 #[t10,(Iw 0),(Iw 1099511627776)] w λt11 w=>
 gd t11 true (λk=>fld 1 t1 w k) w λt13 w=>
 gd t11 true (λk=>ld1 t13 w k) w λt14 w=>
 gd t11 true (λk=>lnS t14 w k) w λt15 w=>
 gd t11 true (λk=>Cl prog 40 #[t15,(Iw 1),(Iw 8)] w k) w λt16 w=>
 pk t11 t16 (Value.bool false) w λt17 w=>
 Cl prog 39 #[t17,(Iw 1)] w λt18 w=>
 bsl 113 1 2 (Zl prog 113) [(0,(Value.func (Fn.func 37) #[] #[t1])),(1,t18)] w λt19 w=>
 Cl prog 36 #[t19] w λt20 w=>
 bi .neq .i64 t20 (Iw 0) w λt22 w=>
 Zr t22
 (K (Value.tuple #[(Iw (-1)),t20]) w)
 (fld 1 t1 w λt24 w=>
 ld1 t24 w λt25 w=>
 lnS t25 w λt26 w=>
 lp [(Iw 0)] w (b1 λt27 w g1=>
 bi .lss .i64 t27 t26 w λt28 w=>
 Zr t28
 (ixS 7 t25 t27 w λt30 w=>
 ldN 7 t30 w λt31 w=>
 al (Zl prog 53) 53 w λt6 w=>
 stN 7 t6 t31 w λ_ w=>
 ldN 7 t6 w λt32 w=>
 fld 0 t1 w λt33 w=>
 ld1 t33 w λt34 w=>
 lnS t34 w λt35 w=>
 Cl prog 41 #[t32,t35] w λt36 w=>
 bi .neq .i64 t36 (Iw 0) w λt38 w=>
 Zr t38
 (K (Value.tuple #[t27,t36]) w)
 (bi .add .i64 t27 (Iw 1) w λt41 w=>
 g1 [t41] w))
 (K (Value.tuple #[(Iw (-1)),(Iw 0)]) w)))
theorem Ziy (h:Zks t0 w K):Cl prog 17 #[t0] w K:=
 ZML 42 [2,3] Tryz.func17 h
def Zn6 (t0 t1:Value) (w:World) (K:KV):Prop:=
 bi .lss .i64 t0 (Iw 1) w λt7 w=>
 gd t7 false (λk=>k t0 w) w λt9 w=>
 gd t7 false (λk=>bi .gtr .i64 t9 (Iw 8) w k) w λt10 w=>
 pk t7 (Value.bool true) t10 w λt11 w=>
 gd t11 false (λk=>k t1 w) w λt13 w=>
 gd t11 false (λk=>bi .lss .i64 t13 (Iw 1) w k) w λt14 w=>
 pk t11 (Value.bool true) t14 w λt15 w=>
 gd t15 false (λk=>k t1 w) w λt17 w=>
 gd t15 false (λk=>bi .gtr .i64 t17 (Iw 16) w k) w λt18 w=>
 pk t15 (Value.bool true) t18 w λt19 w=>
 Zr t19
 (K (Value.tuple #[(Value.pointer none),(Iw 1)]) w)
 (bld (Zl prog 123) #[(0,1),(1,1),(2,8320)] [(0,t0),(1,t1)] w λt22 w=>
 al (Value.cells t22) 123 w λt23 w=>
 K (Value.tuple #[t23,(Iw 0)]) w)
theorem Zhf (h:Zn6 t0 t1 w K):Cl prog 18 #[t0,t1] w K:=
 ZML 24 [4,5] Tryz.func18 h
def ZvA (t0 t1:Value) (w:World) (K:KV):Prop:=
 al (Value.cells t0) 27 w λt2 w=>
 ldN 3 t2 w λt11 w=>
 Cl prog 17 #[t11] w λt12 w=>
 xt 0 t12 w λ_ w=>
 xt 1 t12 w λt14 w=>
 bi .neq .i64 t14 (Iw 0) w λt16 w=>
 Zr t16
 (K (Value.tuple #[(Value.pointer none),t14]) w)
 (bi .lss .i64 t1 (Iw 0) w λt19 w=>
 gd t19 false (λk=>k t1 w) w λt21 w=>
 gd t19 false (λk=>fld 1 t2 w k) w λt22 w=>
 gd t19 false (λk=>ld1 t22 w k) w λt23 w=>
 gd t19 false (λk=>lnS t23 w k) w λt24 w=>
 gd t19 false (λk=>bi .geq .i64 t21 t24 w k) w λt25 w=>
 pk t19 (Value.bool true) t25 w λt26 w=>
 gd t26 false (λk=>fld 1 t2 w k) w λt28 w=>
 gd t26 false (λk=>ld1 t28 w k) w λt29 w=>
 gd t26 false (λk=>k t1 w) w λt30 w=>
 gd t26 false (λk=>ixS 7 t29 t30 w k) w λt31 w=>
 gd t26 false (λk=>fld 0 t31 w k) w λt32 w=>
 gd t26 false (λk=>ld1 t32 w k) w λt33 w=>
 gd t26 false (λk=>bi .neq .i64 t33 (Iw 0) w k) w λt34 w=>
 pk t26 (Value.bool true) t34 w λt35 w=>
 Zr t35
 (K (Value.tuple #[(Value.pointer none),(Iw 1)]) w)
 (fld 1 t2 w λt37 w=>
 ld1 t37 w λt38 w=>
 lnS t38 w λt39 w=>
 Cl prog 42 #[t39,t1] w λt41 w=>
 xt 0 t41 w λt42 w=>
 xt 1 t41 w λt43 w=>
 bi .neq .i64 t43 (Iw 0) w λt45 w=>
 Zr t45
 (K (Value.tuple #[(Value.pointer none),t43]) w)
 (dr w λw=>
 ldN 3 t2 w λt50 _=>
 fld 1 t2 w λt53 _=>
 ld1 t53 w λt54 _=>
 ixS 7 t54 t1 w λt56 _=>
 fld 2 t56 w λt57 _=>
 ld1 t57 w λt58 _=>
 fld 1 t2 w λt59 _=>
 ld1 t59 w λt60 _=>
 ixS 7 t60 t1 w λt62 _=>
 fld 6 t62 w λt63 _=>
 ld1 t63 w λt64 _=>
 lnS t64 w λt65 _=>
 Cl prog 43 #[(Iw 64)] w λt48 w=>
 (ld1 t63 w (λv' w''=>v'=t64∧w''=w))∧((ld1 t59 w (λv' w''=>v'=t60∧w''=w))∧((ld1 t57 w (λv' w''=>v'=t58∧w''=w))∧((ld1 t53 w (λv' w''=>v'=t54∧w''=w))∧((ldN 3 t2 w (λv' w''=>v'=t50∧w''=w))∧((bld (Zl prog 130) #[(0,1)] [(0,t48)] w λt49 w=>
 (ld1 t63 w (λv' w''=>v'=t64∧w''=w))∧((ld1 t59 w (λv' w''=>v'=t60∧w''=w))∧((ld1 t57 w (λv' w''=>v'=t58∧w''=w))∧((ld1 t53 w (λv' w''=>v'=t54∧w''=w))∧((ldN 3 t2 w (λv' w''=>v'=t50∧w''=w))∧(Cl prog 44 #[t50] w λt51 w=>
 (ld1 t63 w (λv' w''=>v'=t64∧w''=w))∧((ld1 t59 w (λv' w''=>v'=t60∧w''=w))∧((ld1 t57 w (λv' w''=>v'=t58∧w''=w))∧((ld1 t53 w (λv' w''=>v'=t54∧w''=w))∧(bld (Zl prog 132) #[(0,1),(1,1),(2,3),(5,1),(6,1),(7,1),(8,1)] [(0,t42),(1,t49),(2,t51),(3,t1),(4,t58),(5,t65)] w λt66 w=>
 al (Value.cells t66) 132 w λt67 w=>
 K (Value.tuple #[t67,(Iw 0)]) w))))))))))∧(Cl prog 44 #[t50] w λt51_1 w=>
 (ld1 t63 w (λv' w''=>v'=t64∧w''=w))∧((ld1 t59 w (λv' w''=>v'=t60∧w''=w))∧((ld1 t57 w (λv' w''=>v'=t58∧w''=w))∧((ld1 t53 w (λv' w''=>v'=t54∧w''=w))∧(bld (Zl prog 130) #[(0,1)] [(0,t48)] w λt49_1 w=>
 (ld1 t63 w (λv' w''=>v'=t64∧w''=w))∧((ld1 t59 w (λv' w''=>v'=t60∧w''=w))∧((ld1 t57 w (λv' w''=>v'=t58∧w''=w))∧((ld1 t53 w (λv' w''=>v'=t54∧w''=w))∧((ldN 3 t2 w (λv' w''=>v'=t50∧w''=w))∧(bld (Zl prog 132) #[(0,1),(1,1),(2,3),(5,1),(6,1),(7,1),(8,1)] [(0,t42),(1,t49_1),(2,t51_1),(3,t1),(4,t58),(5,t65)] w λt66_1 w=>
 al (Value.cells t66_1) 132 w λt67_1 w=>
 K (Value.tuple #[t67_1,(Iw 0)]) w))))))))))))))))))
theorem Zol (h:ZvA t0 t1 w K):Cl prog 19 #[t0,t1] w K:=
 ZML 68 [4,5] Tryz.func19 h
def ZrQ (t0 t1:Value) (w:World) (K:KV):Prop:=
 al (Value.cells t0) 27 w λt2 w=>
 ldN 3 t2 w λt12 w=>
 Cl prog 17 #[t12] w λt13 w=>
 xt 0 t13 w λ_ w=>
 xt 1 t13 w λt15 w=>
 bi .neq .i64 t15 (Iw 0) w λt17 w=>
 Zr t17
 (K (Value.tuple #[(Value.pointer none),t15]) w)
 (bi .lss .i64 t1 (Iw 0) w λt20 w=>
 gd t20 false (λk=>k t1 w) w λt22 w=>
 gd t20 false (λk=>fld 1 t2 w k) w λt23 w=>
 gd t20 false (λk=>ld1 t23 w k) w λt24 w=>
 gd t20 false (λk=>lnS t24 w k) w λt25 w=>
 gd t20 false (λk=>bi .geq .i64 t22 t25 w k) w λt26 w=>
 pk t20 (Value.bool true) t26 w λt27 w=>
 gd t27 false (λk=>fld 1 t2 w k) w λt29 w=>
 gd t27 false (λk=>ld1 t29 w k) w λt30 w=>
 gd t27 false (λk=>k t1 w) w λt31 w=>
 gd t27 false (λk=>ixS 7 t30 t31 w k) w λt32 w=>
 gd t27 false (λk=>fld 0 t32 w k) w λt33 w=>
 gd t27 false (λk=>ld1 t33 w k) w λt34 w=>
 gd t27 false (λk=>bi .neq .i64 t34 (Iw 1) w k) w λt35 w=>
 pk t27 (Value.bool true) t35 w λt36 w=>
 Zr t36
 (K (Value.tuple #[(Value.pointer none),(Iw 1)]) w)
 (dr w λw=>
 ldN 3 t2 w λt37 _=>
 fld 1 t2 w λt40 _=>
 ld1 t40 w λt41 _=>
 ixS 7 t41 t1 w λt43 _=>
 fld 2 t43 w λt44 _=>
 ld1 t44 w λt45 _=>
 fld 1 t2 w λt46 _=>
 ld1 t46 w λt47 _=>
 ixS 7 t47 t1 w λt49 _=>
 fld 6 t49 w λt50 _=>
 ld1 t50 w λt51 _=>
 lnS t51 w λt52 _=>
 (Cl prog 45 #[t37] w λt38 w=>
 (ld1 t50 w (λv' w''=>v'=t51∧w''=w))∧((ld1 t46 w (λv' w''=>v'=t47∧w''=w))∧((ld1 t44 w (λv' w''=>v'=t45∧w''=w))∧((ld1 t40 w (λv' w''=>v'=t41∧w''=w))∧((Cl prog 43 #[(Iw 64)] w λt53 w=>
 (ld1 t50 w (λv' w''=>v'=t51∧w''=w))∧((ld1 t46 w (λv' w''=>v'=t47∧w''=w))∧((ld1 t44 w (λv' w''=>v'=t45∧w''=w))∧((ld1 t40 w (λv' w''=>v'=t41∧w''=w))∧((Cl prog 46 #[] w λt54 w=>
 (ld1 t50 w (λv' w''=>v'=t51∧w''=w))∧((ld1 t46 w (λv' w''=>v'=t47∧w''=w))∧((ld1 t44 w (λv' w''=>v'=t45∧w''=w))∧((ld1 t40 w (λv' w''=>v'=t41∧w''=w))∧((Cl prog 47 #[] w λt55 w=>
 (ld1 t50 w (λv' w''=>v'=t51∧w''=w))∧((ld1 t46 w (λv' w''=>v'=t47∧w''=w))∧((ld1 t44 w (λv' w''=>v'=t45∧w''=w))∧((ld1 t40 w (λv' w''=>v'=t41∧w''=w))∧(ZlQ w λt56 w=>
 (ld1 t50 w (λv' w''=>v'=t51∧w''=w))∧((ld1 t46 w (λv' w''=>v'=t47∧w''=w))∧((ld1 t44 w (λv' w''=>v'=t45∧w''=w))∧((ld1 t40 w (λv' w''=>v'=t41∧w''=w))∧((ldN 3 t2 w (λv' w''=>v'=t37∧w''=w))∧(bld (Zl prog 139) #[(0,3),(3,1),(4,1),(5,1),(6,1),(7,1),(8,1),(9,1),(10,1)] [(0,t38),(1,t1),(2,t45),(3,t52),(4,t53),(5,t54),(6,t55),(7,t56)] w λt57 w=>
 al (Value.cells t57) 139 w λt58 w=>
 fld 1 t2 w λt59 w=>
 ld1 t59 w λt60 w=>
 lnS t60 w λt61 w=>
 lp [(Iw 0)] w (b1 λt62 w g1=>
 bi .lss .i64 t62 t61 w λt63 w=>
 Zr t63
 (J0 (λw=>
 bi .add .i64 t62 (Iw 1) w λt75 w=>
 g1 [t75] w) λk2=>
 ixS 7 t60 t62 w λt65 w=>
 ldN 7 t65 w λt66 w=>
 al (Zl prog 53) 53 w λt10 w=>
 stN 7 t10 t66 w λ_ w=>
 fld 0 t10 w λt67 w=>
 ld1 t67 w λt68 w=>
 bi .eql .i64 t68 (Iw 0) w λt69 w=>
 Zr t69
 (ncP t58<|
 fld 9 t58 w λt72 w=>
 ld1 t72 w λt73 w=>
 upM prog 137 t73 t62 (Iw 0) w λ_ w=>
 k2 w)
 (k2 w))
 (K (Value.tuple #[t58,(Iw 0)]) w))))))))))))∧(ZlQ w λt56_1 w=>
 (ld1 t50 w (λv' w''=>v'=t51∧w''=w))∧((ld1 t46 w (λv' w''=>v'=t47∧w''=w))∧((ld1 t44 w (λv' w''=>v'=t45∧w''=w))∧((ld1 t40 w (λv' w''=>v'=t41∧w''=w))∧((ldN 3 t2 w (λv' w''=>v'=t37∧w''=w))∧(Cl prog 47 #[] w λt55_1 w=>
 (ld1 t50 w (λv' w''=>v'=t51∧w''=w))∧((ld1 t46 w (λv' w''=>v'=t47∧w''=w))∧((ld1 t44 w (λv' w''=>v'=t45∧w''=w))∧((ld1 t40 w (λv' w''=>v'=t41∧w''=w))∧(bld (Zl prog 139) #[(0,3),(3,1),(4,1),(5,1),(6,1),(7,1),(8,1),(9,1),(10,1)] [(0,t38),(1,t1),(2,t45),(3,t52),(4,t53),(5,t54),(6,t55_1),(7,t56_1)] w λt57_1 w=>
 al (Value.cells t57_1) 139 w λt58_1 w=>
 fld 1 t2 w λt59_1 w=>
 ld1 t59_1 w λt60_1 w=>
 lnS t60_1 w λt61_1 w=>
 lp [(Iw 0)] w (b1 λt62_1 w g3=>
 bi .lss .i64 t62_1 t61_1 w λt63_1 w=>
 Zr t63_1
 (J0 (λw=>
 bi .add .i64 t62_1 (Iw 1) w λt75_1 w=>
 g3 [t75_1] w) λk4=>
 ixS 7 t60_1 t62_1 w λt65_1 w=>
 ldN 7 t65_1 w λt66_1 w=>
 al (Zl prog 53) 53 w λt10_1 w=>
 stN 7 t10_1 t66_1 w λ_ w=>
 fld 0 t10_1 w λt67_1 w=>
 ld1 t67_1 w λt68_1 w=>
 bi .eql .i64 t68_1 (Iw 0) w λt69_1 w=>
 Zr t69_1
 (ncP t58_1<|
 fld 9 t58_1 w λt72_1 w=>
 ld1 t72_1 w λt73_1 w=>
 upM prog 137 t73_1 t62_1 (Iw 0) w λ_ w=>
 k4 w)
 (k4 w))
 (K (Value.tuple #[t58_1,(Iw 0)]) w)))))))))))))))))∧(ZlQ w λt56_2 w=>
 (ld1 t50 w (λv' w''=>v'=t51∧w''=w))∧((ld1 t46 w (λv' w''=>v'=t47∧w''=w))∧((ld1 t44 w (λv' w''=>v'=t45∧w''=w))∧((ld1 t40 w (λv' w''=>v'=t41∧w''=w))∧((ldN 3 t2 w (λv' w''=>v'=t37∧w''=w))∧(Cl prog 46 #[] w λt54_1 w=>
 (ld1 t50 w (λv' w''=>v'=t51∧w''=w))∧((ld1 t46 w (λv' w''=>v'=t47∧w''=w))∧((ld1 t44 w (λv' w''=>v'=t45∧w''=w))∧((ld1 t40 w (λv' w''=>v'=t41∧w''=w))∧(Cl prog 47 #[] w λt55_2 w=>
 (ld1 t50 w (λv' w''=>v'=t51∧w''=w))∧((ld1 t46 w (λv' w''=>v'=t47∧w''=w))∧((ld1 t44 w (λv' w''=>v'=t45∧w''=w))∧((ld1 t40 w (λv' w''=>v'=t41∧w''=w))∧(bld (Zl prog 139) #[(0,3),(3,1),(4,1),(5,1),(6,1),(7,1),(8,1),(9,1),(10,1)] [(0,t38),(1,t1),(2,t45),(3,t52),(4,t53),(5,t54_1),(6,t55_2),(7,t56_2)] w λt57_2 w=>
 al (Value.cells t57_2) 139 w λt58_2 w=>
 fld 1 t2 w λt59_2 w=>
 ld1 t59_2 w λt60_2 w=>
 lnS t60_2 w λt61_2 w=>
 lp [(Iw 0)] w (b1 λt62_2 w g5=>
 bi .lss .i64 t62_2 t61_2 w λt63_2 w=>
 Zr t63_2
 (J0 (λw=>
 bi .add .i64 t62_2 (Iw 1) w λt75_2 w=>
 g5 [t75_2] w) λk6=>
 ixS 7 t60_2 t62_2 w λt65_2 w=>
 ldN 7 t65_2 w λt66_2 w=>
 al (Zl prog 53) 53 w λt10_2 w=>
 stN 7 t10_2 t66_2 w λ_ w=>
 fld 0 t10_2 w λt67_2 w=>
 ld1 t67_2 w λt68_2 w=>
 bi .eql .i64 t68_2 (Iw 0) w λt69_2 w=>
 Zr t69_2
 (ncP t58_2<|
 fld 9 t58_2 w λt72_2 w=>
 ld1 t72_2 w λt73_2 w=>
 upM prog 137 t73_2 t62_2 (Iw 0) w λ_ w=>
 k6 w)
 (k6 w))
 (K (Value.tuple #[t58_2,(Iw 0)]) w)))))))))))))))))))))∧(ZlQ w λt56_3 w=>
 (ld1 t50 w (λv' w''=>v'=t51∧w''=w))∧((ld1 t46 w (λv' w''=>v'=t47∧w''=w))∧((ld1 t44 w (λv' w''=>v'=t45∧w''=w))∧((ld1 t40 w (λv' w''=>v'=t41∧w''=w))∧((ldN 3 t2 w (λv' w''=>v'=t37∧w''=w))∧(Cl prog 43 #[(Iw 64)] w λt53_1 w=>
 (ld1 t50 w (λv' w''=>v'=t51∧w''=w))∧((ld1 t46 w (λv' w''=>v'=t47∧w''=w))∧((ld1 t44 w (λv' w''=>v'=t45∧w''=w))∧((ld1 t40 w (λv' w''=>v'=t41∧w''=w))∧(Cl prog 46 #[] w λt54_2 w=>
 (ld1 t50 w (λv' w''=>v'=t51∧w''=w))∧((ld1 t46 w (λv' w''=>v'=t47∧w''=w))∧((ld1 t44 w (λv' w''=>v'=t45∧w''=w))∧((ld1 t40 w (λv' w''=>v'=t41∧w''=w))∧(Cl prog 47 #[] w λt55_3 w=>
 (ld1 t50 w (λv' w''=>v'=t51∧w''=w))∧((ld1 t46 w (λv' w''=>v'=t47∧w''=w))∧((ld1 t44 w (λv' w''=>v'=t45∧w''=w))∧((ld1 t40 w (λv' w''=>v'=t41∧w''=w))∧(bld (Zl prog 139) #[(0,3),(3,1),(4,1),(5,1),(6,1),(7,1),(8,1),(9,1),(10,1)] [(0,t38),(1,t1),(2,t45),(3,t52),(4,t53_1),(5,t54_2),(6,t55_3),(7,t56_3)] w λt57_3 w=>
 al (Value.cells t57_3) 139 w λt58_3 w=>
 fld 1 t2 w λt59_3 w=>
 ld1 t59_3 w λt60_3 w=>
 lnS t60_3 w λt61_3 w=>
 lp [(Iw 0)] w (b1 λt62_3 w g7=>
 bi .lss .i64 t62_3 t61_3 w λt63_3 w=>
 Zr t63_3
 (J0 (λw=>
 bi .add .i64 t62_3 (Iw 1) w λt75_3 w=>
 g7 [t75_3] w) λk8=>
 ixS 7 t60_3 t62_3 w λt65_3 w=>
 ldN 7 t65_3 w λt66_3 w=>
 al (Zl prog 53) 53 w λt10_3 w=>
 stN 7 t10_3 t66_3 w λ_ w=>
 fld 0 t10_3 w λt67_3 w=>
 ld1 t67_3 w λt68_3 w=>
 bi .eql .i64 t68_3 (Iw 0) w λt69_3 w=>
 Zr t69_3
 (ncP t58_3<|
 fld 9 t58_3 w λt72_3 w=>
 ld1 t72_3 w λt73_3 w=>
 upM prog 137 t73_3 t62_3 (Iw 0) w λ_ w=>
 k8 w)
 (k8 w))
 (K (Value.tuple #[t58_3,(Iw 0)]) w)))))))))))))))))))))))))∧(ZlQ w λt56_4 w=>
 (ld1 t50 w (λv' w''=>v'=t51∧w''=w))∧((ld1 t46 w (λv' w''=>v'=t47∧w''=w))∧((ld1 t44 w (λv' w''=>v'=t45∧w''=w))∧((ld1 t40 w (λv' w''=>v'=t41∧w''=w))∧((ldN 3 t2 w (λv' w''=>v'=t37∧w''=w))∧(Cl prog 45 #[t37] w λt38_1 w=>
 (ld1 t50 w (λv' w''=>v'=t51∧w''=w))∧((ld1 t46 w (λv' w''=>v'=t47∧w''=w))∧((ld1 t44 w (λv' w''=>v'=t45∧w''=w))∧((ld1 t40 w (λv' w''=>v'=t41∧w''=w))∧(Cl prog 43 #[(Iw 64)] w λt53_2 w=>
 (ld1 t50 w (λv' w''=>v'=t51∧w''=w))∧((ld1 t46 w (λv' w''=>v'=t47∧w''=w))∧((ld1 t44 w (λv' w''=>v'=t45∧w''=w))∧((ld1 t40 w (λv' w''=>v'=t41∧w''=w))∧(Cl prog 46 #[] w λt54_3 w=>
 (ld1 t50 w (λv' w''=>v'=t51∧w''=w))∧((ld1 t46 w (λv' w''=>v'=t47∧w''=w))∧((ld1 t44 w (λv' w''=>v'=t45∧w''=w))∧((ld1 t40 w (λv' w''=>v'=t41∧w''=w))∧(Cl prog 47 #[] w λt55_4 w=>
 (ld1 t50 w (λv' w''=>v'=t51∧w''=w))∧((ld1 t46 w (λv' w''=>v'=t47∧w''=w))∧((ld1 t44 w (λv' w''=>v'=t45∧w''=w))∧((ld1 t40 w (λv' w''=>v'=t41∧w''=w))∧(bld (Zl prog 139) #[(0,3),(3,1),(4,1),(5,1),(6,1),(7,1),(8,1),(9,1),(10,1)] [(0,t38_1),(1,t1),(2,t45),(3,t52),(4,t53_2),(5,t54_3),(6,t55_4),(7,t56_4)] w λt57_4 w=>
 al (Value.cells t57_4) 139 w λt58_4 w=>
 fld 1 t2 w λt59_4 w=>
 ld1 t59_4 w λt60_4 w=>
 lnS t60_4 w λt61_4 w=>
 lp [(Iw 0)] w (b1 λt62_4 w g9=>
 bi .lss .i64 t62_4 t61_4 w λt63_4 w=>
 Zr t63_4
 (J0 (λw=>
 bi .add .i64 t62_4 (Iw 1) w λt75_4 w=>
 g9 [t75_4] w) λk10=>
 ixS 7 t60_4 t62_4 w λt65_4 w=>
 ldN 7 t65_4 w λt66_4 w=>
 al (Zl prog 53) 53 w λt10_4 w=>
 stN 7 t10_4 t66_4 w λ_ w=>
 fld 0 t10_4 w λt67_4 w=>
 ld1 t67_4 w λt68_4 w=>
 bi .eql .i64 t68_4 (Iw 0) w λt69_4 w=>
 Zr t69_4
 (ncP t58_4<|
 fld 9 t58_4 w λt72_4 w=>
 ld1 t72_4 w λt73_4 w=>
 upM prog 137 t73_4 t62_4 (Iw 0) w λ_ w=>
 k10 w)
 (k10 w))
 (K (Value.tuple #[t58_4,(Iw 0)]) w))))))))))))))))))))))))))
theorem Zm5 (h:ZrQ t0 t1 w K):Cl prog 20 #[t0,t1] w K:=
 ZML 77 [4,5] Tryz.func20 h
def Zvg (t0:Value) (w:World) (K:KV):Prop:=
 bi .lss .i64 t0 (Iw 1) w λt5 w=>
 gd t5 false (λk=>k t0 w) w λt7 w=>
 gd t5 false (λk=>bi .gtr .i64 t7 (Iw 8) w k) w λt8 w=>
 pk t5 (Value.bool true) t8 w λt9 w=>
 Zr t9
 (K (Value.tuple #[(Value.pointer none),(Iw 1)]) w)
 (bld (Zl prog 145) #[(0,1),(1,1),(2,1),(3,16),(19,2),(21,1),(22,1)] [(0,t0)] w λt11 w=>
 al (Value.cells t11) 145 w λt12 w=>
 K (Value.tuple #[t12,(Iw 0)]) w)
theorem ZoD (h:Zvg t0 w K):Cl prog 21 #[t0] w K:=
 ZML 13 [2,3] Tryz.func21 h
def Ziq (t0:Value) (w:World) (K:KV):Prop:=
 al (Value.cells t0) 27 w λt1 w=>
 fld 1 t1 w λt6 w=>
 ld1 t6 w λt7 w=>
 lnS t7 w λt8 w=>
 lp [(Value.slice none 0 0),(Iw 0)] w (b2 λt3 t9 w g1=>
 bi .lss .i64 t9 t8 w λt10 w=>
 Zr t10
 (ixS 7 t7 t9 w λt12 w=>
 ldN 7 t12 w λt13 w=>
 al (Zl prog 53) 53 w λt5 w=>
 stN 7 t5 t13 w λ_ w=>
 ldN 3 t1 w λt15 w=>
 fld 6 t5 w λt17 w=>
 ld1 t17 w λt18 w=>
 Cl prog 48 #[t15,t9,(Iw 0),(Iw 0),(Iw 0),t18] w λt19 w=>
 apS prog #[81,81] 81 t3 t19 w λt20 w=>
 bi .add .i64 t9 (Iw 1) w λt21 w=>
 g1 [t20,t21] w)
 (K t3 w))
theorem ZhE (h:Ziq t0 w K):Cl prog 22 #[t0] w K:=
 ZML 23 [2] Tryz.func22 h
def ZgU (t0 t1 t2:Value) (w:World) (K:KV):Prop:=
 dr w λw=>
 ncP t0<|
 fld 2 t0 w λt8 _=>
 ld1 t8 w λt9 _=>
 ncP t0<|
 fld 2 t0 w λt13 _=>
 ld1 t13 w λt14 _=>
 ixS 1 t14 t1 w λt16 _=>
 ld1 t16 w λt17 _=>
 apS prog #[92,92] 92 t17 t2 w λt19 w=>
 (ld1 t8 w (λv' w''=>v'=t9∧w''=w))∧(ixS 1 t9 t1 w λt20 _=>
 stN 1 t20 t19 w λ_ w=>
 K (Value.tuple #[]) w)
theorem Zgq (h:ZgU t0 t1 t2 w K):Cl prog 23 #[t0,t1,t2] w K:=
 ZML 21 [] Tryz.func23 h
def Zij (t0 t1:Value) (w:World) (K:KV):Prop:=
 al (Value.cells t1) 88 w λt3 w=>
 fld 0 t3 w λt6 w=>
 ld1 t6 w λt7 w=>
 bi .lss .i64 t7 (Iw 0) w λt8 w=>
 gd t8 false (λk=>fld 0 t3 w k) w λt10 w=>
 gd t8 false (λk=>ld1 t10 w k) w λt11 w=>
 gd t8 false (λk=>bi .gtr .i64 t11 (Iw 6) w k) w λt12 w=>
 pk t8 (Value.bool true) t12 w λt13 w=>
 gd t13 false (λk=>fld 0 t3 w k) w λt15 w=>
 gd t13 false (λk=>ld1 t15 w k) w λt16 w=>
 gd t13 false (λk=>bi .neq .i64 t16 (Iw 4) w k) w λt17 w=>
 gd t13 false (λk=>k t17 w) w λt18 w=>
 gd t18 true (λk=>k t0 w) w λt19 w=>
 gd t18 true (λk=>fld 1 t3 w k) w λt20 w=>
 gd t18 true (λk=>ld1 t20 w k) w λt21 w=>
 gd t18 true (λk=>Cl prog 30 #[t19,t21] w k) w λt22 w=>
 gd t18 true (λk=>Zb3 t22 w k) w λt23 w=>
 gd t13 false (λk=>pk t18 t23 (Value.bool false) w k) w λt24 w=>
 pk t13 (Value.bool true) t24 w λt25 w=>
 gd t25 false (λk=>fld 0 t3 w k) w λt27 w=>
 gd t25 false (λk=>ld1 t27 w k) w λt28 w=>
 gd t25 false (λk=>bi .eql .i64 t28 (Iw 2) w k) w λt29 w=>
 gd t25 false (λk=>k t29 w) w λt30 w=>
 gd t30 true (λk=>k t0 w) w λt31 w=>
 gd t30 true (λk=>fld 2 t3 w k) w λt32 w=>
 gd t30 true (λk=>ld1 t32 w k) w λt33 w=>
 gd t30 true (λk=>Cl prog 30 #[t31,t33] w k) w λt34 w=>
 gd t30 true (λk=>Zb3 t34 w k) w λt35 w=>
 gd t25 false (λk=>pk t30 t35 (Value.bool false) w k) w λt36 w=>
 pk t25 (Value.bool true) t36 w λt37 w=>
 Zr t37
 (K (Iw 1) w)
 (fld 0 t3 w λt38 w=>
 ld1 t38 w λt39 w=>
 bi .eql .i64 t39 (Iw 0) w λt41 w=>
 Zr t41
 (fld 1 t3 w λt43 w=>
 ld1 t43 w λt44 w=>
 Cl prog 49 #[t0,t44] w λt45 w=>
 K t45 w)
 (bi .eql .i64 t39 (Iw 1) w λt47 w=>
 Zr t47
 (fld 1 t3 w λt49 w=>
 ld1 t49 w λt50 w=>
 Cl prog 50 #[t0,t50] w λt51 w=>
 K t51 w)
 (bi .eql .i64 t39 (Iw 2) w λt53 w=>
 Zr t53
 (fld 1 t3 w λt55 w=>
 ld1 t55 w λt56 w=>
 fld 2 t3 w λt57 w=>
 ld1 t57 w λt58 w=>
 Cl prog 51 #[t0,t56,t58] w λt59 w=>
 K t59 w)
 (bi .eql .i64 t39 (Iw 3) w λt61 w=>
 Zr t61
 (fld 1 t3 w λt63 w=>
 ld1 t63 w λt64 w=>
 Cl prog 52 #[t0,t64] w λt65 w=>
 K t65 w)
 (bi .eql .i64 t39 (Iw 4) w λt67 w=>
 Zr t67
 (ncP t0<|
 fld 4 t0 w λt70 w=>
 ld1 t70 w λt71 w=>
 bn .eql t71 w λt72 w=>
 Zr t72
 (K (Iw 150) w)
 (ncP t0<|
 fld 4 t0 w λt75 w=>
 ld1 t75 w λt76 w=>
 Cl prog 53 #[t76] w λt77 w=>
 K t77 w))
 (fld 1 t3 w λt79 w=>
 ld1 t79 w λt80 w=>
 Cl prog 28 #[t0,t80] w λt81 w=>
 bn .eql t81 w λt84 w=>
 Zr t84
 (K (Iw 1) w)
 (fld 0 t3 w λt86 w=>
 ld1 t86 w λt87 w=>
 bi .eql .i64 t87 (Iw 5) w λt88 w=>
 Zr t88
 (dr w λw=>
 ncP t0<|
 fld 4 t0 w λt91 _=>
 ld1 t91 w λt92 _=>
 ncP t81<|
 fld 1 t81 w λt95 _=>
 ld1 t95 w λt96 _=>
 Cl prog 54 #[t92,t96] w λt97 w=>
 K t97 w)
 (fld 1 t3 w λt99 w=>
 ld1 t99 w λt100 w=>
 Cl prog 55 #[t0,t100,t81] w λt102 w=>
 K t102 w))))))))
theorem ZhK (h:Zij t0 t1 w K):Cl prog 24 #[t0,t1] w K:=
 ZML 103 [4] Tryz.func24 h
def Zez (t0 t1:Value) (w:World) (K:KV):Prop:=
 al (Value.cells t1) 3 w λt3 w=>
 al (Zl prog 3) 3 w λt5 w=>
 stN 1 t5 (Iw 0) w λ_ w=>
 Cl prog 56 #[t0] w λt9 w=>
 rfW prog t9 2 (λl a w k=>
 al (Zl prog 85) 85 w λt7 w=>
 stN 8 t7 (a 1) w λ_ w=>
 bgn l w λw=>
 fld 0 t7 w λt12 w=>
 ld1 t12 w λt13 w=>
 bi .neq .i64 t13 (Iw 2) w λt14 w=>
 gd t14 true (λk=>fld 7 t7 w k) w λt16 w=>
 gd t14 true (λk=>ld1 t16 w k) w λt17 w=>
 gd t14 true (λk=>ld1 t3 w k) w λt18 w=>
 gd t14 true (λk=>bi .eql .i64 t17 t18 w k) w λt19 w=>
 pk t14 t19 (Value.bool false) w λt20 w=>
 Zr t20
 (ld1 t5 w λt21 w=>
 bi .add .i64 t21 (Iw 1) w λt22 w=>
 stN 1 t5 t22 w λ_ w=>
 edn l w k)
 (edn l w k)) w λD w=>
 ld1 t5 w λt23 w=>
 Zz7 D w λw=>
 K t23 w
theorem ZeT (h:Zez t0 t1 w K):Cl prog 25 #[t0,t1] w K:=
 Cl.mk (by kernel_rfl) (Zm6 (fn:=Tryz.f25) (nt:=24) (rs:=[4]) Zm Tryz.func25 (by kernel_rfl) (by kernel_rfl) (Nat.le_of_ble_eq_true (by kernel_rfl)) (by kernel_rfl) (by kernel_rfl) h)
def Zas (t0 t1:Value) (w:World) (K:KV):Prop:=
 Cl prog 57 #[t0,t1] w λt7 w=>
 bi .geq .i64 t7 (Iw 0) w λt8 w=>
 K t8 w
theorem Za8 (h:Zas t0 t1 w K):Cl prog 26 #[t0,t1] w K:=
 ZML 9 [4] Tryz.func26 h
def Zds (t0:Value) (w:World) (K:KV):Prop:=
 al (Value.cells t0) 85 w λt1 w=>
 fld 0 t1 w λt3 w=>
 ld1 t3 w λt4 w=>
 bi .neq .i64 t4 (Iw 2) w λt5 w=>
 K t5 w
theorem ZdX (h:Zds t0 w K):Cl prog 27 #[t0] w K:=
 ZML 6 [2] Tryz.func27 h
def Zfp (t0 t1:Value) (w:World) (K:KV):Prop:=
 ncP t0<|
 fld 1 t0 w λt8 w=>
 ld1 t8 w λt9 w=>
 ixS 1 t9 t1 w λt11 w=>
 ld1 t11 w λt12 w=>
 tyA prog t12 90 76 true w λt13 w=>
 xt 1 t13 w λt14 w=>
 xt 0 t13 w λt15 w=>
 Zr t14
 (K t15 w)
 (K (Value.pointer none) w)
theorem Zfq (h:Zfp t0 t1 w K):Cl prog 28 #[t0,t1] w K:=
 ZML 17 [4] Tryz.func28 h
def Zfc (t0:Value) (w:World) (K:KV):Prop:=
 ncP t0<|
 fld 7 t0 w λt5 w=>
 ld1 t5 w λt6 w=>
 Cl prog 58 #[t6] w λt7 w=>
 K t7 w
theorem ZfZ (h:Zfc t0 w K):Cl prog 29 #[t0] w K:=
 ZML 8 [2] Tryz.func29 h
def Zip (t0 t1:Value) (w:World) (K:KV):Prop:=
 bi .geq .i64 t1 (Iw 0) w λt6 w=>
 gd t6 true (λk=>k t1 w) w λt8 w=>
 gd t6 true (λk=>k t0 w) w λt9 w=>
 gd t6 true (λk=>nc t9 w k) w λt10 w=>
 gd t6 true (λk=>fld 1 t10 w k) w λt11 w=>
 gd t6 true (λk=>ld1 t11 w k) w λt12 w=>
 gd t6 true (λk=>lnS t12 w k) w λt13 w=>
 gd t6 true (λk=>bi .lss .i64 t8 t13 w k) w λt14 w=>
 pk t6 t14 (Value.bool false) w λt15 w=>
 K t15 w
theorem ZhU (h:Zip t0 t1 w K):Cl prog 30 #[t0,t1] w K:=
 ZML 16 [4] Tryz.func30 h
def ZSk (t0:Value) (w:World) (K:KV):Prop:=
 al (Value.cells t0) 27 w λt1 w=>
 al (Zl prog 27) 27 w λt2 w=>
 fld 0 t1 w λt6 w=>
 ld1 t6 w λt7 w=>
 Cl prog 59 #[t7] w λt8 w=>
 fld 0 t1 w λt9 w=>
 stN 1 t9 t8 w λ_ w=>
 fld 1 t1 w λt10 w=>
 ld1 t10 w λt11 w=>
 Cl prog 60 #[t11] w λt12 w=>
 fld 1 t1 w λt13 w=>
 stN 1 t13 t12 w λ_ w=>
 fld 1 t1 w λt14 w=>
 ld1 t14 w λt15 w=>
 lnS t15 w λt16 w=>
 lp [(Iw 0)] w (b1 λt17 w g1=>
 bi .lss .i64 t17 t16 w λt18 w=>
 Zr t18
 (fld 1 t1 w λt20 w=>
 ld1 t20 w λt21 w=>
 ixS 7 t21 t17 w λt23 w=>
 dr w λw=>
 ncP t23<|
 fld 4 t23 w λt30 _=>
 ld1 t30 w λt31 _=>
 ncP t23<|
 fld 5 t23 w λt35 _=>
 ld1 t35 w λt36 _=>
 ncP t23<|
 fld 6 t23 w λt40 _=>
 ld1 t40 w λt41 _=>
 ncP t23<|
 fld 3 t23 w λt45 _=>
 ld1 t45 w λt46 _=>
 Cl prog 59 #[t31] w λt32 w=>
 (ld1 t45 w (λv' w''=>v'=t46∧w''=w))∧((ld1 t40 w (λv' w''=>v'=t41∧w''=w))∧((ld1 t35 w (λv' w''=>v'=t36∧w''=w))∧(Cl prog 59 #[t36] w λt37 w=>
 (ld1 t45 w (λv' w''=>v'=t46∧w''=w))∧((ld1 t40 w (λv' w''=>v'=t41∧w''=w))∧(Cl prog 61 #[t41] w λt42 w=>
 (ld1 t45 w (λv' w''=>v'=t46∧w''=w))∧(Cl prog 62 #[t46] w λt47 w=>
 ncP t23<|
 fld 4 t23 w λt49 _=>
 stN 1 t49 t32 w λ_ w=>
 ncP t23<|
 fld 5 t23 w λt51 _=>
 stN 1 t51 t37 w λ_ w=>
 ncP t23<|
 fld 6 t23 w λt53 _=>
 stN 1 t53 t42 w λ_ w=>
 ncP t23<|
 fld 3 t23 w λt55 _=>
 stN 1 t55 t47 w λ_ w=>
 ncP t23<|
 fld 3 t23 w λt58 w=>
 ld1 t58 w λt59 w=>
 lnS t59 w λt60 w=>
 lp [(Iw 0)] w (b1 λt61 w g2=>
 bi .lss .i64 t61 t60 w λt62 w=>
 Zr t62
 (dr w λw=>
 ncP t23<|
 fld 3 t23 w λt66 _=>
 ld1 t66 w λt67 _=>
 ncP t23<|
 fld 3 t23 w λt71 _=>
 ld1 t71 w λt72 _=>
 ixS 4 t72 t61 w λt74 _=>
 fld 3 t74 w λt75 _=>
 ld1 t75 w λt76 _=>
 Cl prog 61 #[t76] w λt77 w=>
 (ld1 t66 w (λv' w''=>v'=t67∧w''=w))∧(ixS 4 t67 t61 w λt78 _=>
 fld 3 t78 w λt79 _=>
 stN 1 t79 t77 w λ_ w=>
 bi .add .i64 t61 (Iw 1) w λt80 w=>
 g2 [t80] w))
 (bi .add .i64 t17 (Iw 1) w λt81 w=>
 g1 [t81] w)))))))))
 (ldN 3 t1 w λt82 w=>
 stN 3 t2 t82 w λ_ w=>
 ldN 3 t2 w λr0 _=>
 K r0 w))
theorem ZSe (h:ZSk t0 w K):Cl prog 31 #[t0] w K:=
 ZMM 83 [(2,some 27)] Tryz.func31 h
def ZSx (t0 t1:Value) (w:World) (K:KV):Prop:=
 lnS t0 w λt7 w=>
 lp [(Iw 0)] w (b1 λt8 w g1=>
 bi .lss .i64 t8 t7 w λt9 w=>
 Zr t9
 (ixS 6 t0 t8 w λt10 w=>
 ldN 6 t10 w λt11 w=>
 al (Zl prog 40) 40 w λt5 w=>
 stN 6 t5 t11 w λ_ w=>
 ldN 6 t5 w λt13 w=>
 clV prog t1 #[t13] w λ_ w=>
 bi .add .i64 t8 (Iw 1) w λt15 w=>
 g1 [t15] w)
 (K (Value.tuple #[]) w))
theorem ZSj (h:ZSx t0 t1 w K):Cl prog 32 #[t0,t1] w K:=
 ZML 16 [] Tryz.func32 h
def ZSb (t0 t1:Value) (w:World) (K:KV):Prop:=
 al (Value.cells t1) 40 w λt3 w=>
 dr w λw=>
 ncP t0<|
 fld 4 t0 w λt6 _=>
 ldN 6 t3 w λt8 _=>
 Cl prog 63 #[(Value.iface 160 t6),(Value.iface 40 t8)] w λ_ w=>
 K (Value.tuple #[]) w
theorem ZR8 (h:ZSb t0 t1 w K):Cl prog 33 #[t0,t1] w K:=
 ZML 11 [] Tryz.func33 h
def ZSa (t0:Value) (w:World) (K:KV):Prop:=
 al (Zl prog 42) 42 w λt2 w=>
 dr w λw=>
 ncP t0<|
 fld 4 t0 w λt11 _=>
 ld1 t11 w λt12 _=>
 lnS t12 w λt13 _=>
 bi .eql .i64 t13 (Iw 0) w λt14 _=>
 gd t14 false (λk=>k t0 w) w λt16 _=>
 gd t14 false (λk=>nc t16 w k) w λt17 _=>
 gd t14 false (λk=>fld 4 t17 w k) w λt18 _=>
 gd t14 false (λk=>ld1 t18 w k) w λt19 _=>
 gd t14 false (λk=>ixS 6 t19 (Iw 0) w k) w λt20 _=>
 gd t14 false (λk=>fld 0 t20 w k) w λt21 _=>
 gd t14 false (λk=>fld 0 t21 w k) w λt22 _=>
 gd t14 false (λk=>ld1 t22 w k) w λt23 _=>
 gd t14 false (λk=>k t0 w) w λt24 _=>
 gd t14 false (λk=>nc t24 w k) w λt25 _=>
 gd t14 false (λk=>fld 0 t25 w k) w λt26 _=>
 gd t14 false (λk=>fld 2 t26 w k) w λt27 _=>
 gd t14 false (λk=>ld1 t27 w k) w λt28 _=>
 gd t14 false (λk=>bi .geq .i64 t23 t28 w k) w λt29 _=>
 pk t14 (Value.bool true) t29 w λt30 _=>
 Zr t30
 (bld (Zl prog 42) #[(0,6),(6,1)] [] w λt31 w=>
 stN 7 t2 t31 w λ_ w=>
 ldN 7 t2 w λr0 _=>
 K (Value.tuple #[r0,(Value.bool false)]) w)
 (ncP t0<|
 fld 4 t0 w λt34 w=>
 Cl prog 64 #[(Value.iface 160 t34)] w λt36 w=>
 tyA prog t36 20 40 false w λt37 w=>
 al (Zl prog 40) 40 w λt4 w=>
 stN 6 t4 t37 w λ_ w=>
 dr w λw=>
 ncP t0<|
 fld 3 t0 w λt40 _=>
 ld1 t40 w λt41 _=>
 fld 3 t4 w λt42 _=>
 ld1 t42 w λt43 _=>
 ixS 3 t41 t43 w λt44 _=>
 dr w λw=>
 ncP t0<|
 fld 0 t0 w λt48 _=>
 fld 1 t48 w λt49 _=>
 ld1 t49 w λt50 _=>
 fld 3 t4 w λt51 _=>
 ld1 t51 w λt52 _=>
 ixS 7 t50 t52 w λt53 _=>
 fld 3 t53 w λt54 _=>
 ld1 t54 w λt55 _=>
 ncP t44<|
 fld 0 t44 w λt58 _=>
 ld1 t58 w λt59 _=>
 fld 4 t4 w λt60 _=>
 ld1 t60 w λt61 _=>
 Cl prog 65 #[t55,t59,t61] w λt62 w=>
 xt 0 t62 w λt63 _=>
 xt 1 t62 w λt64 _=>
 dr w λw=>
 ncP t0<|
 fld 0 t0 w λt67 _=>
 ldN 3 t67 w λt68 _=>
 fld 3 t4 w λt69 _=>
 ld1 t69 w λt70 _=>
 ncP t44<|
 fld 1 t44 w λt73 _=>
 ld1 t73 w λt74 _=>
 fld 0 t4 w λt75 _=>
 fld 0 t75 w λt76 _=>
 ld1 t76 w λt77 _=>
 fld 5 t4 w λt78 _=>
 ld1 t78 w λt79 _=>
 Cl prog 48 #[t68,t70,t74,t77,t79,t64] w λt81 w=>
 Cl prog 32 #[t81,(Value.func (Fn.func 33) #[t0] #[])] w λ_ w=>
 ncP t44<|
 fld 0 t44 w λt88 w=>
 stN 1 t88 t63 w λ_ w=>
 ncP t44<|
 fld 1 t44 w λt91 w=>
 ld1 t91 w λt92 w=>
 lnS t64 w λt94 w=>
 bi .add .i64 t92 t94 w λt95 w=>
 ncP t44<|
 fld 1 t44 w λt97 w=>
 stN 1 t97 t95 w λ_ w=>
 ldN 6 t4 w λt98 w=>
 bld (Zl prog 42) #[(0,6),(6,1)] [(0,t98),(1,t63)] w λt100 w=>
 al (Zl prog 42) 42 w λt8 w=>
 stN 7 t8 t100 w λ_ w=>
 dr w λw=>
 ncP t44<|
 fld 2 t44 w λt104 _=>
 ld1 t104 w λt105 _=>
 ldN 7 t8 w λt106 _=>
 bsl 42 7 1 (Zl prog 42) [(0,t106)] w λt107 w=>
 (ld1 t104 w (λv' w''=>v'=t105∧w''=w))∧(apS prog #[35,35] 35 t105 t107 w λt108 w=>
 ncP t44<|
 fld 2 t44 w λt110 _=>
 stN 1 t110 t108 w λ_ w=>
 ldN 7 t8 w λt111 w=>
 stN 7 t2 t111 w λ_ w=>
 ldN 7 t2 w λr0 _=>
 K (Value.tuple #[r0,(Value.bool true)]) w))
theorem ZR9 (h:ZSa t0 w K):Cl prog 34 #[t0] w K:=
 ZMM 112 [(2,some 42),(3,none)] Tryz.func34 h
def Za1 (t0:Value) (w:World) (K:KV):Prop:=
 bO prog .eql 35 (Operand.tmp 3) (Operand.const (Value.slice none 0 0)) t0 (Value.slice none 0 0) w λt4 w=>
 Zr t4
 (K (Value.slice none 0 0) w)
 (bsl 42 7 0 #[] [] w λt5 w=>
 apS prog #[35,35] 35 t5 t0 w λt7 w=>
 K t7 w)
theorem ZbG (h:Za1 t0 w K):Cl prog 35 #[t0] w K:=
 ZML 8 [2] Tryz.func35 h
def Zkn (t0:Value) (w:World) (K:KV):Prop:=
 lnS t0 w λt7 w=>
 lp [(Iw 0)] w (b1 λt8 w g1=>
 bi .lss .i64 t8 t7 w λt9 w=>
 Zr t9
 (ixS 1 t0 t8 w λt10 w=>
 ld1 t10 w λt11 w=>
 clV prog t11 #[] w λt13 w=>
 bi .neq .i64 t13 (Iw 0) w λt15 w=>
 Zr t15
 (K t13 w)
 (bi .add .i64 t8 (Iw 1) w λt17 w=>
 g1 [t17] w))
 (K (Iw 0) w))
theorem ZiT (h:Zkn t0 w K):Cl prog 36 #[t0] w K:=
 ZML 18 [2] Tryz.func36 h
def Zhe (t0:Value) (w:World) (K:KV):Prop:=
 fld 0 t0 w λt2 w=>
 ld1 t2 w λt3 w=>
 Cl prog 38 #[t3] w λt4 w=>
 K t4 w
theorem ZgJ (h:Zhe t0 w K):Cl prog 37 #[t0] w K:=
 ZML 5 [1] Tryz.func37 h
def ZnC (t0:Value) (w:World) (K:KV):Prop:=
 lnS t0 w λt7 w=>
 bi .lss .i64 t7 (Iw 1) w λt9 w=>
 gd t9 false (λk=>k t7 w) w λt11 w=>
 gd t9 false (λk=>bi .gtr .i64 t11 (Iw 16) w k) w λt12 w=>
 pk t9 (Value.bool true) t12 w λt13 w=>
 Zr t13
 (K (Iw 50) w)
 (lnS t0 w λt15 w=>
 lp [(Iw 0)] w (b1 λt16 w g1=>
 bi .lss .i64 t16 t15 w λt17 w=>
 Zr t17
 (ixS 1 t0 t16 w λt19 w=>
 ld1 t19 w λt20 w=>
 bi .lss .i64 t20 (Iw (-1)) w λt22 w=>
 gd t22 false (λk=>k t20 w) w λt24 w=>
 gd t22 false (λk=>k t16 w) w λt25 w=>
 gd t22 false (λk=>bi .geq .i64 t24 t25 w k) w λt26 w=>
 pk t22 (Value.bool true) t26 w λt27 w=>
 Zr t27
 (K (Iw 50) w)
 (bi .add .i64 t16 (Iw 1) w λt28 w=>
 g1 [t28] w))
 (K (Iw 0) w)))
theorem Zk1 (h:ZnC t0 w K):Cl prog 38 #[t0] w K:=
 ZML 29 [2] Tryz.func38 h
def Ziv (t0 t1:Value) (w:World) (K:KV):Prop:=
 al (Value.cells t0) 4 w λt2 w=>
 al (Value.cells t1) 30 w λt3 w=>
 K (Value.func (Fn.func 66) #[] #[t2,t3]) w
theorem Zhy (h:Ziv t0 t1 w K):Cl prog 39 #[t0,t1] w K:=
 ZML 6 [4] Tryz.func39 h
def Zjk (t0 t1 t2:Value) (w:World) (K:KV):Prop:=
 bi .geq .i64 t0 t1 w λt9 w=>
 gd t9 true (λk=>k t0 w) w λt11 w=>
 gd t9 true (λk=>k t2 w) w λt12 w=>
 gd t9 true (λk=>bi .leq .i64 t11 t12 w k) w λt13 w=>
 pk t9 t13 (Value.bool false) w λt14 w=>
 K t14 w
theorem Zh6 (h:Zjk t0 t1 t2 w K):Cl prog 40 #[t0,t1,t2] w K:=
 ZML 15 [6] Tryz.func40 h
def ZnF (t0 t1:Value) (w:World) (K:KV):Prop:=
 al (Value.cells t0) 53 w λt2 w=>
 al (Value.cells t1) 3 w λt3 w=>
 dr w λw=>
 fld 0 t2 w λt11 _=>
 ld1 t11 w λt12 _=>
 fld 1 t2 w λt15 _=>
 ld1 t15 w λt16 _=>
 fld 2 t2 w λt19 _=>
 ld1 t19 w λt20 _=>
 fld 4 t2 w λt25 _=>
 ld1 t25 w λt26 _=>
 fld 6 t2 w λt36 _=>
 ld1 t36 w λt37 _=>
 lnS t37 w λt38 _=>
 bi .leq .i64 t38 (Iw 4) w λt39 _=>
 Cl prog 40 #[t12,(Iw 0),(Iw 1)] w λt13 w=>
 (ld1 t36 w (λv' w''=>v'=t37∧w''=w))∧((ld1 t25 w (λv' w''=>v'=t26∧w''=w))∧((ld1 t19 w (λv' w''=>v'=t20∧w''=w))∧((ld1 t15 w (λv' w''=>v'=t16∧w''=w))∧(Cl prog 39 #[t13,(Iw 1)] w λt14 w=>
 (ld1 t36 w (λv' w''=>v'=t37∧w''=w))∧((ld1 t25 w (λv' w''=>v'=t26∧w''=w))∧((ld1 t19 w (λv' w''=>v'=t20∧w''=w))∧((ld1 t15 w (λv' w''=>v'=t16∧w''=w))∧(Cl prog 40 #[t16,(Iw 1),(Iw 1048576)] w λt17 w=>
 (ld1 t36 w (λv' w''=>v'=t37∧w''=w))∧((ld1 t25 w (λv' w''=>v'=t26∧w''=w))∧((ld1 t19 w (λv' w''=>v'=t20∧w''=w))∧(Cl prog 39 #[t17,(Iw 80)] w λt18 w=>
 (ld1 t36 w (λv' w''=>v'=t37∧w''=w))∧((ld1 t25 w (λv' w''=>v'=t26∧w''=w))∧((ld1 t19 w (λv' w''=>v'=t20∧w''=w))∧(Cl prog 40 #[t20,(Iw 0),(Iw 7)] w λt21 w=>
 (ld1 t36 w (λv' w''=>v'=t37∧w''=w))∧((ld1 t25 w (λv' w''=>v'=t26∧w''=w))∧(Cl prog 39 #[t21,(Iw 70)] w λt22 w=>
 (ld1 t36 w (λv' w''=>v'=t37∧w''=w))∧((ld1 t25 w (λv' w''=>v'=t26∧w''=w))∧(clV prog (Value.func (Fn.func 67) #[] #[t3]) #[t26] w λt27 w=>
 (ld1 t36 w (λv' w''=>v'=t37∧w''=w))∧(gd t27 true (λk=>k (Value.func (Fn.func 67) #[] #[t3]) w) w λt29 _=>
 gd t27 true (λk=>fld 5 t2 w k) w λt30 _=>
 gd t27 true (λk=>ld1 t30 w k) w λt31 _=>
 gd t27 true (λk=>clV prog t29 #[t31] w k) w λt32 w=>
 (ld1 t36 w (λv' w''=>v'=t37∧w''=w))∧(pk t27 t32 (Value.bool false) w λt33 _=>
 Cl prog 39 #[t33,(Iw 81)] w λt34 w=>
 (ld1 t36 w (λv' w''=>v'=t37∧w''=w))∧(gd t39 true (λk=>fld 6 t2 w k) w λt41 _=>
 gd t39 true (λk=>ld1 t41 w k) w λt42 _=>
 gd t39 true (λk=>k (Value.func (Fn.func 70) #[] #[t2]) w) w λt43 _=>
 gd t39 true (λk=>Cl prog 73 #[t42,t43] w k) w λt44 w=>
 gd t39 true (λk=>Zb3 t44 w k) w λt45 _=>
 pk t39 t45 (Value.bool false) w λt46 _=>
 Cl prog 39 #[t46,(Iw 82)] w λt47 w=>
 bsl 113 1 7 (Zl prog 113) [(0,t14),(1,t18),(2,t22),(3,(Value.func (Fn.func 71) #[] #[t2])),(4,t34),(5,(Value.func (Fn.func 68) #[] #[t2,t3])),(6,t47)] w λt48 w=>
 Cl prog 36 #[t48] w λt49 w=>
 K t49 w)))))))))))))))))))))
theorem Zk6 (h:ZnF t0 t1 w K):Cl prog 41 #[t0,t1] w K:=
 ZML 50 [4] Tryz.func41 h
def ZpA (t0 t1:Value) (w:World) (K:KV):Prop:=
 bi .lss .i64 t0 (Iw 1) w λt9 w=>
 gd t9 false (λk=>k t0 w) w λt11 w=>
 gd t9 false (λk=>bi .gtr .i64 t11 (Iw 8) w k) w λt12 w=>
 pk t9 (Value.bool true) t12 w λt13 w=>
 gd t13 false (λk=>k t1 w) w λt15 w=>
 gd t13 false (λk=>bi .lss .i64 t15 (Iw 0) w k) w λt16 w=>
 pk t13 (Value.bool true) t16 w λt17 w=>
 gd t17 false (λk=>k t1 w) w λt19 w=>
 gd t17 false (λk=>k t0 w) w λt20 w=>
 gd t17 false (λk=>bi .geq .i64 t19 t20 w k) w λt21 w=>
 pk t17 (Value.bool true) t21 w λt22 w=>
 Zr t22
 (K (Value.tuple #[(Value.pointer none),(Iw 1)]) w)
 (ZlQ w λt23 w=>
 bld (Zl prog 172) #[(0,1),(1,1)] [(0,t23)] w λt24 w=>
 al (Value.cells t24) 172 w λt25 w=>
 lp [(Iw 0)] w (b1 λt27 w g1=>
 bi .lss .i64 t27 t0 w λt28 w=>
 Zr t28
 (J0 (λw=>
 bi .add .i64 t27 (Iw 1) w λt38 w=>
 g1 [t38] w) λk2=>
 bi .neq .i64 t27 t1 w λt32 w=>
 Zr t32
 (ncP t25<|
 fld 0 t25 w λt35 w=>
 ld1 t35 w λt36 w=>
 upM prog 137 t36 t27 (Iw 0) w λ_ w=>
 k2 w)
 (k2 w))
 (K (Value.tuple #[t25,(Iw 0)]) w)))
theorem Zlo (h:ZpA t0 t1 w K):Cl prog 42 #[t0,t1] w K:=
 ZML 40 [4,5] Tryz.func42 h
def Zso (t0:Value) (w:World) (K:KV):Prop:=
 mnI .i64 t0 (Iw 64) w λt4 w=>
 mxI .i64 (Iw 0) t4 w λt5 w=>
 ZlQ w λt6 w=>
 bld (Zl prog 175) #[(0,1),(1,1),(2,1)] [(0,t5),(2,t6)] w λt7 w=>
 al (Value.cells t7) 175 w λt8 w=>
 K t8 w
theorem Zm2 (h:Zso t0 w K):Cl prog 43 #[t0] w K:=
 ZML 9 [2] Tryz.func43 h
def ZnQ (t0:Value) (w:World) (K:KV):Prop:=
 al (Value.cells t0) 27 w λt1 w=>
 al (Zl prog 27) 27 w λt2 w=>
 fld 0 t1 w λt6 w=>
 ld1 t6 w λt7 w=>
 Cl prog 59 #[t7] w λt8 w=>
 fld 0 t1 w λt9 w=>
 stN 1 t9 t8 w λ_ w=>
 fld 1 t1 w λt10 w=>
 ld1 t10 w λt11 w=>
 Cl prog 60 #[t11] w λt12 w=>
 fld 1 t1 w λt13 w=>
 stN 1 t13 t12 w λ_ w=>
 fld 1 t1 w λt14 w=>
 ld1 t14 w λt15 w=>
 lnS t15 w λt16 w=>
 lp [(Iw 0)] w (b1 λt17 w g1=>
 bi .lss .i64 t17 t16 w λt18 w=>
 Zr t18
 (fld 1 t1 w λt20 w=>
 ld1 t20 w λt21 w=>
 ixS 7 t21 t17 w λt23 w=>
 dr w λw=>
 ncP t23<|
 fld 4 t23 w λt30 _=>
 ld1 t30 w λt31 _=>
 ncP t23<|
 fld 5 t23 w λt35 _=>
 ld1 t35 w λt36 _=>
 ncP t23<|
 fld 6 t23 w λt40 _=>
 ld1 t40 w λt41 _=>
 ncP t23<|
 fld 3 t23 w λt45 _=>
 ld1 t45 w λt46 _=>
 Cl prog 59 #[t31] w λt32 w=>
 (ld1 t45 w (λv' w''=>v'=t46∧w''=w))∧((ld1 t40 w (λv' w''=>v'=t41∧w''=w))∧((ld1 t35 w (λv' w''=>v'=t36∧w''=w))∧(Cl prog 59 #[t36] w λt37 w=>
 (ld1 t45 w (λv' w''=>v'=t46∧w''=w))∧((ld1 t40 w (λv' w''=>v'=t41∧w''=w))∧(Cl prog 61 #[t41] w λt42 w=>
 (ld1 t45 w (λv' w''=>v'=t46∧w''=w))∧(Cl prog 62 #[t46] w λt47 w=>
 ncP t23<|
 fld 4 t23 w λt49 _=>
 stN 1 t49 t32 w λ_ w=>
 ncP t23<|
 fld 5 t23 w λt51 _=>
 stN 1 t51 t37 w λ_ w=>
 ncP t23<|
 fld 6 t23 w λt53 _=>
 stN 1 t53 t42 w λ_ w=>
 ncP t23<|
 fld 3 t23 w λt55 _=>
 stN 1 t55 t47 w λ_ w=>
 ncP t23<|
 fld 3 t23 w λt58 w=>
 ld1 t58 w λt59 w=>
 lnS t59 w λt60 w=>
 lp [(Iw 0)] w (b1 λt61 w g2=>
 bi .lss .i64 t61 t60 w λt62 w=>
 Zr t62
 (dr w λw=>
 ncP t23<|
 fld 3 t23 w λt66 _=>
 ld1 t66 w λt67 _=>
 ncP t23<|
 fld 3 t23 w λt71 _=>
 ld1 t71 w λt72 _=>
 ixS 4 t72 t61 w λt74 _=>
 fld 3 t74 w λt75 _=>
 ld1 t75 w λt76 _=>
 Cl prog 61 #[t76] w λt77 w=>
 (ld1 t66 w (λv' w''=>v'=t67∧w''=w))∧(ixS 4 t67 t61 w λt78 _=>
 fld 3 t78 w λt79 _=>
 stN 1 t79 t77 w λ_ w=>
 bi .add .i64 t61 (Iw 1) w λt80 w=>
 g2 [t80] w))
 (bi .add .i64 t17 (Iw 1) w λt81 w=>
 g1 [t81] w)))))))))
 (ldN 3 t1 w λt82 w=>
 stN 3 t2 t82 w λ_ w=>
 ldN 3 t2 w λr0 _=>
 K r0 w))
theorem ZkZ (h:ZnQ t0 w K):Cl prog 44 #[t0] w K:=
 ZMM 83 [(2,some 27)] Tryz.func44 h
def ZlG (t0:Value) (w:World) (K:KV):Prop:=
 al (Value.cells t0) 27 w λt1 w=>
 al (Zl prog 27) 27 w λt2 w=>
 fld 0 t1 w λt6 w=>
 ld1 t6 w λt7 w=>
 Cl prog 59 #[t7] w λt8 w=>
 fld 0 t1 w λt9 w=>
 stN 1 t9 t8 w λ_ w=>
 fld 1 t1 w λt10 w=>
 ld1 t10 w λt11 w=>
 Cl prog 60 #[t11] w λt12 w=>
 fld 1 t1 w λt13 w=>
 stN 1 t13 t12 w λ_ w=>
 fld 1 t1 w λt14 w=>
 ld1 t14 w λt15 w=>
 lnS t15 w λt16 w=>
 lp [(Iw 0)] w (b1 λt17 w g1=>
 bi .lss .i64 t17 t16 w λt18 w=>
 Zr t18
 (fld 1 t1 w λt20 w=>
 ld1 t20 w λt21 w=>
 ixS 7 t21 t17 w λt23 w=>
 dr w λw=>
 ncP t23<|
 fld 4 t23 w λt30 _=>
 ld1 t30 w λt31 _=>
 ncP t23<|
 fld 5 t23 w λt35 _=>
 ld1 t35 w λt36 _=>
 ncP t23<|
 fld 6 t23 w λt40 _=>
 ld1 t40 w λt41 _=>
 ncP t23<|
 fld 3 t23 w λt45 _=>
 ld1 t45 w λt46 _=>
 Cl prog 59 #[t31] w λt32 w=>
 (ld1 t45 w (λv' w''=>v'=t46∧w''=w))∧((ld1 t40 w (λv' w''=>v'=t41∧w''=w))∧((ld1 t35 w (λv' w''=>v'=t36∧w''=w))∧(Cl prog 59 #[t36] w λt37 w=>
 (ld1 t45 w (λv' w''=>v'=t46∧w''=w))∧((ld1 t40 w (λv' w''=>v'=t41∧w''=w))∧(Cl prog 61 #[t41] w λt42 w=>
 (ld1 t45 w (λv' w''=>v'=t46∧w''=w))∧(Cl prog 62 #[t46] w λt47 w=>
 ncP t23<|
 fld 4 t23 w λt49 _=>
 stN 1 t49 t32 w λ_ w=>
 ncP t23<|
 fld 5 t23 w λt51 _=>
 stN 1 t51 t37 w λ_ w=>
 ncP t23<|
 fld 6 t23 w λt53 _=>
 stN 1 t53 t42 w λ_ w=>
 ncP t23<|
 fld 3 t23 w λt55 _=>
 stN 1 t55 t47 w λ_ w=>
 ncP t23<|
 fld 3 t23 w λt58 w=>
 ld1 t58 w λt59 w=>
 lnS t59 w λt60 w=>
 lp [(Iw 0)] w (b1 λt61 w g2=>
 bi .lss .i64 t61 t60 w λt62 w=>
 Zr t62
 (dr w λw=>
 ncP t23<|
 fld 3 t23 w λt66 _=>
 ld1 t66 w λt67 _=>
 ncP t23<|
 fld 3 t23 w λt71 _=>
 ld1 t71 w λt72 _=>
 ixS 4 t72 t61 w λt74 _=>
 fld 3 t74 w λt75 _=>
 ld1 t75 w λt76 _=>
 Cl prog 61 #[t76] w λt77 w=>
 (ld1 t66 w (λv' w''=>v'=t67∧w''=w))∧(ixS 4 t67 t61 w λt78 _=>
 fld 3 t78 w λt79 _=>
 stN 1 t79 t77 w λ_ w=>
 bi .add .i64 t61 (Iw 1) w λt80 w=>
 g2 [t80] w))
 (bi .add .i64 t17 (Iw 1) w λt81 w=>
 g1 [t81] w)))))))))
 (ldN 3 t1 w λt82 w=>
 stN 3 t2 t82 w λ_ w=>
 ldN 3 t2 w λr0 _=>
 K r0 w))
theorem Zj5 (h:ZlG t0 w K):Cl prog 45 #[t0] w K:=
 ZMM 83 [(2,some 27)] Tryz.func45 h
def ZrX (w:World) (K:KV):Prop:=
 bld (Zl prog 178) #[(0,1),(1,1)] [] w λt1 w=>
 al (Value.cells t1) 178 w λt2 w=>
 K t2 w
theorem ZmL (h:ZrX w K):Cl prog 46 #[] w K:=
 ZML 3 [0] Tryz.func46 h
def Zsc (w:World) (K:KV):Prop:=
 bld (Zl prog 181) #[(0,1),(1,1)] [] w λt1 w=>
 al (Value.cells t1) 181 w λt2 w=>
 K t2 w
theorem ZmT (h:Zsc w K):Cl prog 47 #[] w K:=
 ZML 3 [0] Tryz.func47 h
def ZiW (t0 t1 t2 t3 t4 t5:Value) (w:World) (K:KV):Prop:=
 al (Value.cells t0) 27 w λt6 w=>
 lnS t5 w λt20 w=>
 lp [(Value.slice none 0 0),(Iw 0)] w (b2 λt13 t21 w g1=>
 bi .lss .i64 t21 t20 w λt22 w=>
 Zr t22
 (ixS 3 t5 t21 w λt24 w=>
 ldN 3 t24 w λt25 w=>
 al (Zl prog 55) 55 w λt15 w=>
 stN 3 t15 t25 w λ_ w=>
 bi .add .i64 t2 t21 w λt29 w=>
 ldN 3 t15 w λt32 w=>
 Cl prog 74 #[t1,t29,t3,t4,t32] w λt33 w=>
 al (Zl prog 40) 40 w λt16 w=>
 stN 6 t16 t33 w λ_ w=>
 ldN 3 t6 w λt34 w=>
 fld 4 t16 w λt36 w=>
 ld1 t36 w λt37 w=>
 Cl prog 75 #[t34,t1,t37] w λt38 w=>
 lnS t38 w λt39 w=>
 lp [t13,(Iw 0)] w (b2 λt13_1 t40 w g2=>
 bi .lss .i64 t40 t39 w λt41 w=>
 Zr t41
 (ixS 1 t38 t40 w λt42 w=>
 ld1 t42 w λt43 w=>
 fld 3 t16 w λt45 w=>
 stN 1 t45 t43 w λ_ w=>
 ldN 6 t16 w λt47 w=>
 bsl 40 6 1 (Zl prog 40) [(0,t47)] w λt48 w=>
 apS prog #[81,81] 81 t13_1 t48 w λt49 w=>
 bi .add .i64 t40 (Iw 1) w λt50 w=>
 g2 [t49,t50] w)
 (bi .add .i64 t21 (Iw 1) w λt51 w=>
 g1 [t13_1,t51] w)))
 (K t13 w))
theorem Zht (h:ZiW t0 t1 t2 t3 t4 t5 w K):Cl prog 48 #[t0,t1,t2,t3,t4,t5] w K:=
 ZML 53 [12] Tryz.func48 h
def Zfw (t0 t1:Value) (w:World) (K:KV):Prop:=
 ncP t0<|
 fld 2 t0 w λt9 w=>
 ld1 t9 w λt10 w=>
 ixS 1 t10 t1 w λt12 w=>
 ld1 t12 w λt13 w=>
 lnS t13 w λt14 w=>
 bi .gtr .i64 t14 (Iw 0) w λt15 w=>
 Zr t15
 (K (Iw 2) w)
 (ncP t0<|
 fld 1 t0 w λt19 w=>
 ld1 t19 w λt20 w=>
 ixS 1 t20 t1 w λt22 w=>
 ld1 t22 w λt23 w=>
 clI prog t23 "paceline/fed.step" #[] w λt24 w=>
 xt 0 t24 w λt25 w=>
 xt 1 t24 w λt26 w=>
 Cl prog 23 #[t0,t1,t25] w λ_ w=>
 K t26 w)
theorem ZfK (h:Zfw t0 t1 w K):Cl prog 49 #[t0,t1] w K:=
 ZML 32 [4] Tryz.func49 h
def ZeM (t0 t1:Value) (w:World) (K:KV):Prop:=
 ncP t0<|
 fld 2 t0 w λt11 w=>
 ld1 t11 w λt12 w=>
 ixS 1 t12 t1 w λt14 w=>
 ld1 t14 w λt15 w=>
 lnS t15 w λt16 w=>
 bi .eql .i64 t16 (Iw 0) w λt17 w=>
 Zr t17
 (K (Iw 150) w)
 (ncP t0<|
 fld 2 t0 w λt20 w=>
 ld1 t20 w λt21 w=>
 ixS 1 t21 t1 w λt23 w=>
 ld1 t23 w λt24 w=>
 ixS 8 t24 (Iw 0) w λt25 w=>
 ldN 8 t25 w λt26 w=>
 al (Zl prog 85) 85 w λt5 w=>
 stN 8 t5 t26 w λ_ w=>
 dr w λw=>
 ncP t0<|
 fld 3 t0 w λt29 _=>
 ld1 t29 w λt30 _=>
 fld 1 t5 w λt32 _=>
 fld 3 t32 w λt33 _=>
 ld1 t33 w λt34 _=>
 Cl prog 76 #[t30,t1,t34] w λt35 w=>
 bi .eql .i64 t35 (Iw 0) w λt36 _=>
 Zr t36
 (K (Iw 2) w)
 (fld 1 t5 w λt40 w=>
 fld 3 t40 w λt41 w=>
 ld1 t41 w λt42 w=>
 ldN 8 t5 w λt43 w=>
 Cl prog 77 #[t0,t1,t42,t43] w λt44 w=>
 xt 0 t44 w λt45 w=>
 xt 1 t44 w λ_ w=>
 xt 2 t44 w λt47 w=>
 J0 (λw=>
 dr w λw=>
 ncP t0<|
 fld 2 t0 w λt68 _=>
 ld1 t68 w λt69 _=>
 ncP t0<|
 fld 2 t0 w λt73 _=>
 ld1 t73 w λt74 _=>
 ixS 1 t74 t1 w λt76 _=>
 ld1 t76 w λt77 _=>
 slc 8 t77 (some (Iw 1)) none w λt78 _=>
 Cl prog 79 #[t78] w λt79 w=>
 (ld1 t68 w (λv' w''=>v'=t69∧w''=w))∧(ixS 1 t69 t1 w λt80 _=>
 stN 1 t80 t79 w λ_ w=>
 dr w λw=>
 ncP t0<|
 fld 3 t0 w λt83 _=>
 ld1 t83 w λt84 _=>
 fld 1 t5 w λt86 _=>
 fld 3 t86 w λt87 _=>
 ld1 t87 w λt88 _=>
 ldN 8 t5 w λt89 _=>
 Cl prog 80 #[t84,t1,t88,t89] w λt90 w=>
 K t90 w)) λk1=>
 Zr t47
 (dr w λw=>
 ncP t0<|
 fld 4 t0 w λt52 _=>
 ld1 t52 w λt53 _=>
 ncP t45<|
 fld 1 t45 w λt56 _=>
 ld1 t56 w λt57 _=>
 fld 1 t5 w λt58 _=>
 fld 0 t58 w λt59 _=>
 fld 0 t59 w λt60 _=>
 ld1 t60 w λt61 _=>
 Cl prog 78 #[t53,t57,t61] w λt62 w=>
 xt 0 t62 w λt63 _=>
 xt 1 t62 w λ_ _=>
 fld 7 t5 w λt65 _=>
 stN 1 t65 t63 w λ_ w=>
 k1 w)
 (k1 w)))
theorem Ze0 (h:ZeM t0 t1 w K):Cl prog 50 #[t0,t1] w K:=
 ZML 91 [4] Tryz.func50 h
def Zdf (t0 t1 t2:Value) (w:World) (K:KV):Prop:=
 ncP t0<|
 fld 3 t0 w λt17 w=>
 ld1 t17 w λt18 w=>
 Cl prog 81 #[t18,t1,t2] w λt21 w=>
 xt 0 t21 w λt22 w=>
 xt 1 t21 w λt23 w=>
 al (Zl prog 85) 85 w λt7 w=>
 stN 8 t7 t22 w λ_ w=>
 Zb3 t23 w λt25 w=>
 Zr t25
 (K (Iw 150) w)
 (dr w λw=>
 ncP t0<|
 fld 1 t0 w λt29 _=>
 ld1 t29 w λt30 _=>
 ixS 1 t30 t2 w λt32 _=>
 ld1 t32 w λt33 _=>
 ldN 8 t7 w λt35 _=>
 clI prog t33 "paceline/fed.hear" #[t1,t35] w λt36 w=>
 xt 0 t36 w λt37 _=>
 xt 1 t36 w λt38 _=>
 bi .neq .i64 t38 (Iw 0) w λt40 w=>
 Zr t40
 (K t38 w)
 (ncP t0<|
 fld 3 t0 w λt44 w=>
 ld1 t44 w λt45 w=>
 Cl prog 82 #[t45,t1,t2] w λ_ w=>
 ldN 8 t7 w λt53 w=>
 Cl prog 77 #[t0,t1,t2,t53] w λt54 w=>
 xt 0 t54 w λ_ w=>
 xt 1 t54 w λt56 w=>
 xt 2 t54 w λt57 w=>
 J0 (λw=>
 Cl prog 23 #[t0,t2,t37] w λ_ w=>
 K (Iw 0) w) λk1=>
 Zr t57
 (dr w λw=>
 ncP t0<|
 fld 4 t0 w λt61 _=>
 ld1 t61 w λt62 _=>
 ncP t56<|
 fld 1 t56 w λt65 _=>
 ld1 t65 w λt66 _=>
 fld 7 t7 w λt67 _=>
 ld1 t67 w λt68 _=>
 Cl prog 83 #[t62,t66,t68] w λ_ w=>
 k1 w)
 (k1 w)))
theorem ZdS (h:Zdf t0 t1 t2 w K):Cl prog 51 #[t0,t1,t2] w K:=
 ZML 74 [6] Tryz.func51 h
def ZfA (t0 t1:Value) (w:World) (K:KV):Prop:=
 ncP t0<|
 fld 2 t0 w λt10 w=>
 ld1 t10 w λt11 w=>
 ixS 1 t11 t1 w λt13 w=>
 ld1 t13 w λt14 w=>
 lnS t14 w λt15 w=>
 bi .gtr .i64 t15 (Iw 0) w λt16 w=>
 Zr t16
 (K (Iw 2) w)
 (ncP t0<|
 fld 1 t0 w λt20 w=>
 ld1 t20 w λt21 w=>
 ixS 1 t21 t1 w λt23 w=>
 ld1 t23 w λt24 w=>
 clI prog t24 "paceline/fed.tell" #[] w λt25 w=>
 xt 0 t25 w λt26 w=>
 xt 1 t25 w λt27 w=>
 Zb3 t27 w λt29 w=>
 Zr t29
 (K (Iw 150) w)
 (ncP t0<|
 fld 1 t0 w λt32 w=>
 ld1 t32 w λt33 w=>
 lnS t33 w λt34 w=>
 lp [(Iw 0)] w (b1 λt35 w g1=>
 bi .lss .i64 t35 t34 w λt36 w=>
 Zr t36
 (J0 (λw=>
 bi .add .i64 t35 (Iw 1) w λt62 w=>
 g1 [t62] w) λk2=>
 bi .neq .i64 t35 t1 w λt40 w=>
 gd t40 true (λk=>k t0 w) w λt42 w=>
 gd t40 true (λk=>k t1 w) w λt43 w=>
 gd t40 true (λk=>Cl prog 28 #[t42,t43] w k) w λt44 w=>
 gd t40 true (λk=>bn .eql t44 w k) w λt45 w=>
 gd t40 true (λk=>k t45 w) w λt46 w=>
 gd t46 false (λk=>k t0 w) w λt47 w=>
 gd t46 false (λk=>k t35 w) w λt48 w=>
 gd t46 false (λk=>Cl prog 28 #[t47,t48] w k) w λt49 w=>
 gd t46 false (λk=>bn .eql t49 w k) w λt50 w=>
 gd t40 true (λk=>pk t46 (Value.bool true) t50 w k) w λt51 w=>
 pk t40 t51 (Value.bool false) w λt52 w=>
 Zr t52
 (bld (Zl prog 38) #[(0,1),(1,1),(2,1)] [(0,t26)] w λt56 w=>
 bld (Zl prog 40) #[(0,3),(3,1),(4,1),(5,1)] [(0,t56),(1,t35)] w λt58 w=>
 bld (Zl prog 85) #[(0,1),(1,6),(7,1)] [(0,(Iw 2)),(1,t58)] w λt59 w=>
 bsl 85 8 1 (Zl prog 85) [(0,t59)] w λt60 w=>
 Cl prog 23 #[t0,t1,t60] w λ_ w=>
 k2 w)
 (k2 w))
 (K (Iw 0) w))))
theorem Ze9 (h:ZfA t0 t1 w K):Cl prog 52 #[t0,t1] w K:=
 ZML 63 [4] Tryz.func52 h
def Ziu (t0:Value) (w:World) (K:KV):Prop:=
 Cl prog 84 #[t0] w λt4 w=>
 Zr t4
 (K (Iw 130) w)
 (ncP t0<|
 fld 1 t0 w λt7 w=>
 ld1 t7 w λt8 w=>
 bi .add .i64 t8 (Iw 1) w λt9 w=>
 ncP t0<|
 fld 1 t0 w λt11 w=>
 stN 1 t11 t9 w λ_ w=>
 ncP t0<|
 fld 21 t0 w λt14 w=>
 stN 1 t14 (Iw 1125899906842624) w λ_ w=>
 K (Iw 0) w)
theorem Zh4 (h:Ziu t0 w K):Cl prog 53 #[t0] w K:=
 ZML 15 [2] Tryz.func53 h
def ZkB (t0 t1:Value) (w:World) (K:KV):Prop:=
 Cl prog 85 #[t0,t1] w λt8 w=>
 Zb3 t8 w λt9 w=>
 Zr t9
 (K (Iw 1) w)
 (dr w λw=>
 Cl prog 84 #[t0] w λt12 w=>
 Zb3 t12 w λt13 _=>
 gd t13 false (λk=>k t0 w) w λt15 _=>
 gd t13 false (λk=>k t1 w) w λt16 _=>
 gd t13 false (λk=>nc t15 w k) w λt17 _=>
 gd t13 false (λk=>fld 3 t17 w k) w λt18 _=>
 gd t13 false (λk=>ixA 8 2 t18 t16 w k) w λt19 _=>
 gd t13 false (λk=>ldN 2 t19 w k) w λt20 _=>
 gd t13 false (λk=>k t0 w) w λt21 _=>
 gd t13 false (λk=>nc t21 w k) w λt22 _=>
 gd t13 false (λk=>fld 1 t22 w k) w λt23 _=>
 gd t13 false (λk=>ld1 t23 w k) w λt24 _=>
 gd t13 false (λk=>Cl prog 86 #[t20,t24] w k) w λt25 w=>
 pk t13 (Value.bool true) t25 w λt26 _=>
 Zr t26
 (K (Iw 130) w)
 (dr w λw=>
 ncP t0<|
 fld 1 t0 w λt31 _=>
 ld1 t31 w λt32 _=>
 ncP t0<|
 fld 3 t0 w λt34 _=>
 ixA 8 2 t34 t1 w λt35 _=>
 fld 0 t35 w λt36 _=>
 stN 1 t36 t32 w λ_ w=>
 K (Iw 0) w))
theorem Zjr (h:ZkB t0 t1 w K):Cl prog 54 #[t0,t1] w K:=
 ZML 37 [4] Tryz.func54 h
def Zd5 (t0 t1 t2:Value) (w:World) (K:KV):Prop:=
 ncP t2<|
 fld 0 t2 w λt22 w=>
 ld1 t22 w λt23 w=>
 Cl prog 87 #[t23] w λt24 w=>
 bsl 3 1 1 (Zl prog 3) [(0,t24)] w λt25 w=>
 ncP t0<|
 fld 2 t0 w λt28 w=>
 ld1 t28 w λt29 w=>
 ixS 1 t29 t1 w λt31 w=>
 ld1 t31 w λt32 w=>
 lnS t32 w λt33 w=>
 lp [t25,(Iw 0)] w (b2 λt7 t34 w g1=>
 bi .lss .i64 t34 t33 w λt35 w=>
 Zr t35
 (J1 (λt7_1 w=>
 bi .add .i64 t34 (Iw 1) w λt57 w=>
 g1 [t7_1,t57] w) λk2=>
 ixS 8 t32 t34 w λt36 w=>
 ldN 8 t36 w λt37 w=>
 al (Zl prog 85) 85 w λt9 w=>
 stN 8 t9 t37 w λ_ w=>
 fld 1 t9 w λt41 w=>
 fld 3 t41 w λt42 w=>
 ld1 t42 w λt43 w=>
 ldN 8 t9 w λt44 w=>
 Cl prog 77 #[t0,t1,t43,t44] w λt45 w=>
 xt 0 t45 w λ_ w=>
 xt 1 t45 w λ_ w=>
 xt 2 t45 w λt48 w=>
 Zr t48
 (fld 1 t9 w λt51 w=>
 fld 0 t51 w λt52 w=>
 fld 0 t52 w λt53 w=>
 ld1 t53 w λt54 w=>
 bsl 3 1 1 (Zl prog 3) [(0,t54)] w λt55 w=>
 apS prog #[24,24] 24 t7 t55 w λt56 w=>
 k2 t56 w)
 (k2 t7 w))
 (ncP t0<|
 fld 4 t0 w λt60 w=>
 ld1 t60 w λt61 w=>
 Cl prog 88 #[t61] w λt62 w=>
 dr w λw=>
 ncP t0<|
 fld 4 t0 w λt65 _=>
 ld1 t65 w λt66 _=>
 ncP t2<|
 fld 1 t2 w λt69 _=>
 ld1 t69 w λt70 _=>
 Cl prog 90 #[t7] w λt72 w=>
 (ld1 t69 w (λv' w''=>v'=t70∧w''=w))∧((ld1 t65 w (λv' w''=>v'=t66∧w''=w))∧(Cl prog 89 #[t66,t70,t72] w λt73 w=>
 bi .neq .i64 t73 (Iw 0) w λt75 w=>
 gd t75 false (λk=>k t0 w) w λt77 w=>
 gd t75 false (λk=>nc t77 w k) w λt78 w=>
 gd t75 false (λk=>fld 4 t78 w k) w λt79 w=>
 gd t75 false (λk=>ld1 t79 w k) w λt80 w=>
 gd t75 false (λk=>Cl prog 88 #[t80] w k) w λt81 w=>
 gd t75 false (λk=>k t62 w) w λt82 w=>
 gd t75 false (λk=>bi .eql .i64 t81 t82 w k) w λt83 w=>
 pk t75 (Value.bool true) t83 w λt84 w=>
 Zr t84
 (K t73 w)
 (ncP t0<|
 fld 1 t0 w λt88 w=>
 ld1 t88 w λt89 w=>
 lnS t89 w λt90 w=>
 lp [(Iw 0)] w (b1 λt91 w g3=>
 bi .lss .i64 t91 t90 w λt92 w=>
 Zr t92
 (J0 (λw=>
 bi .add .i64 t91 (Iw 1) w λt118 w=>
 g3 [t118] w) λk4=>
 Cl prog 28 #[t0,t91] w λt96 w=>
 bn .neq t96 w λt98 w=>
 Zr t98
 (dr w λw=>
 ncP t96<|
 fld 0 t96 w λt102 _=>
 ld1 t102 w λt103 _=>
 ncP t0<|
 fld 4 t0 w λt106 _=>
 ld1 t106 w λt107 _=>
 Cl prog 92 #[t107] w λt108 w=>
 (ld1 t102 w (λv' w''=>v'=t103∧w''=w))∧(Cl prog 91 #[t103,t108] w λt109 w=>
 xt 0 t109 w λ_ _=>
 xt 1 t109 w λt111 _=>
 xt 2 t109 w λ_ _=>
 Cl prog 93 #[t111] w λt116 w=>
 Cl prog 23 #[t0,t91,t116] w λ_ w=>
 k4 w))
 (k4 w))
 (K (Iw 0) w)))))))
theorem Zei (h:Zd5 t0 t1 t2 w K):Cl prog 55 #[t0,t1,t2] w K:=
 ZML 119 [6] Tryz.func55 h
def Zg8 (t0:Value) (w:World) (K:KV):Prop:=
 al (Value.cells t0) 60 w λt1 w=>
 K (Value.func (Fn.func 94) #[] #[t1]) w
theorem ZgQ (h:Zg8 t0 w K):Cl prog 56 #[t0] w K:=
 ZML 4 [2] Tryz.func56 h
def ZaH (t0 t1:Value) (w:World) (K:KV):Prop:=
 lnS t0 w λt7 w=>
 lp [(Iw 0)] w (b1 λt8 w g1=>
 bi .lss .i64 t8 t7 w λt9 w=>
 Zr t9
 (ixS 8 t0 t8 w λt14 w=>
 ldN 8 t14 w λt15 w=>
 clV prog t1 #[t15] w λt16 w=>
 Zr t16
 (K t8 w)
 (bi .add .i64 t8 (Iw 1) w λt18 w=>
 g1 [t18] w))
 (K (Iw (-1)) w))
theorem Zbn (h:ZaH t0 t1 w K):Cl prog 57 #[t0,t1] w K:=
 ZML 19 [4] Tryz.func57 h
def ZiH (t0:Value) (w:World) (K:KV):Prop:=
 ncP t0<|
 fld 1 t0 w λt5 w=>
 ld1 t5 w λt6 w=>
 lnS t6 w λt7 w=>
 K t7 w
theorem Zib (h:ZiH t0 w K):Cl prog 58 #[t0] w K:=
 ZML 8 [2] Tryz.func58 h
def ZcL (t0:Value) (w:World) (K:KV):Prop:=
 bO prog .eql 24 (Operand.tmp 3) (Operand.const (Value.slice none 0 0)) t0 (Value.slice none 0 0) w λt4 w=>
 Zr t4
 (K (Value.slice none 0 0) w)
 (bsl 3 1 0 #[] [] w λt5 w=>
 apS prog #[24,24] 24 t5 t0 w λt7 w=>
 K t7 w)
theorem Zdc (h:ZcL t0 w K):Cl prog 59 #[t0] w K:=
 ZML 8 [2] Tryz.func59 h
def Zbk (t0:Value) (w:World) (K:KV):Prop:=
 bO prog .eql 25 (Operand.tmp 3) (Operand.const (Value.slice none 0 0)) t0 (Value.slice none 0 0) w λt4 w=>
 Zr t4
 (K (Value.slice none 0 0) w)
 (bsl 53 7 0 #[] [] w λt5 w=>
 apS prog #[25,25] 25 t5 t0 w λt7 w=>
 K t7 w)
theorem Zb1 (h:Zbk t0 w K):Cl prog 60 #[t0] w K:=
 ZML 8 [2] Tryz.func60 h
def Zbm (t0:Value) (w:World) (K:KV):Prop:=
 bO prog .eql 51 (Operand.tmp 3) (Operand.const (Value.slice none 0 0)) t0 (Value.slice none 0 0) w λt4 w=>
 Zr t4
 (K (Value.slice none 0 0) w)
 (bsl 55 3 0 #[] [] w λt5 w=>
 apS prog #[51,51] 51 t5 t0 w λt7 w=>
 K t7 w)
theorem ZbZ (h:Zbm t0 w K):Cl prog 61 #[t0] w K:=
 ZML 8 [2] Tryz.func61 h
def Za3 (t0:Value) (w:World) (K:KV):Prop:=
 bO prog .eql 50 (Operand.tmp 3) (Operand.const (Value.slice none 0 0)) t0 (Value.slice none 0 0) w λt4 w=>
 Zr t4
 (K (Value.slice none 0 0) w)
 (bsl 57 4 0 #[] [] w λt5 w=>
 apS prog #[50,50] 50 t5 t0 w λt7 w=>
 K t7 w)
theorem ZbH (h:Za3 t0 w K):Cl prog 62 #[t0] w K:=
 ZML 8 [2] Tryz.func62 h
def ZpP (t0 t1:Value) (w:World) (K:KV):Prop:=
 clI prog t0 "Push" #[t1] w λ_ w=>
 clI prog t0 "Len" #[] w λt9 w=>
 bi .sub .i64 t9 (Iw 1) w λt10 w=>
 Cl prog 95 #[t0,t10] w λ_ w=>
 K (Value.tuple #[]) w
theorem Zme (h:ZpP t0 t1 w K):Cl prog 63 #[t0,t1] w K:=
 ZML 12 [] Tryz.func63 h
def Zr2 (t0:Value) (w:World) (K:KV):Prop:=
 clI prog t0 "Len" #[] w λt5 w=>
 bi .sub .i64 t5 (Iw 1) w λt6 w=>
 clI prog t0 "Swap" #[(Iw 0),t6] w λ_ w=>
 Cl prog 96 #[t0,(Iw 0),t6] w λ_ w=>
 clI prog t0 "Pop" #[] w λt14 w=>
 K t14 w
theorem ZmV (h:Zr2 t0 w K):Cl prog 64 #[t0] w K:=
 ZML 15 [2] Tryz.func64 h
def Znm (t0 t1 t2:Value) (w:World) (K:KV):Prop:=
 Cl prog 97 #[t0,t1,t2] w λt12 w=>
 bi .lss .i64 t12 (Iw 0) w λt14 w=>
 Zr t14
 (K (Value.tuple #[t1,(Value.slice none 0 0)]) w)
 (dr w λw=>
 ixS 4 t0 t12 w λt18 _=>
 fld 2 t18 w λt19 _=>
 ld1 t19 w λt20 _=>
 ixS 4 t0 t12 w λt23 _=>
 fld 3 t23 w λt24 _=>
 ld1 t24 w λt25 _=>
 Cl prog 61 #[t25] w λt26 w=>
 (ld1 t19 w (λv' w''=>v'=t20∧w''=w))∧(K (Value.tuple #[t20,t26]) w))
theorem Zk2 (h:Znm t0 t1 t2 w K):Cl prog 65 #[t0,t1,t2] w K:=
 ZML 27 [6,7] Tryz.func65 h
def Zfn (t0 t1:Value) (w:World) (K:KV):Prop:=
 ld1 t0 w λt3 w=>
 Zr t3
 (K (Iw 0) w)
 (ld1 t1 w λt4 w=>
 K t4 w)
theorem ZfU (h:Zfn t0 t1 w K):Cl prog 66 #[t0,t1] w K:=
 ZML 5 [2] Tryz.func66 h
def ZkW (t0 t1:Value) (w:World) (K:KV):Prop:=
 lnS t0 w λt8 w=>
 lp [(Iw (-1)),(Iw 0)] w (b2 λt4 t9 w g1=>
 bi .lss .i64 t9 t8 w λt10 w=>
 Zr t10
 (ixS 1 t0 t9 w λt11 w=>
 ld1 t11 w λt12 w=>
 bi .leq .i64 t12 t4 w λt15 w=>
 gd t15 false (λk=>k t12 w) w λt17 w=>
 gd t15 false (λk=>ld1 t1 w k) w λt18 w=>
 gd t15 false (λk=>bi .geq .i64 t17 t18 w k) w λt19 w=>
 pk t15 (Value.bool true) t19 w λt20 w=>
 Zr t20
 (K (Value.bool false) w)
 (bi .add .i64 t9 (Iw 1) w λt22 w=>
 g1 [t12,t22] w))
 (K (Value.bool true) w))
theorem Zjf (h:ZkW t0 t1 w K):Cl prog 67 #[t0,t1] w K:=
 ZML 23 [3] Tryz.func67 h
def Zku (t0 t1:Value) (w:World) (K:KV):Prop:=
 fld 3 t0 w λt8 w=>
 ld1 t8 w λt9 w=>
 lnS t9 w λt10 w=>
 lp [(Iw 0)] w (b1 λt11 w g1=>
 bi .lss .i64 t11 t10 w λt12 w=>
 Zr t12
 (ixS 4 t9 t11 w λt13 w=>
 ldN 4 t13 w λt14 w=>
 al (Zl prog 57) 57 w λt4 w=>
 stN 4 t4 t14 w λ_ w=>
 fld 1 t4 w λt15 w=>
 ld1 t15 w λt16 w=>
 ld1 t1 w λt17 w=>
 bi .geq .i64 t16 t17 w λt18 w=>
 Zr t18
 (K (Iw 81) w)
 (fld 3 t4 w λt19 w=>
 ld1 t19 w λt20 w=>
 lnS t20 w λt21 w=>
 lp [(Iw 0)] w (b1 λt22 w g2=>
 bi .lss .i64 t22 t21 w λt23 w=>
 Zr t23
 (ixS 3 t20 t22 w λt24 w=>
 ldN 3 t24 w λt25 w=>
 al (Zl prog 55) 55 w λt6 w=>
 stN 3 t6 t25 w λ_ w=>
 dr w λw=>
 fld 4 t0 w λt26 _=>
 ld1 t26 w λt27 _=>
 fld 0 t6 w λt28 _=>
 ld1 t28 w λt29 _=>
 fld 1 t6 w λt32 _=>
 ld1 t32 w λt33 _=>
 fld 1 t0 w λt34 _=>
 ld1 t34 w λt35 _=>
 bi .geq .i64 t33 t35 w λt36 _=>
 Cl prog 69 #[t27,t29] w λt30 w=>
 (ld1 t34 w (λv' w''=>v'=t35∧w''=w))∧((ld1 t32 w (λv' w''=>v'=t33∧w''=w))∧(Cl prog 39 #[t30,(Iw 81)] w λt31 w=>
 (ld1 t34 w (λv' w''=>v'=t35∧w''=w))∧((ld1 t32 w (λv' w''=>v'=t33∧w''=w))∧(Cl prog 39 #[t36,(Iw 80)] w λt37 w=>
 bsl 113 1 2 (Zl prog 113) [(0,t31),(1,t37)] w λt38 w=>
 Cl prog 36 #[t38] w λt39 w=>
 bi .neq .i64 t39 (Iw 0) w λt41 w=>
 Zr t41
 (K t39 w)
 (bi .add .i64 t22 (Iw 1) w λt43 w=>
 g2 [t43] w))))))
 (bi .add .i64 t11 (Iw 1) w λt44 w=>
 g1 [t44] w))))
 (K (Iw 0) w))
theorem ZjB (h:Zku t0 t1 w K):Cl prog 68 #[t0,t1] w K:=
 ZML 45 [2] Tryz.func68 h
def Zb6 (t0 t1:Value) (w:World) (K:KV):Prop:=
 Cl prog 98 #[t0,t1] w λt7 w=>
 bi .geq .i64 t7 (Iw 0) w λt8 w=>
 K t8 w
theorem ZcF (h:Zb6 t0 t1 w K):Cl prog 69 #[t0,t1] w K:=
 ZML 9 [4] Tryz.func69 h
def Zko (t0 t1:Value) (w:World) (K:KV):Prop:=
 al (Value.cells t0) 55 w λt2 w=>
 fld 4 t1 w λt4 w=>
 ld1 t4 w λt5 w=>
 fld 0 t2 w λt6 w=>
 ld1 t6 w λt7 w=>
 Cl prog 69 #[t5,t7] w λt8 w=>
 Zb3 t8 w λt9 w=>
 gd t9 false (λk=>fld 1 t2 w k) w λt11 w=>
 gd t9 false (λk=>ld1 t11 w k) w λt12 w=>
 gd t9 false (λk=>Cl prog 40 #[t12,(Iw 0),(Iw 1099511627776)] w k) w λt13 w=>
 gd t9 false (λk=>Zb3 t13 w k) w λt14 w=>
 pk t9 (Value.bool true) t14 w λt15 w=>
 gd t15 false (λk=>fld 2 t2 w k) w λt17 w=>
 gd t15 false (λk=>ld1 t17 w k) w λt18 w=>
 gd t15 false (λk=>Cl prog 40 #[t18,(Iw 0),(Iw 999)] w k) w λt19 w=>
 gd t15 false (λk=>Zb3 t19 w k) w λt20 w=>
 pk t15 (Value.bool true) t20 w λt21 w=>
 K t21 w
theorem Zja (h:Zko t0 t1 w K):Cl prog 70 #[t0,t1] w K:=
 ZML 22 [3] Tryz.func70 h
def ZkH (t0:Value) (w:World) (K:KV):Prop:=
 fld 3 t0 w λt2 w=>
 ld1 t2 w λt3 w=>
 Cl prog 72 #[t3] w λt4 w=>
 K t4 w
theorem Zjd (h:ZkH t0 w K):Cl prog 71 #[t0] w K:=
 ZML 5 [1] Tryz.func71 h
def Zmi (t0:Value) (w:World) (K:KV):Prop:=
 lnS t0 w λt9 w=>
 bi .gtr .i64 t9 (Iw 32) w λt10 w=>
 Zr t10
 (K (Iw 70) w)
 (ZlQ w λt11 w=>
 lnS t0 w λt13 w=>
 lp [(Iw 0)] w (b1 λt14 w g1=>
 bi .lss .i64 t14 t13 w λt15 w=>
 Zr t15
 (ixS 4 t0 t14 w λt16 w=>
 ldN 4 t16 w λt17 w=>
 al (Zl prog 57) 57 w λt5 w=>
 stN 4 t5 t17 w λ_ w=>
 fld 0 t5 w λt18 w=>
 ld1 t18 w λt19 w=>
 fld 1 t5 w λt20 w=>
 ld1 t20 w λt21 w=>
 bld (Zl prog 214) #[(0,1),(1,1)] [(0,t19),(1,t21)] w λt22 w=>
 al (Zl prog 214) 214 w λt6 w=>
 stN 2 t6 t22 w λ_ w=>
 ldN 2 t6 w λt24 w=>
 lkM prog 212 t11 t24 false w λt25 w=>
 gd t25 false (λk=>fld 0 t5 w k) w λt27 w=>
 gd t25 false (λk=>ld1 t27 w k) w λt28 w=>
 gd t25 false (λk=>Cl prog 100 #[t28,(Iw 8)] w k) w λt29 w=>
 gd t25 false (λk=>Zb3 t29 w k) w λt30 w=>
 pk t25 (Value.bool true) t30 w λt31 w=>
 gd t31 false (λk=>fld 2 t5 w k) w λt33 w=>
 gd t31 false (λk=>ld1 t33 w k) w λt34 w=>
 gd t31 false (λk=>Cl prog 100 #[t34,(Iw 8)] w k) w λt35 w=>
 gd t31 false (λk=>Zb3 t35 w k) w λt36 w=>
 pk t31 (Value.bool true) t36 w λt37 w=>
 gd t37 false (λk=>fld 1 t5 w k) w λt39 w=>
 gd t37 false (λk=>ld1 t39 w k) w λt40 w=>
 gd t37 false (λk=>Cl prog 100 #[t40,(Iw 16)] w k) w λt41 w=>
 gd t37 false (λk=>Zb3 t41 w k) w λt42 w=>
 pk t37 (Value.bool true) t42 w λt43 w=>
 gd t43 false (λk=>fld 3 t5 w k) w λt45 w=>
 gd t43 false (λk=>ld1 t45 w k) w λt46 w=>
 gd t43 false (λk=>lnS t46 w k) w λt47 w=>
 gd t43 false (λk=>bi .gtr .i64 t47 (Iw 3) w k) w λt48 w=>
 pk t43 (Value.bool true) t48 w λt49 w=>
 gd t49 false (λk=>fld 3 t5 w k) w λt51 w=>
 gd t49 false (λk=>ld1 t51 w k) w λt52 w=>
 gd t49 false (λk=>k (Value.func (.func 99) #[] #[]) w) w λt53 w=>
 gd t49 false (λk=>Cl prog 73 #[t52,t53] w k) w λt54 w=>
 pk t49 (Value.bool true) t54 w λt55 w=>
 Zr t55
 (K (Iw 70) w)
 (ldN 2 t6 w λt57 w=>
 upM prog 212 t11 t57 (Value.bool true) w λ_ w=>
 bi .add .i64 t14 (Iw 1) w λt58 w=>
 g1 [t58] w))
 (K (Iw 0) w)))
theorem ZjH (h:Zmi t0 w K):Cl prog 72 #[t0] w K:=
 ZML 59 [2] Tryz.func72 h
def ZaA (t0 t1:Value) (w:World) (K:KV):Prop:=
 Cl prog 101 #[t0,t1] w λt7 w=>
 bi .geq .i64 t7 (Iw 0) w λt8 w=>
 K t8 w
theorem Zbh (h:ZaA t0 t1 w K):Cl prog 73 #[t0,t1] w K:=
 ZML 9 [4] Tryz.func73 h
def ZnJ (t0 t1 t2 t3 t4:Value) (w:World) (K:KV):Prop:=
 al (Value.cells t4) 55 w λt9 w=>
 al (Zl prog 40) 40 w λt10 w=>
 dr w λw=>
 fld 1 t9 w λt12 _=>
 ld1 t12 w λt13 _=>
 fld 0 t9 w λt18 _=>
 ld1 t18 w λt19 _=>
 fld 2 t9 w λt22 _=>
 ld1 t22 w λt23 _=>
 Cl prog 102 #[t2,t13] w λt14 w=>
 (ld1 t22 w (λv' w''=>v'=t23∧w''=w))∧((ld1 t18 w (λv' w''=>v'=t19∧w''=w))∧((bld (Zl prog 38) #[(0,1),(1,1),(2,1)] [(0,t14),(1,t0),(2,t1)] w λt17 w=>
 (ld1 t22 w (λv' w''=>v'=t23∧w''=w))∧((ld1 t18 w (λv' w''=>v'=t19∧w''=w))∧(Cl prog 103 #[t3] w λt21 w=>
 (ld1 t22 w (λv' w''=>v'=t23∧w''=w))∧((ld1 t18 w (λv' w''=>v'=t19∧w''=w))∧(Cl prog 103 #[t23] w λt24 w=>
 (ld1 t18 w (λv' w''=>v'=t19∧w''=w))∧(bi .add .i64 t21 t24 w λt25 _=>
 Cl prog 103 #[t25] w λt26 w=>
 (ld1 t18 w (λv' w''=>v'=t19∧w''=w))∧(bld (Zl prog 40) #[(0,3),(3,1),(4,1),(5,1)] [(0,t17),(1,(Iw (-1))),(2,t19),(3,t26)] w λt27 w=>
 stN 6 t10 t27 w λ_ w=>
 ldN 6 t10 w λr0 _=>
 K r0 w)))))))∧(Cl prog 103 #[t3] w λt21_1 w=>
 (ld1 t22 w (λv' w''=>v'=t23∧w''=w))∧((ld1 t18 w (λv' w''=>v'=t19∧w''=w))∧((bld (Zl prog 38) #[(0,1),(1,1),(2,1)] [(0,t14),(1,t0),(2,t1)] w λt17_1 w=>
 (ld1 t22 w (λv' w''=>v'=t23∧w''=w))∧((ld1 t18 w (λv' w''=>v'=t19∧w''=w))∧(Cl prog 103 #[t23] w λt24_1 w=>
 (ld1 t18 w (λv' w''=>v'=t19∧w''=w))∧(bi .add .i64 t21_1 t24_1 w λt25_1 _=>
 Cl prog 103 #[t25_1] w λt26_1 w=>
 (ld1 t18 w (λv' w''=>v'=t19∧w''=w))∧(bld (Zl prog 40) #[(0,3),(3,1),(4,1),(5,1)] [(0,t17_1),(1,(Iw (-1))),(2,t19),(3,t26_1)] w λt27_1 w=>
 stN 6 t10 t27_1 w λ_ w=>
 ldN 6 t10 w λr0 _=>
 K r0 w)))))∧(Cl prog 103 #[t23] w λt24_2 w=>
 (ld1 t18 w (λv' w''=>v'=t19∧w''=w))∧(bi .add .i64 t21_1 t24_2 w λt25_2 _=>
 (bld (Zl prog 38) #[(0,1),(1,1),(2,1)] [(0,t14),(1,t0),(2,t1)] w λt17_2 w=>
 (ld1 t22 w (λv' w''=>v'=t23∧w''=w))∧((ld1 t18 w (λv' w''=>v'=t19∧w''=w))∧(Cl prog 103 #[t25_2] w λt26_2 w=>
 (ld1 t18 w (λv' w''=>v'=t19∧w''=w))∧(bld (Zl prog 40) #[(0,3),(3,1),(4,1),(5,1)] [(0,t17_2),(1,(Iw (-1))),(2,t19),(3,t26_2)] w λt27_2 w=>
 stN 6 t10 t27_2 w λ_ w=>
 ldN 6 t10 w λr0 _=>
 K r0 w))))∧(Cl prog 103 #[t25_2] w λt26_3 w=>
 (ld1 t18 w (λv' w''=>v'=t19∧w''=w))∧(bld (Zl prog 38) #[(0,1),(1,1),(2,1)] [(0,t14),(1,t0),(2,t1)] w λt17_3 w=>
 (ld1 t22 w (λv' w''=>v'=t23∧w''=w))∧((ld1 t18 w (λv' w''=>v'=t19∧w''=w))∧(bld (Zl prog 40) #[(0,3),(3,1),(4,1),(5,1)] [(0,t17_3),(1,(Iw (-1))),(2,t19),(3,t26_3)] w λt27_3 w=>
 stN 6 t10 t27_3 w λ_ w=>
 ldN 6 t10 w λr0 _=>
 K r0 w)))))))))))
theorem ZkY (h:ZnJ t0 t1 t2 t3 t4 w K):Cl prog 74 #[t0,t1,t2,t3,t4] w K:=
 ZMM 28 [(10,some 40)] Tryz.func74 h
def ZiO (t0 t1 t2:Value) (w:World) (K:KV):Prop:=
 al (Value.cells t0) 27 w λt3 w=>
 al (Value.cells t2) 3 w λt5 w=>
 fld 1 t3 w λt10 w=>
 ld1 t10 w λt11 w=>
 lnS t11 w λt12 w=>
 lp [(Value.slice none 0 0),(Iw 0)] w (b2 λt7 t13 w g1=>
 bi .lss .i64 t13 t12 w λt14 w=>
 Zr t14
 (J1 (λt7_1 w=>
 bi .add .i64 t13 (Iw 1) w λt31 w=>
 g1 [t7_1,t31] w) λk2=>
 ixS 7 t11 t13 w λt16 w=>
 ldN 7 t16 w λt17 w=>
 al (Zl prog 53) 53 w λt9 w=>
 stN 7 t9 t17 w λ_ w=>
 bi .neq .i64 t13 t1 w λt20 w=>
 gd t20 true (λk=>fld 5 t9 w k) w λt22 w=>
 gd t20 true (λk=>ld1 t22 w k) w λt23 w=>
 gd t20 true (λk=>k (Value.func (Fn.func 105) #[] #[t3,t5]) w) w λt24 w=>
 gd t20 true (λk=>Cl prog 104 #[t23,t24] w k) w λt25 w=>
 pk t20 t25 (Value.bool false) w λt26 w=>
 Zr t26
 (bsl 3 1 1 (Zl prog 3) [(0,t13)] w λt29 w=>
 apS prog #[24,24] 24 t7 t29 w λt30 w=>
 k2 t30 w)
 (k2 t7 w))
 (K t7 w))
theorem Zhu (h:ZiO t0 t1 t2 w K):Cl prog 75 #[t0,t1,t2] w K:=
 ZML 33 [6] Tryz.func75 h
def Zi1 (t0 t1 t2:Value) (w:World) (K:KV):Prop:=
 Cl prog 107 #[t0,t1,t2] w λt11 w=>
 bn .neq t11 w λt13 w=>
 Zr t13
 (dr w λw=>
 ncP t0<|
 fld 1 t0 w λt16 _=>
 ld1 t16 w λt17 _=>
 ncP t11<|
 fld 129 t11 w λt20 _=>
 ld1 t20 w λt21 _=>
 bi .sub .i64 t17 t21 w λt22 _=>
 K t22 w)
 (K (Iw 0) w)
theorem ZhN (h:Zi1 t0 t1 t2 w K):Cl prog 76 #[t0,t1,t2] w K:=
 ZML 23 [6] Tryz.func76 h
def ZfB (t0 t1 t2 t3:Value) (w:World) (K:KV):Prop:=
 al (Value.cells t3) 85 w λt7 w=>
 Cl prog 28 #[t0,t1] w λt15 w=>
 Cl prog 28 #[t0,t2] w λt18 w=>
 fld 0 t7 w λt21 w=>
 ld1 t21 w λt22 w=>
 bi .neq .i64 t22 (Iw 2) w λt23 w=>
 gd t23 true (λk=>k t15 w) w λt25 w=>
 gd t23 true (λk=>bn .neq t25 w k) w λt26 w=>
 pk t23 t26 (Value.bool false) w λt27 w=>
 gd t27 true (λk=>k t18 w) w λt29 w=>
 gd t27 true (λk=>bn .neq t29 w k) w λt30 w=>
 pk t27 t30 (Value.bool false) w λt31 w=>
 K (Value.tuple #[t15,t18,t31]) w
theorem ZfP (h:ZfB t0 t1 t2 t3 w K):Cl prog 77 #[t0,t1,t2,t3] w K:=
 ZML 32 [8,9,10] Tryz.func77 h
def ZkR (t0 t1 t2:Value) (w:World) (K:KV):Prop:=
 Cl prog 85 #[t0,t1] w λt11 w=>
 Zb3 t11 w λt12 w=>
 gd t12 false (λk=>k t2 w) w λt14 w=>
 gd t12 false (λk=>Cl prog 108 #[t14] w k) w λt15 w=>
 gd t12 false (λk=>Zb3 t15 w k) w λt16 w=>
 pk t12 (Value.bool true) t16 w λt17 w=>
 Zr t17
 (K (Value.tuple #[(Iw 0),(Iw 1)]) w)
 (Cl prog 109 #[t0,t1] w λt20 w=>
 dr w λw=>
 ncP t0<|
 fld 19 t0 w λt24 _=>
 ixA 2 1 t24 t20 w λt25 _=>
 ld1 t25 w λt26 _=>
 bi .add .i64 t26 (Iw 1) w λt27 _=>
 ncP t0<|
 fld 19 t0 w λt29 _=>
 ixA 2 1 t29 t20 w λt30 _=>
 stN 1 t30 t27 w λ_ w=>
 dr w λw=>
 Cl prog 84 #[t0] w λt32 w=>
 gd t32 true (λk=>k t0 w) w λt34 _=>
 gd t32 true (λk=>k t1 w) w λt35 _=>
 gd t32 true (λk=>nc t34 w k) w λt36 _=>
 gd t32 true (λk=>fld 3 t36 w k) w λt37 _=>
 gd t32 true (λk=>ixA 8 2 t37 t35 w k) w λt38 _=>
 gd t32 true (λk=>ldN 2 t38 w k) w λt39 _=>
 gd t32 true (λk=>k t0 w) w λt40 _=>
 gd t32 true (λk=>nc t40 w k) w λt41 _=>
 gd t32 true (λk=>fld 1 t41 w k) w λt42 _=>
 gd t32 true (λk=>ld1 t42 w k) w λt43 _=>
 gd t32 true (λk=>Cl prog 86 #[t39,t43] w k) w λt44 w=>
 pk t32 t44 (Value.bool false) w λt45 _=>
 J0 (λw=>
 K (Value.tuple #[t20,(Iw 0)]) w) λk1=>
 Zr t45
 (ncP t0<|
 fld 21 t0 w λt49 w=>
 ld1 t49 w λt50 w=>
 mnI .i64 t50 t2 w λt52 w=>
 ncP t0<|
 fld 21 t0 w λt54 w=>
 stN 1 t54 t52 w λ_ w=>
 k1 w)
 (k1 w))
theorem Zjy (h:ZkR t0 t1 t2 w K):Cl prog 78 #[t0,t1,t2] w K:=
 ZML 56 [6,7] Tryz.func78 h
def ZaZ (t0:Value) (w:World) (K:KV):Prop:=
 bO prog .eql 92 (Operand.tmp 3) (Operand.const (Value.slice none 0 0)) t0 (Value.slice none 0 0) w λt4 w=>
 Zr t4
 (K (Value.slice none 0 0) w)
 (bsl 85 8 0 #[] [] w λt5 w=>
 apS prog #[92,92] 92 t5 t0 w λt7 w=>
 K t7 w)
theorem ZbK (h:ZaZ t0 w K):Cl prog 79 #[t0] w K:=
 ZML 8 [2] Tryz.func79 h
def Ziw (t0 t1 t2 t3:Value) (w:World) (K:KV):Prop:=
 al (Value.cells t3) 85 w λt7 w=>
 Cl prog 107 #[t0,t1,t2] w λt13 w=>
 bn .eql t13 w λt16 w=>
 gd t16 false (λk=>fld 0 t7 w k) w λt18 w=>
 gd t16 false (λk=>ld1 t18 w k) w λt19 w=>
 gd t16 false (λk=>bi .lss .i64 t19 (Iw 0) w k) w λt20 w=>
 pk t16 (Value.bool true) t20 w λt21 w=>
 gd t21 false (λk=>fld 0 t7 w k) w λt23 w=>
 gd t21 false (λk=>ld1 t23 w k) w λt24 w=>
 gd t21 false (λk=>bi .gtr .i64 t24 (Iw 2) w k) w λt25 w=>
 pk t21 (Value.bool true) t25 w λt26 w=>
 gd t26 false (λk=>fld 7 t7 w k) w λt28 w=>
 gd t26 false (λk=>ld1 t28 w k) w λt29 w=>
 gd t26 false (λk=>bO prog .shr 3 (Operand.tmp 29) (Operand.const (Value.int IntKind.u64 1)) t29 (Value.int IntKind.u64 1) w k) w λt30 w=>
 gd t26 false (λk=>bi .neq .i64 t30 (Iw 0) w k) w λt31 w=>
 pk t26 (Value.bool true) t31 w λt32 w=>
 Zr t32
 (K (Iw 1) w)
 (dr w λw=>
 ncP t13<|
 fld 129 t13 w λt36 _=>
 ld1 t36 w λt37 _=>
 ncP t0<|
 fld 1 t0 w λt40 _=>
 ld1 t40 w λt41 _=>
 bi .eql .i64 t37 t41 w λt42 _=>
 Zr t42
 (K (Iw 2) w)
 (dr w λw=>
 ncP t13<|
 fld 128 t13 w λt46 _=>
 ld1 t46 w λt47 _=>
 ncP t13<|
 fld 129 t13 w λt50 _=>
 ld1 t50 w λt51 _=>
 bi .add .i64 t47 t51 w λt52 _=>
 bi .rem .i64 t52 (Iw 16) w λt53 _=>
 ldN 8 t7 w λt54 _=>
 ncP t13<|
 fld 0 t13 w λt56 _=>
 ixA 16 8 t56 t53 w λt57 _=>
 stN 8 t57 t54 w λ_ w=>
 ncP t13<|
 fld 129 t13 w λt60 w=>
 ld1 t60 w λt61 w=>
 bi .add .i64 t61 (Iw 1) w λt62 w=>
 ncP t13<|
 fld 129 t13 w λt64 w=>
 stN 1 t64 t62 w λ_ w=>
 K (Iw 0) w))
theorem ZhI (h:Ziw t0 t1 t2 t3 w K):Cl prog 80 #[t0,t1,t2,t3] w K:=
 ZML 65 [8] Tryz.func80 h
def ZdK (t0 t1 t2:Value) (w:World) (K:KV):Prop:=
 al (Zl prog 85) 85 w λt6 w=>
 Cl prog 107 #[t0,t1,t2] w λt12 w=>
 bn .eql t12 w λt14 w=>
 gd t14 false (λk=>k t12 w) w λt16 w=>
 gd t14 false (λk=>nc t16 w k) w λt17 w=>
 gd t14 false (λk=>fld 129 t17 w k) w λt18 w=>
 gd t14 false (λk=>ld1 t18 w k) w λt19 w=>
 gd t14 false (λk=>bi .eql .i64 t19 (Iw 0) w k) w λt20 w=>
 pk t14 (Value.bool true) t20 w λt21 w=>
 Zr t21
 (bld (Zl prog 85) #[(0,1),(1,6),(7,1)] [] w λt22 w=>
 stN 8 t6 t22 w λ_ w=>
 ldN 8 t6 w λr0 _=>
 K (Value.tuple #[r0,(Value.bool false)]) w)
 (dr w λw=>
 ncP t12<|
 fld 128 t12 w λt26 _=>
 ld1 t26 w λt27 _=>
 ncP t12<|
 fld 0 t12 w λt29 _=>
 ixA 16 8 t29 t27 w λt30 _=>
 ldN 8 t30 w λt31 _=>
 stN 8 t6 t31 w λ_ w=>
 ldN 8 t6 w λr0 _=>
 K (Value.tuple #[r0,(Value.bool true)]) w)
theorem ZcH (h:ZdK t0 t1 t2 w K):Cl prog 81 #[t0,t1,t2] w K:=
 ZMM 32 [(6,some 85),(7,none)] Tryz.func81 h
def ZiP (t0 t1 t2:Value) (w:World) (K:KV):Prop:=
 al (Zl prog 85) 85 w λt6 w=>
 Cl prog 81 #[t0,t1,t2] w λt15 w=>
 xt 0 t15 w λt16 w=>
 xt 1 t15 w λt17 w=>
 al (Zl prog 85) 85 w λt8 w=>
 stN 8 t8 t16 w λ_ w=>
 J0 (λw=>
 ldN 8 t8 w λt39 w=>
 stN 8 t6 t39 w λ_ w=>
 ldN 8 t6 w λr0 _=>
 K (Value.tuple #[r0,t17]) w) λk1=>
 Zr t17
 (Cl prog 107 #[t0,t1,t2] w λt22 w=>
 ncP t22<|
 fld 128 t22 w λt26 w=>
 ld1 t26 w λt27 w=>
 bi .add .i64 t27 (Iw 1) w λt28 w=>
 bi .rem .i64 t28 (Iw 16) w λt29 w=>
 ncP t22<|
 fld 128 t22 w λt31 w=>
 stN 1 t31 t29 w λ_ w=>
 ncP t22<|
 fld 129 t22 w λt34 w=>
 ld1 t34 w λt35 w=>
 bi .sub .i64 t35 (Iw 1) w λt36 w=>
 ncP t22<|
 fld 129 t22 w λt38 w=>
 stN 1 t38 t36 w λ_ w=>
 k1 w)
 (k1 w)
theorem ZhB (h:ZiP t0 t1 t2 w K):Cl prog 82 #[t0,t1,t2] w K:=
 ZMM 41 [(6,some 85),(7,none)] Tryz.func82 h
def ZmI (t0 t1 t2:Value) (w:World) (K:KV):Prop:=
 Cl prog 85 #[t0,t1] w λt9 w=>
 Zb3 t9 w λt10 w=>
 gd t10 false (λk=>k t2 w) w λt12 w=>
 gd t10 false (λk=>bO prog .shr 3 (Operand.tmp 12) (Operand.const (Value.int IntKind.u64 1)) t12 (Value.int IntKind.u64 1) w k) w λt13 w=>
 gd t10 false (λk=>bi .neq .i64 t13 (Iw 0) w k) w λt14 w=>
 pk t10 (Value.bool true) t14 w λt15 w=>
 gd t15 false (λk=>k t0 w) w λt17 w=>
 gd t15 false (λk=>k t2 w) w λt18 w=>
 gd t15 false (λk=>nc t17 w k) w λt19 w=>
 gd t15 false (λk=>fld 19 t19 w k) w λt20 w=>
 gd t15 false (λk=>ixA 2 1 t20 t18 w k) w λt21 w=>
 gd t15 false (λk=>ld1 t21 w k) w λt22 w=>
 gd t15 false (λk=>bi .eql .i64 t22 (Iw 0) w k) w λt23 w=>
 pk t15 (Value.bool true) t23 w λt24 w=>
 Zr t24
 (K (Iw 1) w)
 (dr w λw=>
 ncP t0<|
 fld 19 t0 w λt28 _=>
 ixA 2 1 t28 t2 w λt29 _=>
 ld1 t29 w λt30 _=>
 bi .sub .i64 t30 (Iw 1) w λt31 _=>
 ncP t0<|
 fld 19 t0 w λt33 _=>
 ixA 2 1 t33 t2 w λt34 _=>
 stN 1 t34 t31 w λ_ w=>
 K (Iw 0) w)
theorem ZjO (h:ZmI t0 t1 t2 w K):Cl prog 83 #[t0,t1,t2] w K:=
 ZML 35 [6] Tryz.func83 h
def Zjj (t0:Value) (w:World) (K:KV):Prop:=
 dr w λw=>
 ncP t0<|
 fld 1 t0 w λt5 _=>
 ld1 t5 w λt6 _=>
 ncP t0<|
 fld 2 t0 w λt9 _=>
 ld1 t9 w λt10 _=>
 bi .gtr .i64 t6 t10 w λt11 _=>
 K t11 w
theorem Zh7 (h:Zjj t0 w K):Cl prog 84 #[t0] w K:=
 ZML 12 [2] Tryz.func84 h
def Zns (t0 t1:Value) (w:World) (K:KV):Prop:=
 bi .geq .i64 t1 (Iw 0) w λt6 w=>
 gd t6 true (λk=>k t1 w) w λt8 w=>
 gd t6 true (λk=>k t0 w) w λt9 w=>
 gd t6 true (λk=>nc t9 w k) w λt10 w=>
 gd t6 true (λk=>fld 0 t10 w k) w λt11 w=>
 gd t6 true (λk=>ld1 t11 w k) w λt12 w=>
 gd t6 true (λk=>bi .lss .i64 t8 t12 w k) w λt13 w=>
 pk t6 t13 (Value.bool false) w λt14 w=>
 K t14 w
theorem Zk7 (h:Zns t0 t1 w K):Cl prog 85 #[t0,t1] w K:=
 ZML 15 [4] Tryz.func85 h
def Zg5 (t0 t1:Value) (w:World) (K:KV):Prop:=
 al (Value.cells t0) 141 w λt2 w=>
 fld 0 t2 w λt5 w=>
 ld1 t5 w λt6 w=>
 bi .eql .i64 t6 t1 w λt8 w=>
 K t8 w
theorem ZgN (h:Zg5 t0 t1 w K):Cl prog 86 #[t0,t1] w K:=
 ZML 9 [4] Tryz.func86 h
def ZfF (t0:Value) (w:World) (K:KV):Prop:=
 ncP t0<|
 fld 6 t0 w λt11 w=>
 ld1 t11 w λt12 w=>
 Cl prog 110 #[t12] w λt13 w=>
 xt 0 t13 w λt14 w=>
 xt 1 t13 w λt15 w=>
 al (Zl prog 40) 40 w λt4 w=>
 stN 6 t4 t14 w λ_ w=>
 J1 (λt3 w=>
 ncP t0<|
 fld 9 t0 w λt25 w=>
 ld1 t25 w λt26 w=>
 rgM prog 137 t26 w λt27 w=>
 lp [t3] w (b1 λt3_1 w g2=>
 nxM prog t27 false 0 w λt28 w=>
 xt 0 t28 w λt29 w=>
 Zr t29
 (enM prog t27 w λt30 w=>
 xt 1 t30 w λt31 w=>
 bsl 3 1 1 (Zl prog 3) [(0,t31)] w λt34 w=>
 apS prog #[24,24] 24 t3_1 t34 w λt35 w=>
 g2 [t35] w)
 (Cl prog 90 #[t3_1] w λt37 w=>
 K t37 w))) λk1=>
 Zr t15
 (fld 0 t4 w λt18 w=>
 fld 0 t18 w λt19 w=>
 ld1 t19 w λt20 w=>
 bsl 3 1 1 (Zl prog 3) [(0,t20)] w λt21 w=>
 apS prog #[24,24] 24 (Value.slice none 0 0) t21 w λt22 w=>
 k1 t22 w)
 (k1 (Value.slice none 0 0) w)
theorem ZfJ (h:ZfF t0 w K):Cl prog 87 #[t0] w K:=
 ZML 38 [2] Tryz.func87 h
def ZgY (t0:Value) (w:World) (K:KV):Prop:=
 ncP t0<|
 fld 2 t0 w λt5 w=>
 ld1 t5 w λt6 w=>
 K t6 w
theorem ZgA (h:ZgY t0 w K):Cl prog 88 #[t0] w K:=
 ZML 7 [2] Tryz.func88 h
def Zha (t0 t1 t2:Value) (w:World) (K:KV):Prop:=
 Cl prog 85 #[t0,t1] w λt10 w=>
 Zb3 t10 w λt11 w=>
 gd t11 false (λk=>k t2 w) w λt13 w=>
 gd t11 false (λk=>Cl prog 108 #[t13] w k) w λt14 w=>
 gd t11 false (λk=>Zb3 t14 w k) w λt15 w=>
 pk t11 (Value.bool true) t15 w λt16 w=>
 Zr t16
 (K (Iw 1) w)
 (dr w λw=>
 Cl prog 84 #[t0] w λt19 w=>
 Zb3 t19 w λt20 _=>
 gd t20 false (λk=>k t0 w) w λt22 _=>
 gd t20 false (λk=>Cl prog 111 #[t22,(Value.func (.func 86) #[] #[])] w k) w λt23 w=>
 gd t20 false (λk=>Zb3 t23 w k) w λt24 _=>
 pk t20 (Value.bool true) t24 w λt25 _=>
 gd t25 false (λk=>k t0 w) w λt27 _=>
 gd t25 false (λk=>k t1 w) w λt28 _=>
 gd t25 false (λk=>nc t27 w k) w λt29 _=>
 gd t25 false (λk=>fld 3 t29 w k) w λt30 _=>
 gd t25 false (λk=>ixA 8 2 t30 t28 w k) w λt31 _=>
 gd t25 false (λk=>ldN 2 t31 w k) w λt32 _=>
 gd t25 false (λk=>k t0 w) w λt33 _=>
 gd t25 false (λk=>nc t33 w k) w λt34 _=>
 gd t25 false (λk=>fld 1 t34 w k) w λt35 _=>
 gd t25 false (λk=>ld1 t35 w k) w λt36 _=>
 gd t25 false (λk=>Cl prog 112 #[t32,t36] w k) w λt37 w=>
 pk t25 (Value.bool true) t37 w λt38 _=>
 Zr t38
 (K (Iw 130) w)
 (dr w λw=>
 ncP t0<|
 fld 2 t0 w λt43 _=>
 ld1 t43 w λt44 _=>
 ncP t0<|
 fld 19 t0 w λt47 _=>
 bO prog .and 3 (Operand.tmp 44) (Operand.const (Iw 1)) t44 (Iw 1) w λt45 w=>
 ixA 2 1 t47 t45 w λt48 _=>
 ld1 t48 w λt49 _=>
 bi .gtr .i64 t49 (Iw 0) w λt50 _=>
 Zr t50
 (K (Iw 150) w)
 (dr w λw=>
 ncP t0<|
 fld 1 t0 w λt55 _=>
 ld1 t55 w λt56 _=>
 ncP t0<|
 fld 3 t0 w λt58 _=>
 ixA 8 2 t58 t1 w λt59 _=>
 fld 1 t59 w λt60 _=>
 stN 1 t60 t56 w λ_ w=>
 ncP t0<|
 fld 21 t0 w λt64 w=>
 ld1 t64 w λt65 w=>
 mnI .i64 t65 t2 w λt67 w=>
 ncP t0<|
 fld 21 t0 w λt69 w=>
 stN 1 t69 t67 w λ_ w=>
 Cl prog 111 #[t0,(Value.func (.func 112) #[] #[])] w λt71 w=>
 J0 (λw=>
 K (Iw 0) w) λk1=>
 Zr t71
 (ncP t0<|
 fld 1 t0 w λt75 w=>
 ld1 t75 w λt76 w=>
 ncP t0<|
 fld 2 t0 w λt78 w=>
 stN 1 t78 t76 w λ_ w=>
 dr w λw=>
 ncP t0<|
 fld 22 t0 w λt82 _=>
 ld1 t82 w λt83 _=>
 ncP t0<|
 fld 21 t0 w λt86 _=>
 ld1 t86 w λt87 _=>
 mxI .i64 t83 t87 w λt88 w=>
 ncP t0<|
 fld 22 t0 w λt90 _=>
 stN 1 t90 t88 w λ_ w=>
 k1 w)
 (k1 w))))
theorem ZgB (h:Zha t0 t1 t2 w K):Cl prog 89 #[t0,t1,t2] w K:=
 ZML 91 [6] Tryz.func89 h
def Zmt (t0:Value) (w:World) (K:KV):Prop:=
 lnS t0 w λt7 w=>
 lp [(Iw 1125899906842624),(Iw 0)] w (b2 λt3 t8 w g1=>
 bi .lss .i64 t8 t7 w λt9 w=>
 Zr t9
 (ixS 1 t0 t8 w λt10 w=>
 ld1 t10 w λt11 w=>
 Cl prog 113 #[t11] w λt14 w=>
 mnI .i64 t3 t14 w λt15 w=>
 bi .add .i64 t8 (Iw 1) w λt16 w=>
 g1 [t15,t16] w)
 (K t3 w))
theorem ZjX (h:Zmt t0 w K):Cl prog 90 #[t0] w K:=
 ZML 18 [2] Tryz.func90 h
def ZeF (t0 t1:Value) (w:World) (K:KV):Prop:=
 ncP t0<|
 fld 7 t0 w λt14 w=>
 ld1 t14 w λt15 w=>
 Cl prog 114 #[t15] w λt16 w=>
 bi .lss .i64 t1 t16 w λt17 w=>
 Zr t17
 (K (Value.tuple #[(Value.slice none 0 0),(Value.slice none 0 0),(Iw 110)]) w)
 (Cl prog 87 #[t0] w λt21 w=>
 bi .gtr .i64 t1 t21 w λt22 w=>
 Zr t22
 (K (Value.tuple #[(Value.slice none 0 0),(Value.slice none 0 0),(Iw 130)]) w)
 (ncP t0<|
 fld 7 t0 w λt25 w=>
 ld1 t25 w λt26 w=>
 Cl prog 115 #[t26,t1] w λt28 w=>
 lnS t28 w λt29 w=>
 lp [(Value.slice none 0 0),(Iw 0)] w (b2 λt7 t30 w g1=>
 bi .lss .i64 t30 t29 w λt31 w=>
 Zr t31
 (ixS 10 t28 t30 w λt32 w=>
 ldN 10 t32 w λt33 w=>
 al (Zl prog 227) 227 w λt9 w=>
 stN 10 t9 t33 w λ_ w=>
 fld 0 t9 w λt35 w=>
 ldN 6 t35 w λt36 w=>
 fld 8 t9 w λt37 w=>
 ld1 t37 w λt38 w=>
 bld (Zl prog 42) #[(0,6),(6,1)] [(0,t36),(1,t38)] w λt39 w=>
 bsl 42 7 1 (Zl prog 42) [(0,t39)] w λt40 w=>
 apS prog #[35,35] 35 t7 t40 w λt41 w=>
 bi .add .i64 t30 (Iw 1) w λt42 w=>
 g1 [t41,t42] w)
 (ncP t0<|
 fld 10 t0 w λt46 w=>
 ld1 t46 w λt47 w=>
 apS prog #[35,35] 35 t47 t7 w λt49 w=>
 ncP t0<|
 fld 10 t0 w λt51 w=>
 stN 1 t51 t49 w λ_ w=>
 ncP t0<|
 fld 8 t0 w λt55 w=>
 ld1 t55 w λt56 w=>
 Cl prog 116 #[t56,t1] w λt58 w=>
 K (Value.tuple #[t7,t58,(Iw 0)]) w))))
theorem ZeP (h:ZeF t0 t1 w K):Cl prog 91 #[t0,t1] w K:=
 ZML 59 [4,5,6] Tryz.func91 h
def ZiR (t0:Value) (w:World) (K:KV):Prop:=
 ncP t0<|
 fld 22 t0 w λt5 w=>
 ld1 t5 w λt6 w=>
 K t6 w
theorem Zhn (h:ZiR t0 w K):Cl prog 92 #[t0] w K:=
 ZML 7 [2] Tryz.func92 h
def Zpz (t0:Value) (w:World) (K:KV):Prop:=
 lnS t0 w λt7 w=>
 lp [(Value.slice none 0 0),(Iw 0)] w (b2 λt3 t8 w g1=>
 bi .lss .i64 t8 t7 w λt9 w=>
 Zr t9
 (ixS 6 t0 t8 w λt10 w=>
 ldN 6 t10 w λt11 w=>
 al (Zl prog 40) 40 w λt5 w=>
 stN 6 t5 t11 w λ_ w=>
 ldN 6 t5 w λt13 w=>
 bld (Zl prog 85) #[(0,1),(1,6),(7,1)] [(1,t13)] w λt14 w=>
 bsl 85 8 1 (Zl prog 85) [(0,t14)] w λt15 w=>
 apS prog #[92,92] 92 t3 t15 w λt16 w=>
 bi .add .i64 t8 (Iw 1) w λt17 w=>
 g1 [t16,t17] w)
 (K t3 w))
theorem Zlt (h:Zpz t0 w K):Cl prog 93 #[t0] w K:=
 ZML 19 [2] Tryz.func93 h
def ZeK (t0 t1:Value) (w:World) (K:KV):Prop:=
 ld1 t1 w λt8 w=>
 ncP t8<|
 fld 0 t8 w λt10 w=>
 ld1 t10 w λt11 w=>
 lp [(Iw 0),(Iw 0)] w (b2 λt3 t12 w g1=>
 bi .lss .i64 t12 t11 w λt13 w=>
 Zr t13
 (ld1 t1 w λt15 w=>
 ncP t15<|
 fld 0 t15 w λt17 w=>
 ld1 t17 w λt18 w=>
 lp [t3,(Iw 0)] w (b2 λt3_1 t19 w g2=>
 bi .lss .i64 t19 t18 w λt20 w=>
 Zr t20
 (ld1 t1 w λt22 w=>
 ncP t22<|
 fld 2 t22 w λt26 w=>
 ixA 8 1040 t26 t12 w λt27 w=>
 ixA 8 130 t27 t19 w λt28 w=>
 ncP t28<|
 fld 129 t28 w λt31 w=>
 ld1 t31 w λt32 w=>
 lp [t3_1,(Iw 0)] w (b2 λt3_2 t33 w g3=>
 bi .lss .i64 t33 t32 w λt34 w=>
 Zr t34
 (dr w λw=>
 ncP t28<|
 fld 128 t28 w λt41 _=>
 ld1 t41 w λt42 _=>
 bi .add .i64 t42 t33 w λt44 _=>
 bi .rem .i64 t44 (Iw 16) w λt45 _=>
 ncP t28<|
 fld 0 t28 w λt47 _=>
 ixA 16 8 t47 t45 w λt48 _=>
 ldN 8 t48 w λt49 _=>
 clV prog t0 #[t3_2,t49] w λt50 w=>
 Zb3 t50 w λt51 _=>
 Zr t51
 (K (Value.tuple #[]) w)
 (bi .add .i64 t3_2 (Iw 1) w λt53 w=>
 bi .add .i64 t33 (Iw 1) w λt54 w=>
 g3 [t53,t54] w))
 (bi .add .i64 t19 (Iw 1) w λt55 w=>
 g2 [t3_2,t55] w)))
 (bi .add .i64 t12 (Iw 1) w λt56 w=>
 g1 [t3_1,t56] w)))
 (K (Value.tuple #[]) w))
theorem Ze5 (h:ZeK t0 t1 w K):Cl prog 94 #[t0,t1] w K:=
 ZML 57 [] Tryz.func94 h
def Zrd (t0 t1:Value) (w:World) (K:KV):Prop:=
 lp [t1] w (b1 λt1_1 w g1=>
 bi .sub .i64 t1_1 (Iw 1) w λt6 w=>
 bi .quo .i64 t6 (Iw 2) w λt7 w=>
 bi .eql .i64 t7 t1_1 w λt10 w=>
 gd t10 false (λk=>k t0 w) w λt12 w=>
 gd t10 false (λk=>k t1_1 w) w λt13 w=>
 gd t10 false (λk=>k t7 w) w λt14 w=>
 gd t10 false (λk=>clI prog t12 "Less" #[t13,t14] w k) w λt15 w=>
 gd t10 false (λk=>Zb3 t15 w k) w λt16 w=>
 pk t10 (Value.bool true) t16 w λt17 w=>
 Zr t17
 (K (Value.tuple #[]) w)
 (clI prog t0 "Swap" #[t7,t1_1] w λ_ w=>
 g1 [t7] w))
theorem ZiM (h:Zrd t0 t1 w K):Cl prog 95 #[t0,t1] w K:=
 ZML 23 [] Tryz.func95 h
def Zmo (t0 t1 t2:Value) (w:World) (K:KV):Prop:=
 J1 (λt7 w=>
 bi .gtr .i64 t7 t1 w λt47 w=>
 K t47 w) λk1=>
 lp [t1] w (b1 λt7_1 w g2=>
 bi .mul .i64 (Iw 2) t7_1 w λt13 w=>
 bi .add .i64 t13 (Iw 1) w λt14 w=>
 bi .geq .i64 t14 t2 w λt17 w=>
 gd t17 false (λk=>k t14 w) w λt19 w=>
 gd t17 false (λk=>bi .lss .i64 t19 (Iw 0) w k) w λt20 w=>
 pk t17 (Value.bool true) t20 w λt21 w=>
 Zr t21
 (k1 t7_1 w)
 (bi .add .i64 t14 (Iw 1) w λt24 w=>
 bi .lss .i64 t24 t2 w λt27 w=>
 gd t27 true (λk=>k t0 w) w λt29 w=>
 gd t27 true (λk=>k t24 w) w λt30 w=>
 gd t27 true (λk=>k t14 w) w λt31 w=>
 gd t27 true (λk=>clI prog t29 "Less" #[t30,t31] w k) w λt32 w=>
 pk t27 t32 (Value.bool false) w λt33 w=>
 J1 (λt9 w=>
 clI prog t0 "Less" #[t9,t7_1] w λt38 w=>
 Zb3 t38 w λt39 w=>
 Zr t39
 (k1 t7_1 w)
 (clI prog t0 "Swap" #[t7_1,t9] w λ_ w=>
 g2 [t9] w)) λk3=>
 Zr t33
 (k3 t24 w)
 (k3 t14 w)))
theorem Zf3 (h:Zmo t0 t1 t2 w K):Cl prog 96 #[t0,t1,t2] w K:=
 ZML 48 [6] Tryz.func96 h
def Znc (t0 t1 t2:Value) (w:World) (K:KV):Prop:=
 al (Value.cells t1) 3 w λt4 w=>
 al (Value.cells t2) 3 w λt5 w=>
 Cl prog 117 #[t0,(Value.func (Fn.func 118) #[] #[t4,t5])] w λt9 w=>
 K t9 w
theorem Zk3 (h:Znc t0 t1 t2 w K):Cl prog 97 #[t0,t1,t2] w K:=
 ZML 10 [6] Tryz.func97 h
def ZcG (t0 t1:Value) (w:World) (K:KV):Prop:=
 lnS t0 w λt7 w=>
 lp [(Iw 0)] w (b1 λt8 w g1=>
 bi .lss .i64 t8 t7 w λt9 w=>
 Zr t9
 (ixS 1 t0 t8 w λt14 w=>
 ld1 t14 w λt15 w=>
 bi .eql .i64 t1 t15 w λt16 w=>
 Zr t16
 (K t8 w)
 (bi .add .i64 t8 (Iw 1) w λt18 w=>
 g1 [t18] w))
 (K (Iw (-1)) w))
theorem Zdb (h:ZcG t0 t1 w K):Cl prog 98 #[t0,t1] w K:=
 ZML 19 [4] Tryz.func98 h
def Zix (t0:Value) (w:World) (K:KV):Prop:=
 al (Value.cells t0) 55 w λt1 w=>
 fld 0 t1 w λt3 w=>
 ld1 t3 w λt4 w=>
 Cl prog 100 #[t4,(Iw 16)] w λt5 w=>
 Zb3 t5 w λt6 w=>
 gd t6 false (λk=>fld 1 t1 w k) w λt8 w=>
 gd t6 false (λk=>ld1 t8 w k) w λt9 w=>
 gd t6 false (λk=>Cl prog 100 #[t9,(Iw 1048577)] w k) w λt10 w=>
 gd t6 false (λk=>Zb3 t10 w k) w λt11 w=>
 pk t6 (Value.bool true) t11 w λt12 w=>
 gd t12 false (λk=>fld 2 t1 w k) w λt14 w=>
 gd t12 false (λk=>ld1 t14 w k) w λt15 w=>
 gd t12 false (λk=>Cl prog 100 #[t15,(Iw 1000)] w k) w λt16 w=>
 gd t12 false (λk=>Zb3 t16 w k) w λt17 w=>
 pk t12 (Value.bool true) t17 w λt18 w=>
 K t18 w
theorem Zh0 (h:Zix t0 w K):Cl prog 99 #[t0] w K:=
 ZML 19 [2] Tryz.func99 h
def ZmF (t0 t1:Value) (w:World) (K:KV):Prop:=
 cvI .u64 t0 w λt6 w=>
 cvI .u64 t1 w λt8 w=>
 bi .lss .u64 t6 t8 w λt9 w=>
 K t9 w
theorem Zj0 (h:ZmF t0 t1 w K):Cl prog 100 #[t0,t1] w K:=
 ZML 10 [4] Tryz.func100 h
def ZaQ (t0 t1:Value) (w:World) (K:KV):Prop:=
 lnS t0 w λt7 w=>
 lp [(Iw 0)] w (b1 λt8 w g1=>
 bi .lss .i64 t8 t7 w λt9 w=>
 Zr t9
 (ixS 3 t0 t8 w λt14 w=>
 ldN 3 t14 w λt15 w=>
 clV prog t1 #[t15] w λt16 w=>
 Zr t16
 (K t8 w)
 (bi .add .i64 t8 (Iw 1) w λt18 w=>
 g1 [t18] w))
 (K (Iw (-1)) w))
theorem ZbB (h:ZaQ t0 t1 w K):Cl prog 101 #[t0,t1] w K:=
 ZML 19 [4] Tryz.func101 h
def Zqb (t0 t1:Value) (w:World) (K:KV):Prop:=
 Cl prog 113 #[t0] w λt6 w=>
 Cl prog 113 #[t1] w λt8 w=>
 bi .add .i64 t6 t8 w λt9 w=>
 Cl prog 113 #[t9] w λt10 w=>
 K t10 w
theorem Zms (h:Zqb t0 t1 w K):Cl prog 102 #[t0,t1] w K:=
 ZML 11 [4] Tryz.func102 h
def ZkS (t0:Value) (w:World) (K:KV):Prop:=
 bi .rem .i64 t0 (Iw 1000) w λt4 w=>
 bi .lss .i64 t4 (Iw 0) w λt6 w=>
 J1 (λt0_1 w=>
 K t0_1 w) λk1=>
 Zr t6
 (bi .add .i64 t4 (Iw 1000) w λt8 w=>
 k1 t8 w)
 (k1 t4 w)
theorem Zjc (h:ZkS t0 w K):Cl prog 103 #[t0] w K:=
 ZML 10 [2] Tryz.func103 h
def Zbq (t0 t1:Value) (w:World) (K:KV):Prop:=
 Cl prog 119 #[t0,t1] w λt7 w=>
 bi .geq .i64 t7 (Iw 0) w λt8 w=>
 K t8 w
theorem Zcf (h:Zbq t0 t1 w K):Cl prog 104 #[t0,t1] w K:=
 ZML 9 [4] Tryz.func104 h
def ZfM (t0 t1 t2:Value) (w:World) (K:KV):Prop:=
 fld 0 t1 w λt5 w=>
 ld1 t5 w λt6 w=>
 ld1 t2 w λt7 w=>
 Cl prog 106 #[t6,t7,t0] w λt9 w=>
 K t9 w
theorem ZfE (h:ZfM t0 t1 t2 w K):Cl prog 105 #[t0,t1,t2] w K:=
 ZML 10 [4] Tryz.func105 h
def Zsj (t0 t1 t2:Value) (w:World) (K:KV):Prop:=
 al (Value.cells t2) 3 w λt5 w=>
 al (Zl prog 4) 4 w λt6 w=>
 Cl prog 120 #[t0,t1] w λt10 w=>
 ZFR prog t10 1 (λl a w k=>
 bgn l w λw=>
 ld1 t5 w λt13 w=>
 bi .eql .i64 (a 0) t13 w λt14 w=>
 Zr t14
 (stN 1 t6 (Value.bool true) w λ_ w=>
 edr l w λw=>k (.bool false) w)
 (edn l w λw=>k (.bool true) w)) w
 (λD w=>
 stN 1 t6 (Value.bool false) w λ_ w=>
 Zz7 D w λw=>
 ld1 t6 w λr0 _=>
 K r0 w)
 (λD w=>
 Zz7 D w λw=>
 ld1 t6 w λr0 _=>
 K r0 w)
theorem Zm4 (h:Zsj t0 t1 t2 w K):Cl prog 106 #[t0,t1,t2] w K:=
 Cl.mk (by kernel_rfl) (Zlq (fn:=Tryz.f106) (nt:=15) (rs:=[(6,some 4)]) Zm Tryz.func106 (by kernel_rfl) (by kernel_rfl) (Nat.le_of_ble_eq_true (by kernel_rfl)) (by kernel_rfl) (by kernel_rfl) h)
end Go.Proofs.YtkpdpddmaoablaaGreat
end
