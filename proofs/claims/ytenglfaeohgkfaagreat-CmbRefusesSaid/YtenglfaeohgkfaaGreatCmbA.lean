/- A node: what it is in plain words, what memory holds; New. Conditions: the federation's lists are short. -/
import Derived.Test.YtenglfaeohgkfaaGreatSoloO
import Derived.Test.YtenglfaeohgkfaaGreatClockL
import Derived.Test.YtenglfaeohgkfaaGreatPrioZ
namespace Go.Proofs.YtenglfaeohgkfaaGreat
open Go Go.E
set_option maxRecDepth 100000
variable {e w : World} {L Q : List HP} {K : KV} {S S2 : HP}

theorem cmb_copied_s {x : WdX} (i : Nat) (hi : L[i]? = some S) (hS : Sat e w L) (hr : ∀ g, S g → RdWd x g) (hs : x.short)
    (hk : ∀ (X : WdX) w', X.w = x.w → Sat e w' (WdOwn X :: L) → K (.agg X.cs.toArray) w') : Cl prog 31 #[.agg x.cs.toArray] w K := by
  refine cmb_copied_calls ?_
  unfold cmb_copied
  have hflat := wd_cells i hi hS hr
  refine al_s (cs := x.cs) hS rfl fun b w1 h1 => ?_
  rw [zero_39]
  refine al_s (cs := [.slice none 0 0, .slice none 0 0, .int .i64 0]) h1 rfl fun b2 w2 h2 => ?_
  refine fld_at (ld1_at h2 1 rfl (v := x.pv) rfl ?_)
  refine clone_ints_i (i + 2) (by simpa using hi) (by have := hs.par; omega) (fun _ _ v h => by simp [intsK] at h; subst h; rfl) h2 (fun g hg => (hr g hg).par) fun v1 w3 h3 => ?_
  have f1 := h3.own_cells 0 rfl
  refine fld_at (stN_at h3 2 rfl (vs := [v1]) f1.1 rfl (Nat.le_of_ble_eq_true rfl) (fun c hc => by rw [List.mem_singleton.1 hc]; exact f1.2) (cs' := [v1, x.fv, .int .i64 x.End]) (by rfl) fun w4 h4 => ?_)
  refine fld_at (ld1_at h4 2 rfl (v := x.fv) rfl ?_)
  refine clone_feds_i (i + 3) (by simpa using hi) (by have := hs.feds; omega) (fun f hf => fed_cells i hi hS fun g hg => (hr g hg).fed f hf) h4 (fun g hg => (hr g hg).feds) fun v2 w5 h5 => ?_
  have f2 := h5.own_cells 0 rfl
  refine fld_at (stN_at h5 3 rfl (vs := [v2]) f2.1 rfl (Nat.le_of_ble_eq_true rfl) (fun c hc => by rw [List.mem_singleton.1 hc]; exact f2.2) (cs' := [v1, v2, .int .i64 x.End]) (by rfl) fun w6 h6 => ?_)
  refine fld_at (ld1_at h6 3 rfl (v := v2) rfl ?_)
  refine lnS_rd h6 0 rfl (fun g hg => own_rd hg) ?_
  have hfl := hs.feds
  refine lpi1 (fun q t17 w => ∃ (j : Nat) (dn : List FedX), j ≤ x.Feds.length ∧ t17 = .int .i64 j ∧ q = x.Feds.length - j ∧ dn.length = j ∧ dn.map FedX.f = (x.Feds.take j).map FedX.f ∧
      Sat e w (ownS 72 7 FedX.cs v2 (dn ++ x.Feds.drop j) :: sepL (dn.map FedOwn) :: ownS 3 1 (intsK .i64) v1 x.Parents :: blk b2 39 [.slice none 0 0, .slice none 0 0, .int .i64 0] :: blk b 39 [v1, v2, .int .i64 x.End] :: L)) x.Feds.length
    ⟨0, [], Nat.zero_le _, rfl, rfl, rfl, rfl, ?_⟩ ?_
  · have h7 : Sat e w6 (sepL [] :: ownS 72 7 FedX.cs v2 x.Feds :: ownS 3 1 (intsK .i64) v1 x.Parents :: blk b2 39 [.slice none 0 0, .slice none 0 0, .int .i64 0] :: blk b 39 [v1, v2, .int .i64 x.End] :: L) := Sat.join (l' := []) (h6.selR [_, _, _, _] [_, _, _, _] [0, 1, 2, 3] (by decide) rfl)
    exact h7.swap
  rintro q _ w g1 ⟨j, dn, hj, rfl, rfl, hdl, hdm, h7⟩ hg1
  refine lt_c (fun c0 => iff_t ?_) (fun c0 => iff_f ?_)
  case refine_2 =>
    have ej : j = x.Feds.length := by omega
    rw [ej, List.drop_length, List.append_nil] at h7
    rw [ej, List.take_length] at hdm
    refine ldN_at h7 4 (vs := [v1, v2, .int .i64 x.End]) rfl (by rfl) rfl ?_
    refine stN_at h7 3 rfl (vs := [v1, v2, .int .i64 x.End]) rfl rfl (Nat.le_of_ble_eq_true rfl) (fun c hc => by
      simp only [List.mem_cons, List.not_mem_nil, or_false] at hc
      rcases hc with rfl | rfl | rfl
      · exact f1.2
      · exact f2.2
      · rfl) (cs' := [v1, v2, .int .i64 x.End]) (by rfl) fun w8 h8 => ?_
    refine ldN_at h8 3 (vs := [v1, v2, .int .i64 x.End]) rfl (by rfl) rfl ?_
    refine hk ⟨v1, x.Parents, v2, dn, x.End⟩ _ (by simp only [WdX.w, hdm]) (Sat.join (l' := [_, _, _]) ?_)
    exact h8.selR [_, _, _, _, _] [_, _, _] [2, 0, 1] (by decide) rfl
  obtain ⟨fd, hf⟩ := get_of_lt (l := x.Feds) (j := j) (by omega)
  have hfm := List.mem_of_getElem? hf
  have hsf := hs.fed fd hfm
  have hdr : x.Feds.drop j = fd :: x.Feds.drop (j + 1) := drop_cons hf
  have hget : (dn ++ x.Feds.drop j)[j]? = some fd := by rw [hdr, List.getElem?_append_right (by omega), hdl, Nat.sub_self]; rfl
  have hi7 : (ownS 72 7 FedX.cs v2 (dn ++ x.Feds.drop j) :: sepL (dn.map FedOwn) :: ownS 3 1 (intsK .i64) v1 x.Parents :: blk b2 39 [.slice none 0 0, .slice none 0 0, .int .i64 0] :: blk b 39 [v1, v2, .int .i64 x.End] :: L)[i + 5]? = some S := by simpa using hi
  refine fld_at (ld1_at h7 4 rfl (v := v2) rfl ?_)
  refine ixS_own h7 0 rfl hget fun bb cc hv2 => ?_
  refine dr_s h7 fun w8 h8 => ?_
  refine ncP_p (fld_at (ldF_own h8 0 rfl (fun _ => rfl) hv2 hget (u := fd.pv) rfl ?_))
  refine ncP_p (fld_at (ldF_own h8 0 rfl (fun _ => rfl) hv2 hget (u := fd.sv) rfl ?_))
  refine ncP_p (fld_at (ldF_own h8 0 rfl (fun _ => rfl) hv2 hget (u := fd.iv) rfl ?_))
  refine ncP_p (fld_at (ldF_own h8 0 rfl (fun _ => rfl) hv2 hget (u := fd.rv) rfl ?_))
  have hintf : ∀ (l : List Int), ∀ x ∈ l, ∀ v ∈ intsK .i64 x, flat v = true := fun _ _ _ v h => by simp [intsK] at h; subst h; rfl
  refine clone_ints_i (i + 5) hi7 (by have := hsf.pubs; omega) (hintf _) h8 (fun g hg => ((hr g hg).fed fd hfm).pubs) fun a1 w9 h9 => ?_
  refine ⟨ldF_own h9 1 rfl (fun _ => rfl) hv2 hget (u := fd.rv) rfl ⟨rfl, rfl⟩, ldF_own h9 1 rfl (fun _ => rfl) hv2 hget (u := fd.iv) rfl ⟨rfl, rfl⟩, ldF_own h9 1 rfl (fun _ => rfl) hv2 hget (u := fd.sv) rfl ⟨rfl, rfl⟩, ?_⟩
  refine clone_ints_i (i + 6) (by simpa using hi) (by have := hsf.subs; omega) (hintf _) h9 (fun g hg => ((hr g hg).fed fd hfm).subs) fun a2 w10 h10 => ?_
  refine ⟨ldF_own h10 2 rfl (fun _ => rfl) hv2 hget (u := fd.rv) rfl ⟨rfl, rfl⟩, ldF_own h10 2 rfl (fun _ => rfl) hv2 hget (u := fd.iv) rfl ⟨rfl, rfl⟩, ?_⟩
  refine clone_outs_i (i + 7) (by simpa using hi) (by have := hsf.init; omega) (fun _ _ => ints_flat _) h10 (fun g hg => ((hr g hg).fed fd hfm).init) fun a3 w11 h11 => ?_
  refine ⟨ldF_own h11 3 rfl (fun _ => rfl) hv2 hget (u := fd.rv) rfl ⟨rfl, rfl⟩, ?_⟩
  refine clone_rules_i (i + 8) (by simpa using hi) (by have := hsf.rules; omega) (rule_cells i hi hS fun g hg => ((hr g hg).fed fd hfm).rules) h11 (fun g hg => ((hr g hg).fed fd hfm).rules.s) fun a4 w12 h12 => ?_
  have q4 := h12.own_cells 0 rfl
  have q3 := h12.own_cells 1 rfl
  have q2 := h12.own_cells 2 rfl
  have q1 := h12.own_cells 3 rfl
  have hset : ∀ (a c : FedX), ((dn ++ x.Feds.drop j).set j a).set j c = (dn ++ x.Feds.drop j).set j c := fun a c => List.set_set _
  have hjl : j < (dn ++ x.Feds.drop j).length := (List.getElem?_eq_some_iff.1 hget).1
  have hg1' : ∀ a : FedX, ((dn ++ x.Feds.drop j).set j a)[j]? = some a := fun a => List.getElem?_set_self hjl
  have hln : ∀ a : FedX, ((dn ++ x.Feds.drop j).set j a).length = (dn ++ x.Feds.drop j).length := fun a => List.length_set
  refine ncP_p (fld_at (stF_own h12 4 rfl (fun _ => rfl) hv2 hget (x' := { fd with pv := a1 }) q1.1 rfl (by decide) (fun c hc => by rw [List.mem_singleton.1 hc]; exact q1.2) rfl fun w13 h13 => ?_))
  refine ncP_p (fld_at (stF_own h13 4 rfl (fun _ => rfl) (by rw [hln]; exact hv2) (hg1' _) (x' := { fd with pv := a1, sv := a2 }) q2.1 rfl (by decide) (fun c hc => by rw [List.mem_singleton.1 hc]; exact q2.2) rfl fun w14 h14 => ?_))
  rw [hset] at h14
  refine ncP_p (fld_at (stF_own h14 4 rfl (fun _ => rfl) (by rw [hln]; exact hv2) (hg1' _) (x' := { fd with pv := a1, sv := a2, iv := a3 }) q3.1 rfl (by decide) (fun c hc => by rw [List.mem_singleton.1 hc]; exact q3.2) rfl fun w15 h15 => ?_))
  rw [hset] at h15
  refine ncP_p (fld_at (stF_own h15 4 rfl (fun _ => rfl) (by rw [hln]; exact hv2) (hg1' _) (x' := { fd with pv := a1, sv := a2, iv := a3, rv := a4 }) q4.1 rfl (by decide) (fun c hc => by rw [List.mem_singleton.1 hc]; exact q4.2) rfl fun w16 h16 => ?_))
  rw [hset] at h16
  clear h8 h9 h10 h11 h12 h13 h14 h15
  generalize hfd' : ({ fd with pv := a1, sv := a2, iv := a3, rv := a4 } : FedX) = fd' at h16
  generalize hls : (dn ++ x.Feds.drop j).set j fd' = ls at h16
  have hlsj : ls[j]? = some fd' := by rw [← hls]; exact hg1' _
  have hlsl : v2 = .slice (some ⟨bb, 0, none⟩) ls.length cc := by rw [← hls, hln]; exact hv2
  have e4 : fd'.rv = a4 := by rw [← hfd']
  refine ncP_p (fld_at (ldF_own h16 4 rfl (fun _ => rfl) hlsl hlsj (u := a4) (by rw [← hfd']; rfl) ?_))
  refine lnS_rd h16 0 rfl (fun g hg => own_rd hg) ?_
  have hrl := hsf.rules
  refine lpi1 (fun q t61 w => ∃ (n : Nat) (rd : List RuleX), n ≤ fd.Rules.length ∧ t61 = .int .i64 n ∧ q = fd.Rules.length - n ∧ rd.length = n ∧ rd.map RuleX.r = (fd.Rules.take n).map RuleX.r ∧
      Sat e w (ownS 80 4 RuleX.cs a4 (rd ++ fd.Rules.drop n) :: sepL (rd.map RuleOwn) :: ownS 78 3 Out.cs a3 fd.Init :: ownS 3 1 (intsK .i64) a2 fd.Subs :: ownS 3 1 (intsK .i64) a1 fd.Pubs :: ownS 72 7 FedX.cs v2 ls :: sepL (dn.map FedOwn) :: ownS 3 1 (intsK .i64) v1 x.Parents :: blk b2 39 [.slice none 0 0, .slice none 0 0, .int .i64 0] :: blk b 39 [v1, v2, .int .i64 x.End] :: L)) fd.Rules.length
    ⟨0, [], Nat.zero_le _, rfl, rfl, rfl, rfl, ?_⟩ ?_
  · exact (Sat.join (l' := []) h16).swap
  rintro q _ w g2 ⟨n, rd, hn, rfl, rfl, hrdl, hrdm, h17⟩ hg2
  refine lt_c (fun c1 => iff_t ?_) (fun c1 => iff_f ?_)
  case refine_2 =>
    have en : n = fd.Rules.length := by omega
    rw [en, List.drop_length, List.append_nil] at h17
    rw [en, List.take_length] at hrdm
    refine inc_s (by omega) ?_
    have h18 : Sat e w (FedOwn { fd' with Rules := rd } :: ownS 72 7 FedX.cs v2 ls :: sepL (dn.map FedOwn) :: ownS 3 1 (intsK .i64) v1 x.Parents :: blk b2 39 [.slice none 0 0, .slice none 0 0, .int .i64 0] :: blk b 39 [v1, v2, .int .i64 x.End] :: L) := by
      refine Sat.join (l' := [_, _, _, _, _]) ?_
      rw [← hfd']
      exact h17.selR [_, _, _, _, _] [_, _, _, _, _] [4, 3, 2, 0, 1] (by decide) rfl
    have h19 := sep_push (h18.selR [_, _, _] [_, _, _] [0, 2, 1] (by decide) rfl)
    refine hg1 _ _ _ (by omega) ⟨j + 1, dn ++ [{ fd' with Rules := rd }], by omega, rfl, rfl, by simp [hdl], ?_, ?_⟩
    · rw [take_snoc hf, List.map_append, List.map_append, hdm, List.map_singleton, List.map_singleton]
      congr 2
      rw [← hfd']
      simp only [FedX.f, hrdm]
    · have h20 := (h19.swap).imp (Q := ownS 72 7 FedX.cs v2 (dn ++ [{ fd' with Rules := rd }] ++ x.Feds.drop (j + 1))) fun g hg => own_congr (by
        rw [← hls, hdr, List.set_append_right _ _ (by omega), hdl, Nat.sub_self, List.set_cons_zero]
        simp only [List.map_append, List.map_cons, List.append_assoc, List.singleton_append]
        rfl) hg
      rw [List.map_append]
      exact h20
  obtain ⟨r, hrn⟩ := get_of_lt (l := fd.Rules) (j := n) (by omega)
  have hrm := List.mem_of_getElem? hrn
  have hdr2 : fd.Rules.drop n = r :: fd.Rules.drop (n + 1) := drop_cons hrn
  have hget2 : (rd ++ fd.Rules.drop n)[n]? = some r := by rw [hdr2, List.getElem?_append_right (by omega), hrdl, Nat.sub_self]; rfl
  refine dr_s h17 fun w18 h18 => ?_
  refine ncP_p (fld_at (ldF_own h18 5 rfl (fun _ => rfl) hlsl hlsj (u := a4) (by rw [← hfd']; rfl) ?_))
  refine ncP_p (fld_at (ldF_own h18 5 rfl (fun _ => rfl) hlsl hlsj (u := a4) (by rw [← hfd']; rfl) ?_))
  refine ixS_own h18 0 rfl hget2 fun br cr ha4 => ?_
  refine fld_at (ldF_own h18 0 rfl (fun _ => rfl) ha4 hget2 (u := r.sv) rfl ?_)
  refine clone_outs_i (i + 10) (by simpa using hi) (by have := hsf.sends r hrm; omega) (fun _ _ => ints_flat _) h18 (fun g hg => ((hr g hg).fed fd hfm).rules.e r hrm) fun a5 w19 h19 => ?_
  have q5 := h19.own_cells 0 rfl
  refine ⟨ldF_own h19 6 rfl (fun _ => rfl) hlsl hlsj (u := a4) (by rw [← hfd']; rfl) ⟨rfl, rfl⟩, ?_⟩
  refine ixS_own h19 1 rfl hget2 fun br' cr' ha4' => ?_
  refine fld_at (stF_own h19 1 rfl (fun _ => rfl) ha4' hget2 (x' := { r with sv := a5 }) q5.1 rfl (by decide) (fun c hc => by rw [List.mem_singleton.1 hc]; exact q5.2) rfl fun w20 h20 => ?_)
  refine inc_s (by omega) ?_
  have h21 := sep_push (A := RuleOwn { r with sv := a5 }) (h20.selR [_, _, _] [_, _, _] [0, 2, 1] (by decide) rfl)
  refine hg2 _ _ _ (by omega) ⟨n + 1, rd ++ [{ r with sv := a5 }], by omega, rfl, rfl, by simp [hrdl], ?_, ?_⟩
  · rw [take_snoc hrn, List.map_append, List.map_append, hrdm]
    rfl
  · rw [hdr2, List.set_append_right _ _ (by omega), hrdl, Nat.sub_self, List.set_cons_zero] at h21
    rw [List.map_append, List.append_assoc]
    exact h21.swap

/-! ### In plain words -/
structure ND where
  clk : Clk
  q : List Msg
  st : Int
  sent : Int
  log : List Done
structure NItem where
  Kind : Int
  m : Msg
  Colour : Int
def NItem.ns (i : NItem) : List Int := [i.Kind, i.m.key.T, i.m.key.From, i.m.key.Seq, i.m.To, i.m.Class, i.m.Body, i.Colour]
abbrev NItem.cs (i : NItem) : List Value := ints i.ns
def hearE (N : ND) (j : Int) (i : NItem) : Int := if i.Kind = 2 then N.clk.hearE j i.m.key.T else if i.Kind = 0 then (if N.clk.at' j < 0 then 1 else if i.m.key.T < N.clk.at' j then 110 else pushE 64 N.q i.m) else 130
def hearN (N : ND) (j : Int) (i : NItem) : ND := if i.Kind = 2 then ⟨N.clk.hear j i.m.key.T, N.q, N.st, N.sent, N.log⟩ else if i.Kind = 0 ∧ ¬ N.clk.at' j < 0 ∧ ¬ i.m.key.T < N.clk.at' j then ⟨N.clk, pushQ N.q i.m, N.st, N.sent, N.log⟩ else N
def safeN (wd : Wd) (N : ND) : Bool := hasM N.q && decide ((hdM N.q).key.T < min wd.End N.clk.bound)
def ruleN (fd : Fed) (N : ND) : Int × List Out := stepR fd.Rules N.st (hdM N.q).Class
def doneN (fd : Fed) (N : ND) : Done := ⟨hdM N.q, (ruleN fd N).1⟩
def outsN (wd : Wd) (f : Nat) (fd : Fed) (N : ND) : List Msg := spreadL wd.Parents wd.Feds f N.sent (hdM N.q).key.T (hdM N.q).Body (ruleN fd N).2
def stepN (fd : Fed) (N : ND) : ND := ⟨N.clk, N.q.tail, (ruleN fd N).1, N.sent + (ruleN fd N).2.length, N.log ++ [doneN fd N]⟩
def firstT (N : ND) : Int := if hasM N.q = true then (hdM N.q).key.T else Inf
def tellN (fd : Fed) (N : ND) : ND := ⟨N.clk.tell (firstT N) fd.Look, N.q, N.st, N.sent, N.log⟩
def nodeI (n : Nat) (f : Nat) (fd : Fed) : ND := ⟨⟨List.replicate n 0, f, 0⟩, [], fd.Start, fd.Init.length, []⟩
structure NOk (wd : Wd) (f : Nat) (N : ND) (k : Nat) : Prop where
  may : WdOk wd
  hf : f < wd.Feds.length
  len : N.clk.L.length = wd.Feds.length
  self : N.clk.self = f
  sent : 0 ≤ N.sent ∧ N.sent ≤ 4 + 3 * k
  log : N.log.length ≤ k

/-! ### In memory -/
structure NV where
  X : WdX
  g : Nat
  q : Nat
  lv : Value
def ncs (X : WdX) (f : Int) (N : ND) (g q : Nat) (lv : Value) : List Value := [.pointer (some ⟨g, 0, none⟩), .pointer (some ⟨q, 0, none⟩), X.pv, X.fv, .int .i64 X.End, .int .i64 f, .int .i64 N.st, .int .i64 N.sent, lv]
def IsNode (n : Nat) (wd : Wd) (f : Nat) (N : ND) (k : Nat) : HP := hex fun p : NV => sepL [pur (p.X.w = wd ∧ p.X.short ∧ NOk wd f N k), blk n 57 (ncs p.X f N p.g p.q p.lv), IsClk p.g N.clk, IsQ p.q N.q, WdOwn p.X, ownS 46 7 Done.cs p.lv N.log]
theorem node_of {n f k : Nat} {wd : Wd} {N : ND} (h : Sat e w (IsNode n wd f N k :: Q)) : ∃ X g q lv, (X.w = wd ∧ X.short ∧ NOk wd f N k) ∧ Sat e w (blk n 57 (ncs X f N g q lv) :: IsClk g N.clk :: IsQ q N.q :: WdOwn X :: ownS 46 7 Done.cs lv N.log :: Q) := by
  obtain ⟨p, h0⟩ := h.ex
  exact ⟨p.X, p.g, p.q, p.lv, Sat.pure h0.split⟩
theorem node_mk {n f k : Nat} {wd : Wd} {N : ND} {X : WdX} {g q : Nat} {lv : Value} (hp : X.w = wd ∧ X.short ∧ NOk wd f N k) (h : Sat e w (blk n 57 (ncs X f N g q lv) :: IsClk g N.clk :: IsQ q N.q :: WdOwn X :: ownS 46 7 Done.cs lv N.log :: Q)) : Sat e w (IsNode n wd f N k :: Q) :=
  .mk_ex ⟨X, g, q, lv⟩ (.join (l' := [_, _, _, _, _, _]) (.mk_pure hp h))
theorem node_ok {n f k : Nat} {wd : Wd} {N : ND} (i : Nat) (h : Sat e w L) (hi : L[i]? = some (IsNode n wd f N k)) : NOk wd f N k ∧ QOk N.q := by
  obtain ⟨X, g, q, lv, hX, h1⟩ := node_of (h.pick i hi)
  exact ⟨hX.2.2, q_ok 2 h1 rfl⟩
theorem shortW {x X : WdX} (h : X.w = x.w) (hs : x.short) : X.short := by
  have h1 : X.Parents = x.Parents := congrArg Wd.Parents h
  have h2 : X.Feds.map FedX.f = x.Feds.map FedX.f := congrArg Wd.Feds h
  have hl : X.Feds.length = x.Feds.length := by simpa using congrArg List.length h2
  refine ⟨by rw [hl]; exact hs.feds, by rw [h1]; exact hs.par, fun f hf => ?_⟩
  have h3 : f.f ∈ x.Feds.map FedX.f := by rw [← h2]; exact List.mem_map_of_mem hf
  obtain ⟨g, hg, he⟩ := List.mem_map.1 h3
  have hsg := hs.fed g hg
  have e1 : g.Pubs = f.Pubs := congrArg Fed.Pubs he
  have e2 : g.Subs = f.Subs := congrArg Fed.Subs he
  have e3 : g.Init = f.Init := congrArg Fed.Init he
  have e4 : g.Rules.map RuleX.r = f.Rules.map RuleX.r := congrArg Fed.Rules he
  have e5 : g.Rules.length = f.Rules.length := by simpa using congrArg List.length e4
  refine ⟨by rw [← e1]; exact hsg.pubs, by rw [← e2]; exact hsg.subs, by rw [← e3]; exact hsg.init, by rw [← e5]; exact hsg.rules, fun q hq => ?_⟩
  have h5 : q.r ∈ g.Rules.map RuleX.r := by rw [e4]; exact List.mem_map_of_mem hq
  obtain ⟨q', hq', he'⟩ := List.mem_map.1 h5
  have e6 : q'.Sends = q.Sends := congrArg Rule.Sends he'
  rw [← e6]
  exact hsg.sends q' hq'

/-- May one be a node of a federation? -/
def nodeMay (wd : Wd) (f : Int) : Option Fed := if 0 ≤ f then (wd.Feds[f.toNat]?).bind fun fd => if fd.Kind = 0 then some fd else none else none
theorem node_New_s {x : WdX} {f : Int} (i : Nat) (hi : L[i]? = some S) (hS : Sat e w L) (hr : ∀ g, S g → RdWd x g) (hwf : x.wf) (hs : x.short)
    (hbad : (checkW x.w).2 ≠ 0 → ∀ w', Sat e w' L → K (.tuple #[.pointer none, .int .i64 (checkW x.w).2]) w')
    (harg : (checkW x.w).2 = 0 → nodeMay x.w f = none → ∀ w', Sat e w' L → K (.tuple #[.pointer none, .int .i64 1]) w')
    (hok : (checkW x.w).2 = 0 → ∀ (n : Nat) fd, f = n → x.w.Feds[n]? = some fd → nodeMay x.w f = some fd → ∀ r w', Sat e w' (IsNode r x.w n (nodeI x.w.Feds.length n fd) 0 :: L) → K (.tuple #[.pointer (some ⟨r, 0, none⟩), .int .i64 0]) w') :
    Cl prog 6 #[.agg x.cs.toArray, .int .i64 f] w K := by
  refine cmb_New_calls ?_
  unfold cmb_New
  refine al_s (cs := x.cs) hS rfl fun b w1 h1 => ?_
  refine ldN_at h1 0 (vs := x.cs) rfl (by rfl) rfl ?_
  refine config_Check_s (x := x) (i + 1) (by simpa using hi) h1 hr hwf hs fun w2 h2 => ?_
  refine xt_02 (xt_12 ?_)
  refine ne_c (fun c1 => iff_t (hbad c1 _ h2.drop)) (fun c1 => iff_f ?_)
  have hwd := checkW_ok c1
  have hi2 : (blk b 39 x.cs :: L)[i + 1]? = some S := by simpa using hi
  have hwl : x.w.Feds.length = x.Feds.length := by simp [WdX.w]
  by_cases d1 : f < 0
  · repeat (first | refine gd_tt ?_ | refine gd_ff ?_ | refine gd_tf ?_ | refine gd_ft ?_ | refine gd_u ?_ | refine pk_t ?_ | refine pk_f ?_ | refine iff_t ?_ | refine iff_f ?_ | refine not_t ?_ | refine not_f ?_ | refine beq_s ?_ | refine bne_s ?_ | refine ncP_p ?_ | refine nc_p ?_ | refine fld_at ?_ | refine xt_02 ?_ | refine xt_12 ?_ | refine xt_03 ?_ | refine xt_13 ?_ | refine xt_23 ?_ | refine eq_t (by omega) ?_ | refine eq_f (by omega) ?_ | refine ne_t (by omega) ?_ | refine ne_f (by omega) ?_ | refine lt_t (by omega) ?_ | refine lt_f (by omega) ?_ | refine gt_t (by omega) ?_ | refine gt_f (by omega) ?_ | refine ge_t (by omega) ?_ | refine ge_f (by omega) ?_ | refine le_t (by omega) ?_ | refine le_f (by omega) ?_)
    exact harg c1 (if_neg (by omega)) _ h2.drop
  refine lt_f d1 (gd_ff (gd_ff (fld_at (gd_ff (ld1_at h2 0 rfl (v := x.fv) rfl (gd_ff ?_))))))
  refine lnS_rd h2 (i + 1) hi2 (fun g hg => (hr g hg).feds) ?_
  by_cases d2 : (x.Feds.length : Int) ≤ f
  · repeat (first | refine gd_tt ?_ | refine gd_ff ?_ | refine gd_tf ?_ | refine gd_ft ?_ | refine gd_u ?_ | refine pk_t ?_ | refine pk_f ?_ | refine iff_t ?_ | refine iff_f ?_ | refine not_t ?_ | refine not_f ?_ | refine beq_s ?_ | refine bne_s ?_ | refine ncP_p ?_ | refine nc_p ?_ | refine fld_at ?_ | refine xt_02 ?_ | refine xt_12 ?_ | refine xt_03 ?_ | refine xt_13 ?_ | refine xt_23 ?_ | refine eq_t (by omega) ?_ | refine eq_f (by omega) ?_ | refine ne_t (by omega) ?_ | refine ne_f (by omega) ?_ | refine lt_t (by omega) ?_ | refine lt_f (by omega) ?_ | refine gt_t (by omega) ?_ | refine gt_f (by omega) ?_ | refine ge_t (by omega) ?_ | refine ge_f (by omega) ?_ | refine le_t (by omega) ?_ | refine le_f (by omega) ?_)
    refine harg c1 ?_ _ h2.drop
    unfold nodeMay
    rw [if_pos (by omega), List.getElem?_eq_none (by omega)]
    rfl
  refine gd_ff (ge_f (by omega) (pk_f ?_))
  obtain ⟨n, rfl⟩ : ∃ n : Nat, f = n := ⟨f.toNat, by omega⟩
  obtain ⟨fd, hfd⟩ := get_of_lt (l := x.Feds) (j := n) (by omega)
  have hfdm := List.mem_of_getElem? hfd
  have hwf' : x.w.Feds[n]? = some fd.f := by simp only [WdX.w]; rw [List.getElem?_map, hfd]; rfl
  have hmay : nodeMay x.w n = if fd.Kind = 0 then some fd.f else none := by
    unfold nodeMay
    rw [if_pos (by omega), Int.toNat_natCast, hwf']
    rfl
  refine gd_ff (fld_at (gd_ff (ld1_at h2 0 rfl (v := x.fv) rfl (gd_ff (gd_ff ?_)))))
  refine ixS_rd h2 (i + 1) hi2 (fun g hg => (hr g hg).feds) (fun _ => rfl) hfd fun p hp => ?_
  refine gd_ff (fld_of hp fun p1 hp1 => gd_ff (ld1_of h2 (i + 1) hi2 hp1 (v := .int .i64 fd.Kind) rfl ?_))
  refine gd_ff (ne_c (fun d3 => pk_f (iff_t (harg c1 (by rw [hmay, if_neg d3]) _ h2.drop))) (fun d3 => pk_f (iff_f ?_)))
  rw [if_pos d3] at hmay
  refine fld_at (ld1_at h2 0 rfl (v := x.fv) rfl ?_)
  refine lnS_rd h2 (i + 1) hi2 (fun g hg => (hr g hg).feds) ?_
  have hn := hwd.n
  refine clock_New_s (n := x.Feds.length) (self := n) (by omega) (by omega) (by omega) (by omega) h2 fun g w3 h3 => ?_
  refine xt_02 (xt_12 (ne_f rfl (iff_f ?_)))
  refine dr_s h3 fun w4 h4 => ?_
  have hi4 : (IsClk g ⟨List.replicate x.Feds.length 0, n, 0⟩ :: blk b 39 x.cs :: L)[i + 2]? = some S := by simpa using hi
  refine ldN_at h4 1 (vs := x.cs) rfl (by rfl) rfl ?_
  refine fld_at (ld1_at h4 1 rfl (v := x.fv) rfl ?_)
  refine ixS_rd h4 (i + 2) hi4 (fun g hg => (hr g hg).feds) (fun _ => rfl) hfd fun p2 hp2 => ?_
  refine fld_of hp2 fun p3 hp3 => ld1_of h4 (i + 2) hi4 hp3 (v := .int .i64 fd.Start) rfl ?_
  refine fld_at (ld1_at h4 1 rfl (v := x.fv) rfl ?_)
  refine ixS_rd h4 (i + 2) hi4 (fun g hg => (hr g hg).feds) (fun _ => rfl) hfd fun p4 hp4 => ?_
  refine fld_of hp4 fun p5 hp5 => ld1_of h4 (i + 2) hi4 hp5 (v := fd.iv) rfl ?_
  refine lnS_rd h4 (i + 2) hi4 (fun g hg => ((hr g hg).fed fd hfdm).init) ?_
  refine q_New_s h4 fun q w5 h5 => ?_
  have hi5 : (IsQ q [] :: IsClk g ⟨List.replicate x.Feds.length 0, n, 0⟩ :: blk b 39 x.cs :: L)[i + 3]? = some S := by simpa using hi
  have fin : ∀ (X : WdX) w', X.w = x.w → Sat e w' (WdOwn X :: IsQ q [] :: IsClk g ⟨List.replicate x.Feds.length 0, n, 0⟩ :: blk b 39 x.cs :: L) →
      bld (zeroD prog 57) #[(0, 1), (1, 1), (2, 3), (5, 1), (6, 1), (7, 1), (8, 1)] [(0, .pointer (some ⟨g, 0, none⟩)), (1, .agg #[.pointer (some ⟨q, 0, none⟩)]), (2, .agg X.cs.toArray), (3, .int .i64 n), (4, .int .i64 fd.Start), (5, .int .i64 (fd.Init.length : Int))] w' fun t66 w => al (Value.cells t66) 57 w fun t67 w => K (.tuple #[t67, .int .i64 0]) w := by
    intro X w' hX h'
    refine bld_s (ncs X n (nodeI x.w.Feds.length n fd.f) g q (.slice none 0 0)) (by kernel_rfl) ?_
    refine al_s (cs := ncs X n (nodeI x.w.Feds.length n fd.f) g q (.slice none 0 0)) h' rfl fun r w6 h6 => ?_
    have hinit := hwd.init fd.f (List.mem_of_getElem? hwf')
    have hil : fd.Init.length ≤ 4 := hinit.1
    refine hok c1 n fd.f rfl hwf' hmay r _ (node_mk (X := X) (g := g) (q := q) (lv := .slice none 0 0) ⟨hX, shortW hX hs, hwd, by omega, by simp [nodeI], rfl, ⟨by simp [nodeI], by show (fd.Init.length : Int) ≤ _; omega⟩, Nat.le_refl _⟩ ?_)
    have h7 := h6.own_nil 46 7 Done.cs
    rw [hwl]
    exact h7.selR [_, _, _, _, _, _] [_, _, _, _, _] [1, 4, 3, 2, 0] (by decide) rfl
  have o1 : ∀ {l' : List HP} {w'} (j : Nat), Sat e w' l' → l'[j]? = some S → ld1 (.pointer (some p5)) w' (fun v' w'' => v' = fd.iv ∧ w'' = w') := fun j h' hj => ld1_of h' j hj hp5 (v := fd.iv) rfl ⟨rfl, rfl⟩
  have o3 : ∀ {l' : List HP} {w'} (j : Nat), Sat e w' l' → l'[j]? = some S → ld1 (.pointer (some p3)) w' (fun v' w'' => v' = .int .i64 fd.Start ∧ w'' = w') := fun j h' hj => ld1_of h' j hj hp3 (v := .int .i64 fd.Start) rfl ⟨rfl, rfl⟩
  have o2 : ∀ {l' : List HP} {w'} (j : Nat), Sat e w' l' → l'[j]? = some (blk b 39 x.cs) → ld1 (.pointer (some ⟨b, 0 + 1, none⟩)) w' (fun v' w'' => v' = x.fv ∧ w'' = w') := fun j h' hj => ld1_at h' j hj (v := x.fv) rfl ⟨rfl, rfl⟩
  have oN : ∀ {l' : List HP} {w'} (j : Nat), Sat e w' l' → l'[j]? = some (blk b 39 x.cs) → ldN 3 (.pointer (some ⟨b, 0, none⟩)) w' (fun v' w'' => v' = .agg x.cs.toArray ∧ w'' = w') := fun j h' hj => ldN_at h' j hj (vs := x.cs) rfl (by rfl) ⟨rfl, rfl⟩
  have hq5 : ∀ K : KV, K (.agg #[.pointer (some ⟨q, 0, none⟩)]) w5 → bld (zeroD prog 54) #[(0, 1)] [(0, .pointer (some ⟨q, 0, none⟩))] w5 K := fun K h => bld_s [.pointer (some ⟨q, 0, none⟩)] (by kernel_rfl) h
  refine ⟨o1 _ h5 hi5, o2 2 h5 rfl, o3 _ h5 hi5, o2 2 h5 rfl, oN 2 h5 rfl, ?_, ?_⟩
  · refine bld_s [.pointer (some ⟨q, 0, none⟩)] (by kernel_rfl) ⟨o1 _ h5 hi5, o2 2 h5 rfl, o3 _ h5 hi5, o2 2 h5 rfl, oN 2 h5 rfl, ?_⟩
    refine cmb_copied_s (x := x) (i + 3) hi5 h5 hr hs fun X w6 hX h6 => ?_
    have hi6 : (WdOwn X :: IsQ q [] :: IsClk g ⟨List.replicate x.Feds.length 0, n, 0⟩ :: blk b 39 x.cs :: L)[i + 4]? = some S := by simpa using hi
    exact ⟨o1 _ h6 hi6, o2 3 h6 rfl, o3 _ h6 hi6, o2 3 h6 rfl, fin X _ hX h6⟩
  · refine cmb_copied_s (x := x) (i + 3) hi5 h5 hr hs fun X w6 hX h6 => ?_
    have hi6 : (WdOwn X :: IsQ q [] :: IsClk g ⟨List.replicate x.Feds.length 0, n, 0⟩ :: blk b 39 x.cs :: L)[i + 4]? = some S := by simpa using hi
    refine ⟨o1 _ h6 hi6, o2 3 h6 rfl, o3 _ h6 hi6, o2 3 h6 rfl, ?_⟩
    refine bld_s [.pointer (some ⟨q, 0, none⟩)] (by kernel_rfl) ⟨o1 _ h6 hi6, o2 3 h6 rfl, o3 _ h6 hi6, o2 3 h6 rfl, oN 3 h6 rfl, ?_⟩
    exact fin X _ hX h6
end Go.Proofs.YtenglfaeohgkfaaGreat
