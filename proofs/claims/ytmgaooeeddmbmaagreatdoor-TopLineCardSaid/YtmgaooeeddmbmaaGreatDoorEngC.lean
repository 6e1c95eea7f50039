/- The engine, part C: regions, control, and that the whole is sound. Conditions: none. -/
import Derived.Test.YtmgaooeeddmbmaaGreatDoorEngB
namespace Go.E
open Go.RowKit

/-! ### Environments -/
def Ev.opd (ρ : Ev) : Operand → Value
  | .tmp t => ρ t
  | .const v => v
  | .global g => .pointer (some ⟨g, 0, none⟩)
  | .func f => .func (.func f) #[] #[]
def Ev.upd (ρ : Ev) (d : Nat) (v : Value) : Ev := fun t => match Nat.beq t d with | true => v | false => ρ t
def Ev.put (ρ : Ev) : Option Tmp → Value → Ev
  | some d, v => Ev.upd ρ d v
  | none, _ => ρ
def idx (t : Nat) : List Nat → Nat → Option Nat
  | [], _ => none
  | m :: ms, i => match Nat.beq t m with | true => some i | false => idx t ms (i + 1)
def Ev.over (ρ : Ev) (ms : List Nat) (vs : List Value) : Ev := fun t => match idx t ms 0 with | some i => vs.getD i undef | none => ρ t

/-- The act's temporaries are as the environment says, at the slots of the set m. -/
def AgrD (ds : List Deferred) (n m : Nat) (a : Act) (ρ : Ev) : Prop := a.tmps.size = n ∧ a.defers = ds ∧ ∀ t, m.testBit t = true → a.tmps.getD t undef = ρ t

abbrev Agr := AgrD []
variable {ds : List Deferred}
theorem AgrD.mono {n m m' : Nat} {a : Act} {ρ : Ev} (h : AgrD ds n m a ρ) (hm : ∀ t, m'.testBit t = true → m.testBit t = true) : AgrD ds n m' a ρ :=
  ⟨h.1, h.2.1, fun t ht => h.2.2 t (hm t ht)⟩

def bitO : Operand → Nat
  | .tmp t => 2 ^ t
  | _ => 0
def bitsO (l : List Operand) : Nat := l.foldr (fun x m => bitO x ||| m) 0
def gslot (ops : Array Oper) (j : Nat) : Option Nat := (ops[j]?).bind (·.dst)
def gbit (ops : Array Oper) (o : Oper) : Nat :=
  match o.guard with
  | none => 0
  | some (j, _) => match gslot ops j with | some d => 2 ^ d | none => 0
def uses (ops : Array Oper) (o : Oper) : Nat := bitsO o.op.operands.toList ||| gbit ops o
def dbit : Option Tmp → Nat
  | some d => 2 ^ d
  | none => 0
/-- m without the bit of d. -/
def del (m : Nat) (d : Option Tmp) : Nat := m ^^^ (m &&& dbit d)

theorem two_pow_bit (a b : Nat) : (2 ^ a).testBit b = decide (a = b) := Nat.testBit_two_pow

theorem bitsO_mem {l : List Operand} {t : Nat} (h : Operand.tmp t ∈ l) : (bitsO l).testBit t = true := by
  induction l with
  | nil => cases h
  | cons x l ih =>
    simp only [bitsO, List.foldr_cons, Nat.testBit_or, Bool.or_eq_true]
    cases h with
    | head => left; simp [bitO]
    | tail _ h => right; exact ih h

theorem AgrD.opd {n m : Nat} {a : Act} {ρ : Ev} (h : AgrD ds n m a ρ) {l : List Operand} (hl : ∀ t, (bitsO l).testBit t = true → m.testBit t = true) : ∀ x ∈ l, a.eval x = ρ.opd x := by
  intro x hx
  cases x with
  | tmp t => exact h.2.2 t (hl t (bitsO_mem hx))
  | const v => rfl
  | global g => rfl
  | func f => rfl

theorem AgrD.put {n m : Nat} {a : Act} {ρ : Ev} (h : AgrD ds n m a ρ) {d : Option Tmp} {v : Value} (hd : ∀ t, d = some t → t < n) : AgrD ds n (m ||| dbit d) (a.put d v) (ρ.put d v) := by
  obtain ⟨h1, h2, h3⟩ := h
  cases d with
  | none => exact ⟨h1, h2, fun t ht => h3 t (by simpa [dbit] using ht)⟩
  | some d =>
    have hlt := hd d rfl
    refine ⟨by simp [Act.put, h1], h2, fun t ht => ?_⟩
    simp only [Act.put, Ev.put, Ev.upd, dbit, Nat.testBit_or, two_pow_bit, Bool.or_eq_true, decide_eq_true_eq] at ht ⊢
    by_cases e : t = d
    · subst e
      simp [Nat.beq_refl, h1, hlt]
    · have e2 : Nat.beq t d = false := by
        cases hb : Nat.beq t d with
        | false => rfl
        | true => exact absurd (Nat.eq_of_beq_eq_true hb) e
      rw [e2]
      rcases ht with ht | ht
      · rw [← h3 t ht]
        simp [Array.getElem?_setIfInBounds_ne (Ne.symm e)]
      · exact absurd ht.symm e

theorem AgrD.put_del {n m : Nat} {a : Act} {ρ : Ev} {d : Option Tmp} {v : Value} (h : AgrD ds n (del m d) a ρ) (hd : ∀ t, d = some t → t < n) : AgrD ds n m (a.put d v) (ρ.put d v) :=
  (h.put hd).mono fun t ht => by
    simp only [del, Nat.testBit_or, Nat.testBit_xor, Nat.testBit_and, ht, Bool.true_and]
    cases (dbit d).testBit t <;> rfl

def okD (n : Nat) : Option Tmp → Bool
  | some d => decide (d < n)
  | none => true
theorem okD_spec {n : Nat} {d : Option Tmp} (h : okD n d = true) : ∀ t, d = some t → t < n := by
  rintro t rfl
  simpa [okD] using h

/-- ρ' is as ρ but for the slots of m. -/
def Fr (m : Nat) (ρ ρ' : Ev) : Prop := ∀ t, m.testBit t = false → ρ' t = ρ t
theorem Fr.refl (m : Nat) (ρ : Ev) : Fr m ρ ρ := fun _ _ => rfl
theorem Fr.trans {m m' : Nat} {a b c : Ev} (h : Fr m a b) (h' : Fr m' b c) : Fr (m ||| m') a c := fun t ht => by
  simp only [Nat.testBit_or, Bool.or_eq_false_iff] at ht
  exact (h' t ht.2).trans (h t ht.1)
theorem Fr.mono {m m' : Nat} {a b : Ev} (h : Fr m a b) (hm : ∀ t, m.testBit t = true → m'.testBit t = true) : Fr m' a b := fun t ht => h t (by
  cases hx : m.testBit t with
  | false => rfl
  | true => rw [hm t hx] at ht; cases ht)
theorem Fr.put {m : Nat} {a b : Ev} (h : Fr m a b) {d : Option Tmp} (v : Value) (hd : ∀ t, (dbit d).testBit t = true → m.testBit t = true) : Fr m a (b.put d v) := by
  intro t ht
  cases d with
  | none => exact h t ht
  | some d =>
    simp only [Ev.put, Ev.upd]
    cases hb : Nat.beq t d with
    | false => exact h t ht
    | true =>
      have e := Nat.eq_of_beq_eq_true hb
      subst e
      rw [hd t (by simp [dbit])] at ht
      cases ht

/-! ### Guards -/
def wantd : Value → Bool → Bool
  | .bool b, want => b == want
  | _, _ => false
def gval (ops : Array Oper) (ρ : Ev) (j : Nat) : Value := match gslot ops j with | some d => ρ d | none => undef
/-- Under a guard: carried out, or not. -/
def gd (c : Value) (want : Bool) (body : KV → Prop) (w : World) (k : KV) : Prop :=
  (wantd c want = true → body k) ∧ (wantd c want = false → k undef w)

theorem wanted_gval {ops : Array Oper} {n m : Nat} {a : Act} {ρ : Ev} {o : Oper} {j : Nat} {want : Bool} (hg : o.guard = some (j, want)) (h : AgrD ds n m a ρ) (hm : ∀ t, (gbit ops o).testBit t = true → m.testBit t = true) :
    Region.wanted o (yielded ops a.tmps) = wantd (gval ops ρ j) want := by
  unfold Region.wanted
  rw [hg]
  simp only [yielded, gval, gslot]
  cases hs : (ops[j]?).bind (·.dst) with
  | none => simp [wantd, undef]
  | some d =>
    have hb : m.testBit d = true := hm d (by simp [gbit, hg, gslot, hs])
    have he := h.2.2 d hb
    simp only [← he, Option.bind_some, Array.getD_eq_getD_getElem?]
    cases hv : a.tmps[d]? with
    | none => simp [wantd, undef]
    | some v => cases v <;> simp [wantd]

/-- One operation, its guard heeded. -/
def gop (P : Program) (ops : Array Oper) (o : Oper) (ρ : Ev) (w : World) (K : KV) : Prop :=
  match o.guard with
  | none => semOp P o ρ.opd w K
  | some (j, want) => gd (gval ops ρ j) want (fun k => semOp P o ρ.opd w k) w K

/-- The operations in the text's order. -/
def seqOps (P : Program) (ops : Array Oper) (K : Ev → World → Prop) : List Oper → Ev → World → Prop
  | [], ρ, w => K ρ w
  | o :: r, ρ, w => gop P ops o ρ w fun v w' => seqOps P ops K r (ρ.put o.dst v) w'

def noSel (o : Oper) : Bool := match o.op with | .select .. => false | _ => true
theorem noSel_spec {o : Oper} (h : noSel o = true) : ∀ cs b, o.op ≠ .select cs b := by
  intro cs b e
  simp [noSel, e] at h

/-- The fence of everything, out of a round and in one. -/
def fen : Option Nat → Fence
  | none => Fence.wide
  | some l => Fence.wide.inRound l
theorem fen_fn (ro : Option Nat) (f : FuncId) : (fen ro).fn f := by cases ro <;> trivial
theorem fen_round (ro : Option Nat) : (fen ro).round = ro := by cases ro <;> rfl
theorem fen_depth (ro : Option Nat) : (fen ro).depth.isSome = true → 1 ≤ 0 := by cases ro <;> (intro h; cases h)
theorem callsIn_fen {P : Program} (ro : Option Nat) {n : Nat} {f : FuncId} {args : Array Value} {w : World} {R : Ending → World → Prop} (h : Calls P f args w R) : CallsIn (fen ro) n P f args w R := by
  cases ro with
  | none => exact callsIn_wide.2 h
  | some l => exact CallsIn.inRound l (callsIn_wide.2 h)
theorem roundIn_fen {P : Program} (ro : Option Nat) {l : Nat} {f : FuncId} {tmps : Array Value} {as bd : Code} {w : World} {R : Ending → World → Prop} (h : RoundIn Fence.wide 0 P l f tmps as bd w R) : RoundIn (fen ro) 0 P l f tmps as bd w R := by
  cases ro with
  | none => exact h
  | some l => exact h
theorem wp_of_ex {P : Program} {ro : Option Nat} {o : Oper} {a : Act} {w : World} {next : Act → World → Prop} {Q : Exit → Act → World → Prop} {K : KV}
    (h : ex P (execOp a.eval o) w K) (hk : ∀ v w', K v w' → next (a.put o.dst v) w') : o.wpIn (fen ro) 0 P a w next Q := by
  refine ⟨fun f _ => fen_fn ro f, ?_⟩
  have hse : o.semAt (fen ro).round a.eval = execOp a.eval o := by
    refine Oper.semAt_eq _ _ _ fun c hc => ?_
    unfold ex at h
    simp only [execOp, hc, Sem.run_bind] at h
    cases hr : (resolve a.eval c o.type).run P w with
    | ok d w' => rw [hr] at h; simp at h
    | halt x w' => rw [hr] at h; simp at h
  rw [hse]
  unfold ex at h
  generalize (execOp a.eval o).run P w = r at *
  cases r with
  | ok nx w' =>
    cases nx <;> simp only [Oper.uponIn] at h ⊢
    case value v => exact hk _ _ h
    case skip => exact hk _ _ h
    case enter f args => exact ⟨fen_depth ro, callsIn_fen ro (Calls.mono h fun e w'' ⟨v, he, hv⟩ => by subst he; exact hk _ _ hv)⟩
    case round l f tmps as bd => exact ⟨fen_depth ro, roundIn_fen ro (RoundIn.mono h fun e w'' ⟨v, he, hv⟩ => by subst he; exact hk _ _ hv)⟩
  | halt x w' => simp at h

theorem gop_sound {P : Program} {ro : Option Nat} {ops : Array Oper} {n m : Nat} {a : Act} {ρ : Ev} {o : Oper} {w : World} {K : KV} {next : Act → World → Prop} {Q : Exit → Act → World → Prop}
    (ha : AgrD ds n m a ρ) (hs : noSel o = true) (hu : ∀ t, (uses ops o).testBit t = true → m.testBit t = true) (h : gop P ops o ρ w K) (hk : ∀ v w', K v w' → next (a.put o.dst v) w') :
    if Region.wanted o (yielded ops a.tmps) then o.wpIn (fen ro) 0 P a w next Q else next (a.put o.dst undef) w := by
  have e : execOp a.eval o = execOp ρ.opd o := execOp_congr o (noSel_spec hs) (by
    intro x hx
    exact ha.opd (l := o.op.operands.toList) (fun t ht => hu t (by simp [uses, ht])) x (by simpa using hx))
  have run : ∀ K', (∀ v w', K' v w' → K v w') → semOp P o ρ.opd w K' → o.wpIn (fen ro) 0 P a w next Q := fun K' hk' hso =>
    wp_of_ex (K := K') (by rw [e]; exact semOp_sound (fun _ => rfl) (fun _ => rfl) o hso) fun v w' hv => hk _ _ (hk' _ _ hv)
  unfold gop at h
  split at h
  · rename_i hg
    rw [if_pos (by simp [Region.wanted, hg])]
    exact run K (fun _ _ h => h) h
  · rename_i j want hg
    rw [wanted_gval hg ha (fun t ht => hu t (by simp [uses, ht]))]
    obtain ⟨h1, h2⟩ := h
    cases hw : wantd (gval ops ρ j) want with
    | true => rw [if_pos rfl]; exact run K (fun _ _ h => h) (h1 hw)
    | false => rw [if_neg (by simp)]; exact hk _ _ (h2 hw)

/-- What the operations want, that the slots of 'out' be right behind them. -/
def lvOps (ops : Array Oper) : List Oper → Nat → Nat
  | [], out => out
  | o :: r, out => del (lvOps ops r out) o.dst ||| uses ops o

theorem seqOps_sound {P : Program} {ro : Option Nat} {ops : Array Oper} {n out W : Nat} {ρ0 : Ev} {Q : Exit → Act → World → Prop} {K : Ev → World → Prop} (hk : ∀ ρ a w, AgrD ds n out a ρ → Fr W ρ0 ρ → K ρ w → Q .normal a w) :
    ∀ (l : List Oper) (a : Act) (ρ : Ev) (w : World), (∀ o ∈ l, ∀ t, (dbit o.dst).testBit t = true → W.testBit t = true) → l.all (fun o => noSel o && okD n o.dst) = true → AgrD ds n (lvOps ops l out) a ρ → Fr W ρ0 ρ → seqOps P ops K l ρ w → wpListIn (fen ro) 0 P ops Q l a w
  | [], a, ρ, w, _, _, ha, hf, h => hk _ _ _ ha hf h
  | o :: r, a, ρ, w, hW, hs, ha, hf, h => by
    simp only [List.all_cons, Bool.and_eq_true] at hs
    obtain ⟨⟨hs1, hs2⟩, hs3⟩ := hs
    simp only [lvOps] at ha
    have hg := gop_sound (P := P) (ops := ops) (ro := ro) (Q := Q) (next := wpListIn (fen ro) 0 P ops Q r) ha hs1 (fun t ht => by simp [ht]) h
      (fun v w' hv => seqOps_sound hk r (a.put o.dst v) (ρ.put o.dst v) w' (fun o' ho' => hW o' (by simp [ho'])) hs3 ((ha.mono (fun t ht => by simp [ht])).put_del (okD_spec hs2)) (hf.put v (hW o (by simp))) hv)
    unfold wpListIn
    split
    · rename_i hw; rw [if_pos hw] at hg; exact hg
    · rename_i hw; rw [if_neg hw] at hg; exact ⟨fun f _ => fen_fn ro f, hg⟩

/-! ### Regions that draw their order: one order for all -/
/-- An operation that leaves the world alone. -/
def quiet (P : Program) (o : Oper) : Bool :=
  match o.op with
  | .move _ | .assign _ | .pick .. | .load .. | .nilCheck _ | .unOp .not _ _ | .fieldAddr .. | .field .. | .indexAddr .. | .extract .. | .makeFunc .. | .makeInterface .. => true
  | .slice t _ _ _ none => match P.underlying t with | some (.slice _) => true | _ => false
  | .binOp op t _ y _ => match P.underlying t, op with
    | some (.int _), .add | some (.int _), .sub | some (.int _), .mul | some (.int _), .quo | some (.int _), .rem | some (.int _), .eql | some (.int _), .neq | some (.int _), .lss | some (.int _), .leq | some (.int _), .gtr | some (.int _), .geq => true
    | some .bool, .eql | some .bool, .neq => true
    | some (.pointer _), .eql | some (.pointer _), .neq => match y with | .const (.pointer none) => true | _ => false
    | _, _ => false
  | .convert s d _ => match P.underlying s, P.underlying d with | some (.int _), some (.int _) => true | _, _ => false
  | .call c => match c.callee with
    | .builtin .len => match c.args.toList, c.argTypes.toList with
      | [_], [t] => match P.underlying t with | some (.slice _) => true | some .string => true | _ => false
      | _, _ => false
    | _ => false
  | _ => false

/-- Does what it yields hang on the world? -/
def reads (o : Oper) : Bool := match o.op with | .load .. => true | _ => false

/-- What an operation yields in this world, the world left alone. -/
def pureAt (P : Program) (ops : Array Oper) (o : Oper) (ρ : Ev) (w : World) (v : Value) : Prop := gop P ops o ρ w fun v' w' => v' = v ∧ w' = w

section
variable {P : Program} {f : Operand → Value} {w : World} {K : KV}
/-- A quiet operation: one value, the world as it was; and where it reads nothing, in every world. -/
theorem quiet_spec (o : Oper) (hq : quiet P o = true) (h : semOp P o f w K) :
    ∃ v, K v w ∧ semOp P o f w (fun v' w' => v' = v ∧ w' = w) ∧ (reads o = false → ∀ w2, semOp P o f w2 (fun v' w' => v' = v ∧ w' = w2)) := by
  obtain ⟨dst, op, ty, pos, af, g⟩ := o
  cases op with
  | move x => exact ⟨_, h, ⟨rfl, rfl⟩, fun _ _ => ⟨rfl, rfl⟩⟩
  | assign x => exact ⟨_, h, ⟨rfl, rfl⟩, fun _ _ => ⟨rfl, rfl⟩⟩
  | pick c a b => obtain ⟨q, h1, hk⟩ := h; exact ⟨_, hk, ⟨q, h1, rfl, rfl⟩, fun _ _ => ⟨q, h1, rfl, rfl⟩⟩
  | load t a =>
    refine (?_ : ∃ v, K v w ∧ semOp P _ f w (fun v' w' => v' = v ∧ w' = w)) |> fun ⟨v, h1, h2⟩ => ⟨v, h1, h2, fun hr => by cases hr⟩
    unfold semOp at h ⊢
    simp only at h ⊢
    split at h
    · rename_i h1 h2
      obtain ⟨a', vs, hx, hn, hc, hk⟩ := h; exact ⟨_, hk, a', vs, hx, hn, hc, rfl, rfl⟩
    · rename_i h1 h2
      obtain ⟨a', v, hx, hc, hk⟩ := h; exact ⟨_, hk, a', v, hx, hc, rfl, rfl⟩
    · exact h.elim
  | nilCheck x => exact ⟨_, h.2, ⟨h.1, rfl, rfl⟩, fun _ _ => ⟨h.1, rfl, rfl⟩⟩
  | binOp op t x y u =>
    have e1 : ∀ op k, bi op k (f x) (f y) w K → ∃ v, K v w ∧ bi op k (f x) (f y) w (fun v' w' => v' = v ∧ w' = w) ∧ (False = False → ∀ w2, bi op k (f x) (f y) w2 (fun v' w' => v' = v ∧ w' = w2)) :=
      fun op k ⟨a, b, h1, h2, h3, hk⟩ => ⟨_, hk, ⟨a, b, h1, h2, h3, rfl, rfl⟩, fun _ _ => ⟨a, b, h1, h2, h3, rfl, rfl⟩⟩
    have e2 : ∀ op, bb op (f x) (f y) w K → ∃ v, K v w ∧ bb op (f x) (f y) w (fun v' w' => v' = v ∧ w' = w) ∧ (False = False → ∀ w2, bb op (f x) (f y) w2 (fun v' w' => v' = v ∧ w' = w2)) :=
      fun op ⟨a, b, h1, h2, hk⟩ => ⟨_, hk, ⟨a, b, h1, h2, rfl, rfl⟩, fun _ _ => ⟨a, b, h1, h2, rfl, rfl⟩⟩
    have e3 : ∀ op, bn op (f x) w K → ∃ v, K v w ∧ bn op (f x) w (fun v' w' => v' = v ∧ w' = w) ∧ (False = False → ∀ w2, bn op (f x) w2 (fun v' w' => v' = v ∧ w' = w2)) :=
      fun op ⟨a, h1, hk⟩ => ⟨_, hk, ⟨a, h1, rfl, rfl⟩, fun _ _ => ⟨a, h1, rfl, rfl⟩⟩
    simp only [quiet] at hq
    simp only [semOp, reads, forall_const] at h ⊢
    simp only [forall_const] at e1 e2 e3
    cases hu : P.underlying t with
    | none => rw [hu] at hq; simp at hq
    | some d =>
      rw [hu] at hq h
      cases d <;> cases op <;> simp only [Bool.false_eq_true] at hq
      all_goals first
        | exact e1 _ _ h
        | exact e2 _ h
        | skip
      all_goals
        split at hq
        · exact e3 _ h
        · cases hq
  | unOp op t x => cases op <;> first | (cases hq; done) | (obtain ⟨q, h1, hk⟩ := h; exact ⟨_, hk, ⟨q, h1, rfl, rfl⟩, fun _ _ => ⟨q, h1, rfl, rfl⟩⟩)
  | convert s d x =>
    simp only [quiet] at hq
    simp only [semOp, reads, forall_const] at h ⊢
    cases h1 : P.underlying s with
    | none => rw [h1] at hq; simp at hq
    | some s' =>
      cases h2 : P.underlying d with
      | none => rw [h1, h2] at hq; cases s' <;> simp at hq
      | some d' =>
        rw [h1, h2] at hq h
        cases s' <;> cases d' <;> simp only [Bool.false_eq_true] at hq
        obtain ⟨j, n, h1, hk⟩ := h; exact ⟨_, hk, ⟨j, n, h1, rfl, rfl⟩, fun _ => ⟨j, n, h1, rfl, rfl⟩⟩
  | makeInterface t x =>
    simp only [semOp, reads, forall_const] at h ⊢
    cases h1 : P.underlying t with
    | none => rw [h1] at h; exact h.elim
    | some d =>
      rw [h1] at h
      cases d <;> first | exact h.elim | exact ⟨_, h, by simp⟩
  | makeFunc fn first captured => exact ⟨_, h, ⟨rfl, rfl⟩, fun _ _ => ⟨rfl, rfl⟩⟩
  | slice t x lo hi mx => cases mx with
    | some m => cases hq
    | none =>
      unfold semOp at h ⊢
      simp only at h ⊢
      split at h
      · split at h
        · obtain ⟨a, n, c, l, hh, h1, h2, h3, h4, h5, hk⟩ := h
          exact ⟨_, hk, ⟨a, n, c, l, hh, h1, h2, h3, h4, h5, rfl, rfl⟩, fun _ _ => ⟨a, n, c, l, hh, h1, h2, h3, h4, h5, rfl, rfl⟩⟩
        · exact h.elim
      · rename_i hne
        simp only [quiet] at hq
        cases hq
  | fieldAddr s x n =>
    simp only [semOp, reads, forall_const] at h ⊢
    cases h1 : fieldOf P s n with
    | none => rw [h1] at h; exact h.elim
    | some fd =>
      simp only [h1] at h
      cases h2 : okT P fd.type <;> cases h3 : decide (szD P fd.type = 0) <;> simp only [h2, h3] at h ⊢ <;> first | exact h.elim | skip
      obtain ⟨a, h1, hk⟩ := h; exact ⟨_, hk, ⟨a, h1, rfl, rfl⟩, fun _ => ⟨a, h1, rfl, rfl⟩⟩
  | field s x n =>
    simp only [semOp, reads, forall_const] at h ⊢
    cases h1 : fieldOf P s n with
    | none => rw [h1] at h; exact h.elim
    | some fd =>
      simp only [h1] at h
      cases h2 : okT P fd.type <;> cases h3 : isAggT P fd.type <;> simp only [h2, h3] at h ⊢ <;> first | exact h.elim | skip
      · obtain ⟨a, v, h1, h4, hk⟩ := h; exact ⟨_, hk, ⟨a, v, h1, h4, rfl, rfl⟩, fun _ => ⟨a, v, h1, h4, rfl, rfl⟩⟩
      · obtain ⟨a, h1, hk⟩ := h; exact ⟨_, hk, ⟨a, h1, rfl, rfl⟩, fun _ => ⟨a, h1, rfl, rfl⟩⟩
  | indexAddr t x i =>
    simp only [semOp, reads, forall_const] at h ⊢
    split at h
    · split at h
      · obtain ⟨a, n, c, k, j, h1, h2, h3, h4, hk⟩ := h; exact ⟨_, hk, ⟨a, n, c, k, j, h1, h2, h3, h4, rfl, rfl⟩, fun _ => ⟨a, n, c, k, j, h1, h2, h3, h4, rfl, rfl⟩⟩
      · exact h.elim
    · split at h
      · obtain ⟨a, k, j, h1, h2, h3, h4, hk⟩ := h; exact ⟨_, hk, ⟨a, k, j, h1, h2, h3, h4, rfl, rfl⟩, fun _ => ⟨a, k, j, h1, h2, h3, h4, rfl, rfl⟩⟩
      · exact h.elim
    · exact h.elim
  | extract x i => obtain ⟨vs, v, h1, h2, hk⟩ := h; exact ⟨_, hk, ⟨vs, v, h1, h2, rfl, rfl⟩, fun _ _ => ⟨vs, v, h1, h2, rfl, rfl⟩⟩
  | call c =>
    obtain ⟨callee, args, argTypes⟩ := c
    simp only [quiet] at hq
    simp only [semOp, reads, forall_const] at h ⊢
    cases callee with
    | builtin b =>
      cases b <;> simp only [Bool.false_eq_true] at hq
      split at hq
      · rename_i x t ha ht
        simp only [ha, ht] at h ⊢
        cases hu : P.underlying t with
        | none => rw [hu] at hq; simp at hq
        | some d =>
          rw [hu] at hq h
          cases d <;> simp only [Bool.false_eq_true] at hq
          · obtain ⟨s, h1, hk⟩ := h; exact ⟨_, hk, ⟨s, h1, rfl, rfl⟩, fun _ => ⟨s, h1, rfl, rfl⟩⟩
          · obtain ⟨a, n, c, h1, hk⟩ := h; exact ⟨_, hk, ⟨a, n, c, h1, rfl, rfl⟩, fun _ => ⟨a, n, c, h1, rfl, rfl⟩⟩
      · cases hq
    | _ => simp at hq
  | _ => cases hq
end

section
variable {P : Program} {ops : Array Oper}

theorem gop_quiet {o : Oper} {ρ : Ev} {w : World} {K : KV} (hq : quiet P o = true) (h : gop P ops o ρ w K) :
    ∃ v, K v w ∧ gop P ops o ρ w (fun v' w' => v' = v ∧ w' = w) ∧ (reads o = false → ∀ w2, gop P ops o ρ w2 (fun v' w' => v' = v ∧ w' = w2)) := by
  unfold gop at h ⊢
  split at h
  · rename_i hg
    exact quiet_spec o hq h
  · rename_i j want hg
    unfold gd at h ⊢
    cases hw : wantd (gval ops ρ j) want with
    | true =>
      obtain ⟨v, h1, h2, h3⟩ := quiet_spec o hq (h.1 hw)
      exact ⟨v, h1, ⟨fun _ => h2, fun e => by cases e⟩, fun hr w2 => ⟨fun _ => h3 hr w2, fun e => by cases e⟩⟩
    | false => exact ⟨undef, h.2 hw, ⟨(fun e => by cases e), fun _ => ⟨rfl, rfl⟩⟩, fun _ _ => ⟨(fun e => by cases e), fun _ => ⟨rfl, rfl⟩⟩⟩

/-- Who must have come up ahead, as a mask: one row, all rows. -/
def ancRow (ms : List Nat) (o : Oper) : Nat := o.after.toList.foldl (fun m e => match Region.binds .any e with | true => m ||| (1 <<< e.on) ||| ms.getD e.on 0 | false => m) 0
def ancM : List Oper → List Nat → List Nat
  | [], ms => ms
  | o :: l, ms => ancM l (ms ++ [ancRow ms o])
/-- Is operation i among those that must have come up ahead of j? -/
def anc (ops : Array Oper) (_n i j : Nat) : Bool := ((ancM ops.toList []).getD j 0).testBit i

def Down (ops : Array Oper) (listed : Array Bool) : Prop :=
  ∀ k o, ops[k]? = some o → listed.getD k true = true → ∀ e ∈ o.after, Region.binds .any e = true → listed.getD e.on false = true

theorem ancRow_spec {ms : List Nat} {o : Oper} {i : Nat} (h : (ancRow ms o).testBit i = true) : ∃ e ∈ o.after, Region.binds .any e = true ∧ (e.on = i ∨ (ms.getD e.on 0).testBit i = true) := by
  have key : ∀ (l : List Edge) (acc : Nat), (l.foldl (fun m e => match Region.binds .any e with | true => m ||| (1 <<< e.on) ||| ms.getD e.on 0 | false => m) acc).testBit i = true →
      acc.testBit i = true ∨ ∃ e ∈ l, Region.binds .any e = true ∧ (e.on = i ∨ (ms.getD e.on 0).testBit i = true) := by
    intro l
    induction l with
    | nil => intro acc h; exact .inl h
    | cons e l ih =>
      intro acc h
      simp only [List.foldl_cons] at h
      rcases ih _ h with h | ⟨e', he', h⟩
      · cases hb : Region.binds .any e with
        | false => rw [hb] at h; exact .inl h
        | true =>
          rw [hb] at h
          simp only [Nat.testBit_or, Bool.or_eq_true] at h
          rcases h with (h | h) | h
          · exact .inl h
          · refine .inr ⟨e, by simp, hb, .inl ?_⟩
            rw [Nat.one_shiftLeft, Nat.testBit_two_pow] at h
            simpa using h
          · exact .inr ⟨e, by simp, hb, .inr h⟩
      · exact .inr ⟨e', by simp [he'], h⟩
  rcases key _ _ h with h | ⟨e, he, h⟩
  · simp at h
  · exact ⟨e, by simpa using he, h⟩
theorem anc_listed {listed : Array Bool} (hd : Down ops listed) (n i j : Nat) (hj : j ∈ Region.ready .any ops listed ∨ listed.getD j false = true) (h : anc ops n i j = true) : listed.getD i false = true := by
  have hedge : ∀ (j : Nat) (o : Oper), ops[j]? = some o → (j ∈ Region.ready .any ops listed ∨ listed.getD j false = true) → ∀ e ∈ o.after, Region.binds .any e = true → listed.getD e.on false = true := by
    intro j o ho hj e he hb
    rcases hj with hj | hj
    · obtain ⟨hjun, oj, hoj, hall⟩ := mem_ready.1 hj
      rw [ho] at hoj
      cases hoj
      exact hall e he hb
    · refine hd j o ho ?_ e he hb
      rw [Array.getD_eq_getD_getElem?] at hj ⊢
      cases hx : listed[j]? <;> simp_all
  have key : ∀ (l : List Oper) (ms : List Nat), (∀ k o, l[k]? = some o → ops[ms.length + k]? = some o) →
      (∀ j m, ms[j]? = some m → ∀ i, m.testBit i = true → (j ∈ Region.ready .any ops listed ∨ listed.getD j false = true) → listed.getD i false = true) →
      ∀ j m, (ancM l ms)[j]? = some m → ∀ i, m.testBit i = true → (j ∈ Region.ready .any ops listed ∨ listed.getD j false = true) → listed.getD i false = true := by
    intro l
    induction l with
    | nil => intro ms _ hG; exact hG
    | cons o l ih =>
      intro ms hl hG
      refine ih (ms ++ [ancRow ms o]) (fun k o' hk => ?_) (fun j m hm i hi hj => ?_)
      · have := hl (k + 1) o' (by simpa using hk)
        rw [List.length_append, List.length_singleton, Nat.add_assoc, Nat.add_comm 1 k]
        exact this
      · by_cases hlt : j < ms.length
        · rw [List.getElem?_append_left hlt] at hm
          exact hG j m hm i hi hj
        · have hje : j = ms.length := by
            have := (List.getElem?_eq_some_iff.1 hm).1
            simp at this
            omega
          subst hje
          rw [List.getElem?_append_right (Nat.le_refl _), Nat.sub_self] at hm
          simp at hm
          subst hm
          obtain ⟨e, he, hb, h⟩ := ancRow_spec hi
          have ho : ops[ms.length]? = some o := by simpa using hl 0 o rfl
          have hon := hedge _ o ho hj e he hb
          rcases h with rfl | h
          · exact hon
          · rw [List.getD_eq_getElem?_getD] at h
            cases hx : ms[e.on]? with
            | none => rw [hx] at h; simp at h
            | some m' => rw [hx] at h; exact hG e.on m' hx i h (.inr hon)
  unfold anc at h
  rw [List.getD_eq_getElem?_getD] at h
  cases hx : (ancM ops.toList [])[j]? with
  | none => rw [hx] at h; simp at h
  | some m => rw [hx] at h; exact key ops.toList [] (fun k o hk => by simpa using hk) (fun j m hm => by simp at hm) j m hx i h hj

theorem Down.set {listed : Array Bool} (hd : Down ops listed) {j : Nat} (hj : j ∈ Region.ready .any ops listed) : Down ops (listed.setIfInBounds j true) := by
  intro k o hk hl e he hb
  refine getD_set_true ?_
  by_cases hkj : j = k
  · subst hkj
    obtain ⟨hjun, oj, hoj, hall⟩ := mem_ready.1 hj
    rw [hk] at hoj
    cases hoj
    exact hall e he hb
  · rw [getD_set_ne true hkj] at hl
    exact hd k o hk hl e he hb

/-- Two operations apart: what the one left makes no odds to the other. -/
theorem wpOp_comm {Q : Exit → Act → World → Prop} {j : Nat} {oi oj : Oper} {v : Value} (hj : ops[j]? = some oj) (hap : oi.apart ops oj = true)
    (hsi : ∀ cs b, oi.op ≠ .select cs b) (hsj : ∀ cs b, oj.op ≠ .select cs b)
    (hQ : ∀ c a w, Q (.panic c) (a.put oi.dst v) w → Q (.panic c) a w) {K : Act → World → Prop} {a : Act} {w : World}
    (h : wpOpIn (fen none) 0 P ops Q j K (a.put oi.dst v) w) :
    wpOpIn (fen none) 0 P ops Q j (fun a' w' => (execOp a'.eval oi = execOp a.eval oi ∧ Region.wanted oi (yielded ops a'.tmps) = Region.wanted oi (yielded ops a.tmps)) ∧ K (a'.put oi.dst v) w') a w := by
  obtain ⟨h1, h2, h3⟩ := Oper.apart_spec hap
  have keep : ∀ (a0 : Act), (execOp a0.eval oi = execOp a.eval oi ∧ Region.wanted oi (yielded ops a0.tmps) = Region.wanted oi (yielded ops a.tmps)) →
      ∀ u, (execOp (a0.put oj.dst u).eval oi = execOp a.eval oi ∧ Region.wanted oi (yielded ops (a0.put oj.dst u).tmps) = Region.wanted oi (yielded ops a.tmps)) := fun a0 hy u =>
    ⟨(execOp_put oi hsi a0 oj.dst u h3).trans hy.1, (wanted_put oi a0 oj.dst u h3).trans hy.2⟩
  unfold wpOpIn at *
  simp only [hj] at *
  rw [wanted_put oj a oi.dst v h1] at h
  split
  · rename_i hw
    simp only [hw, if_true] at h
    unfold Oper.wpIn at *
    refine ⟨fun f _ => fen_fn none f, ?_⟩
    replace h := h.2
    have hse : ∀ ρ, oj.semAt (fen none).round ρ = execOp ρ oj := fun _ => rfl
    rw [hse] at h ⊢
    rw [execOp_put oj hsj a oi.dst v h1] at h
    generalize (execOp a.eval oj).run P w = r at *
    cases r with
    | ok n w' =>
      cases n <;> simp only [Oper.uponIn] at h ⊢
      case value u => exact ⟨keep a ⟨rfl, rfl⟩ u, by rw [← Act.put_comm a v u h2]; exact h⟩
      case skip => exact ⟨keep a ⟨rfl, rfl⟩ _, by rw [← Act.put_comm a v undef h2]; exact h⟩
      case defer d =>
        refine ⟨keep { a with defers := d :: a.defers } ⟨rfl, rfl⟩ _, ?_⟩
        rw [← Act.put_comm _ v undef h2, ← Act.put_defers]
        exact h
      case enter f args =>
        refine ⟨h.1, CallsIn.mono h.2 fun e w'' he => ?_⟩
        cases e with
        | returned u => exact ⟨keep a ⟨rfl, rfl⟩ u, by rw [← Act.put_comm a v u h2]; exact he⟩
        | panicked c => exact hQ _ _ _ he
        | outgrown => exact he
      case row row args => exact ⟨h.1, RowsIn.mono h.2 fun u w'' he => ⟨keep a ⟨rfl, rfl⟩ u, by rw [← Act.put_comm a v u h2]; exact he⟩⟩
      case round l f tmps assign body =>
        refine ⟨h.1, RoundIn.mono h.2 fun e w'' he => ?_⟩
        cases e with
        | returned u => exact ⟨keep a ⟨rfl, rfl⟩ u, by rw [← Act.put_comm a v u h2]; exact he⟩
        | panicked c => exact hQ _ _ _ he
        | outgrown => exact he
    | halt x w' =>
      cases x <;> simp only [Oper.uponIn] at h ⊢
      case panic u => exact hQ _ _ _ h
  · rename_i hw
    simp only [hw] at h
    exact ⟨fun f _ => fen_fn none f, keep a ⟨rfl, rfl⟩ _, by rw [← Act.put_comm a v undef h2]; exact h.2⟩

/-- Whatever order is picked; behind a quiet operation the world is as it was, behind another one S holds. -/
def wpAnyS (P : Program) (ops : Array Oper) (Q : Exit → Act → World → Prop) (qt : Nat → Bool) (S : Nat → World → Prop) : Nat → Array Bool → Act → World → Prop
  | 0, listed, a, w => Region.ready .any ops listed = [] ∧ Q .normal a w
  | n + 1, listed, a, w =>
    (Region.ready .any ops listed = [] → Q .normal a w) ∧
    ∀ j ∈ Region.ready .any ops listed, wpOpIn (fen none) 0 P ops Q j (fun a' w' => (qt j = true → w' = w) ∧ (qt j = false → S j w') ∧ wpAnyS P ops Q qt S n (listed.setIfInBounds j true) a' w') a w

variable {Q : Exit → Act → World → Prop} {qt : Nat → Bool}
theorem wpAny_of_S {S : Nat → World → Prop} : ∀ (n : Nat) (listed : Array Bool) (a : Act) (w : World), wpAnyS P ops Q qt S n listed a w → wpAnyIn (fen none) 0 P .any ops Q n listed a w
  | 0, _, _, _, h => h
  | n + 1, _, _, _, h => ⟨h.1, fun i hi => wpOpIn_mono (fun a' w' h' => wpAny_of_S n _ a' w' h'.2.2) (h.2 i hi)⟩
theorem wpAnyS_mono {S S' : Nat → World → Prop} (hs : ∀ j w, S j w → S' j w) : ∀ (n : Nat) (listed : Array Bool) (a : Act) (w : World), wpAnyS P ops Q qt S n listed a w → wpAnyS P ops Q qt S' n listed a w
  | 0, _, _, _, h => h
  | n + 1, _, _, _, h => ⟨h.1, fun i hi => wpOpIn_mono (fun a' w' h' => ⟨h'.1, fun q => hs _ _ (h'.2.1 q), wpAnyS_mono hs n _ a' w' h'.2.2⟩) (h.2 i hi)⟩

/-- What operation oi, taken in state a, yields in a world: v, the world left alone. -/
def Yl (P : Program) (ops : Array Oper) (oi : Oper) (v : Value) (a : Act) (w : World) : Prop :=
  if Region.wanted oi (yielded ops a.tmps) then ex P (execOp a.eval oi) w (fun v' w' => v' = v ∧ w' = w) else v = undef

theorem wpOp_Yl {i : Nat} {oi : Oper} {v : Value} {a : Act} {w : World} (hi : ops[i]? = some oi) (h : Yl P ops oi v a w) {K : Act → World → Prop} (hk : K (a.put oi.dst v) w) : wpOpIn (fen none) 0 P ops Q i K a w := by
  unfold wpOpIn
  simp only [hi]
  unfold Yl at h
  split
  · rename_i hw
    rw [if_pos hw] at h
    exact wp_of_ex h fun v' w' ⟨h1, h2⟩ => by subst h1; subst h2; exact hk
  · rename_i hw
    rw [if_neg hw] at h
    subst h
    exact ⟨fun f _ => fen_fn none f, hk⟩

theorem wpAnyS_first {N i : Nat} {oi : Oper} {v : Value} {S S' : Nat → World → Prop} {T : World → Prop} (hi : ops[i]? = some oi) (hqi : qt i = true) (hsel : ∀ (j : Nat) (o : Oper) cs b, ops[j]? = some o → o.op ≠ .select cs b)
    (hQ : ∀ c a w, Q (.panic c) (a.put oi.dst v) w → Q (.panic c) a w) (hST : ∀ j w, anc ops N i j = false → S j w → T w) (hSS : ∀ j w, S j w → S' j w) :
    ∀ (n : Nat) (listed : Array Bool) (a : Act) (w : World), Down ops listed →
      (∀ j oj, ops[j]? = some oj → j ≠ i → listed.getD j true = false → (∀ e ∈ oj.after, Region.binds .any e = true → e.on ≠ i) → oi.apart ops oj = true) →
      i ∈ Region.ready .any ops listed → (∀ w, T w → Yl P ops oi v a w) → T w →
      wpAnyS P ops Q qt S n (listed.setIfInBounds i true) (a.put oi.dst v) w → wpAnyS P ops Q qt S' (n + 1) listed a w := by
  intro n
  induction n with
  | zero =>
    intro listed a w hd _ hr hy hT H
    refine ⟨fun h => (by rw [h] at hr; cases hr), fun j hj => ?_⟩
    by_cases hji : j = i
    · subst hji; exact wpOp_Yl hi (hy w hT) ⟨fun _ => rfl, fun q => absurd (hqi.symm.trans q) (by simp), H⟩
    · have := ready_mono hj hji
      rw [H.1] at this
      cases this
  | succ n ih =>
    intro listed a w hd hfree hr hy hT H
    refine ⟨fun h => (by rw [h] at hr; cases hr), fun j hj => ?_⟩
    by_cases hji : j = i
    · subst hji; exact wpOp_Yl hi (hy w hT) ⟨fun _ => rfl, fun q => absurd (hqi.symm.trans q) (by simp), wpAnyS_mono hSS _ _ _ _ H⟩
    · have h1 := H.2 j (ready_mono hj hji)
      obtain ⟨hjun, oj, hoj, hall⟩ := mem_ready.1 hj
      have hiun : listed.getD i true = false := (mem_ready.1 hr).1
      have hif : listed.getD i false = false := by
        rw [Array.getD_eq_getD_getElem?] at hiun ⊢
        cases hx : listed[i]? <;> simp_all
      have hnot : ∀ e ∈ oj.after, Region.binds .any e = true → e.on ≠ i := fun e he hb heq => by
        have h1 := hall e he hb
        rw [heq, hif] at h1
        cases h1
      have hanc : anc ops N i j = false := by
        cases ha : anc ops N i j with
        | false => rfl
        | true => have := anc_listed hd N i j (.inl hj) ha; rw [hif] at this; cases this
      have h2 := wpOp_comm hoj (hfree j oj hoj hji hjun hnot) (fun cs b => hsel i oi cs b hi) (fun cs b => hsel j oj cs b hoj) hQ h1
      have hfree' : ∀ k ok, ops[k]? = some ok → k ≠ i → (listed.setIfInBounds j true).getD k true = false →
          (∀ e ∈ ok.after, Region.binds .any e = true → e.on ≠ i) → oi.apart ops ok = true := fun k ok hk hki hun hno => by
        refine hfree k ok hk hki ?_ hno
        by_cases hjk : j = k
        · subst hjk; exact hjun
        · rw [getD_set_ne true hjk] at hun; exact hun
      refine wpOpIn_mono (fun a' w' h3 => ⟨h3.2.1, fun q => hSS _ _ (h3.2.2.1 q), ?_⟩) h2
      obtain ⟨⟨e1, e2⟩, h4, h5, h6⟩ := h3
      refine ih (listed.setIfInBounds j true) a' w' (hd.set hj) hfree' (ready_mono hr (Ne.symm hji)) (fun w3 h7 => ?_) ?_ ?_
      · have := hy w3 h7
        unfold Yl at this ⊢
        rw [e1, e2]
        exact this
      · cases hq : qt j with
        | true => rw [h4 hq]; exact hT
        | false => exact hST j w' hanc (h5 hq)
      · rw [Array.setIfInBounds_comm _ _ hji]
        exact h6

def quietAt (P : Program) (ops : Array Oper) (i : Nat) : Bool := match ops[i]? with | some o => quiet P o | none => false

/-- What is owed behind operation j. -/
def owed (ops : Array Oper) (j : Nat) (w : World) (rest : Prop) : List (Nat × (World → Prop)) → Prop
  | [] => rest
  | (i, T) :: l => match anc ops ops.size i j with
    | true => owed ops j w rest l
    | false => T w ∧ owed ops j w rest l

/-- Of all of some. -/
def allP : List Nat → (Nat → Prop) → Prop
  | [], _ => True
  | [i], f => f i
  | i :: j :: l, f => f i ∧ allP (j :: l) f
theorem allP_mem {f : Nat → Prop} : ∀ {l : List Nat}, allP l f → ∀ i ∈ l, f i
  | [], _, _, h => by cases h
  | [_], h, _, hi => by simp at hi; subst hi; exact h
  | a :: b :: l, h, i, hi => by
    cases hi with
    | head => exact h.1
    | tail _ hi => exact allP_mem (l := b :: l) h.2 i hi
/-- The one order: quiet ones first; of those that act, each that is ready may be next. -/
def drawW (P : Program) (ops : Array Oper) (K : Ev → World → Prop) : Nat → Array Bool → List (Nat × (World → Prop)) → Ev → World → Prop
  | 0, _, _, ρ, w => K ρ w
  | n + 1, listed, tk, ρ, w =>
    match (Region.ready .any ops listed).find? (quietAt P ops) with
    | some i => match ops[i]? with
      | some o => gop P ops o ρ w fun v _ => drawW P ops K n (listed.setIfInBounds i true) (match reads o with | true => (i, fun w' => gop P ops o ρ w' fun v' w'' => v' = v ∧ w'' = w') :: tk | false => tk) (ρ.put o.dst v) w
      | none => False
    | none => match Region.ready .any ops listed with
      | [] => K ρ w
      | i :: l => allP (i :: l) fun i => match ops[i]? with
        | some o => gop P ops o ρ w fun v w' => owed ops i w' (drawW P ops K n (listed.setIfInBounds i true) tk (ρ.put o.dst v) w') tk
        | none => False

def sub (m A : Nat) : Bool := Nat.beq (m &&& A) m
theorem sub_spec {m A : Nat} (h : sub m A = true) : ∀ t, m.testBit t = true → A.testBit t = true := by
  intro t ht
  have := Nat.eq_of_beq_eq_true h
  rw [← this, Nat.testBit_and, Bool.and_eq_true] at ht
  exact ht.2

/-- The static side of it. -/
def drawOk (P : Program) (ops : Array Oper) (nt out : Nat) : Nat → Array Bool → Nat → Bool
  | 0, listed, A => (Region.ready .any ops listed).isEmpty && sub out A
  | n + 1, listed, A =>
    match (Region.ready .any ops listed).find? (quietAt P ops) with
    | some i => match ops[i]? with
      | some o => okD nt o.dst && sub (uses ops o) A && Region.free .any ops listed i && drawOk P ops nt out n (listed.setIfInBounds i true) (A ||| dbit o.dst)
      | none => false
    | none => match Region.ready .any ops listed with
      | [] => sub out A
      | i :: l => (i :: l).all fun i => match ops[i]? with
        | some o => okD nt o.dst && sub (uses ops o) A && drawOk P ops nt out n (listed.setIfInBounds i true) (A ||| dbit o.dst)
        | none => false

/-- The real conditions behind j: of all that were taken, the reading ones and the others. -/
def SofT (ops : Array Oper) (tk : List (Nat × (World → Prop))) (j : Nat) (w : World) : Prop := ∀ x ∈ tk, anc ops ops.size x.1 j = false → x.2 w

theorem owed_spec {j : Nat} {w : World} {rest : Prop} : ∀ (l : List (Nat × (World → Prop))), owed ops j w rest l → SofT ops l j w ∧ rest
  | [], h => ⟨(fun _ h => by cases h), h⟩
  | (i, T) :: l, h => by
    unfold owed at h
    split at h
    · rename_i ha
      obtain ⟨h1, h2⟩ := owed_spec l h
      refine ⟨fun x hx hb => ?_, h2⟩
      cases hx with
      | head => rw [ha] at hb; cases hb
      | tail _ hx => exact h1 x hx hb
    · obtain ⟨h0, h⟩ := h
      obtain ⟨h1, h2⟩ := owed_spec l h
      refine ⟨fun x hx hb => ?_, h2⟩
      cases hx with
      | head => exact h0
      | tail _ hx => exact h1 x hx hb

theorem gop_Yl {n m : Nat} {a : Act} {ρ : Ev} {o : Oper} {v : Value} {w : World} (ha : AgrD ds n m a ρ) (hs : noSel o = true) (hu : ∀ t, (uses ops o).testBit t = true → m.testBit t = true)
    (h : gop P ops o ρ w fun v' w' => v' = v ∧ w' = w) : Yl P ops o v a w := by
  have e : execOp a.eval o = execOp ρ.opd o := execOp_congr o (noSel_spec hs) (by
    intro x hx
    exact ha.opd (l := o.op.operands.toList) (fun t ht => hu t (by simp [uses, ht])) x (by simpa using hx))
  unfold Yl
  unfold gop at h
  split at h
  · rename_i hg
    rw [if_pos (by simp [Region.wanted, hg]), e]
    exact semOp_sound (fun _ => rfl) (fun _ => rfl) o h
  · rename_i j want hg
    rw [wanted_gval hg ha (fun t ht => hu t (by simp [uses, ht]))]
    obtain ⟨h1, h2⟩ := h
    cases hw : wantd (gval ops ρ j) want with
    | true => rw [if_pos rfl, e]; exact semOp_sound (fun _ => rfl) (fun _ => rfl) o (h1 hw)
    | false => rw [if_neg (by simp)]; exact (h2 hw).1.symm

theorem draw_sound {K : Ev → World → Prop} {nt out W : Nat} {ρ0 : Ev} (hW : ∀ o ∈ ops, ∀ t, (dbit o.dst).testBit t = true → W.testBit t = true) (hs : ops.all noSel = true) (hQ : ∀ c a w, ¬ Q (.panic c) a w) (hk : ∀ ρ a w, AgrD ds nt out a ρ → Fr W ρ0 ρ → K ρ w → Q .normal a w) :
    ∀ (n : Nat) (listed : Array Bool) (tk : List (Nat × (World → Prop))) (A : Nat) (a : Act) (ρ : Ev) (w : World), Down ops listed → drawOk P ops nt out n listed A = true → AgrD ds nt A a ρ → Fr W ρ0 ρ →
      drawW P ops K n listed tk ρ w → wpAnyS P ops Q (quietAt P ops) (SofT ops tk) n listed a w := by
  have hsel : ∀ (j : Nat) (o : Oper) cs b, ops[j]? = some o → o.op ≠ .select cs b := fun j o cs b ho => by
    have hm : o ∈ ops := Array.mem_of_getElem? ho
    exact noSel_spec (by have := Array.all_eq_true_iff_forall_mem.1 hs o hm; exact this) cs b
  have hsel' : ∀ (j : Nat) (o : Oper), ops[j]? = some o → noSel o = true := fun j o ho => Array.all_eq_true_iff_forall_mem.1 hs o (Array.mem_of_getElem? ho)
  intro n
  induction n with
  | zero =>
    intro listed tk A a ρ w hd hok ha hfr h
    simp only [drawOk, Bool.and_eq_true, List.isEmpty_iff] at hok
    exact ⟨hok.1, hk ρ a w (ha.mono (sub_spec hok.2)) hfr h⟩
  | succ n ih =>
    intro listed tk A a ρ w hd hok ha hfr h
    unfold drawOk at hok
    unfold drawW at h
    cases hf : (Region.ready .any ops listed).find? (quietAt P ops) with
    | some i =>
      simp only [hf] at hok h
      have hir : i ∈ Region.ready .any ops listed := List.mem_of_find?_eq_some hf
      have hiq : quietAt P ops i = true := List.find?_some hf
      cases ho : ops[i]? with
      | none => rw [ho] at h; exact h.elim
      | some o =>
        simp only [ho, Bool.and_eq_true] at hok h
        obtain ⟨⟨⟨ho1, ho2⟩, ho3⟩, ho4⟩ := hok
        have hq : quiet P o = true := by simpa [quietAt, ho] using hiq
        obtain ⟨v, hv, h1, h2⟩ := gop_quiet hq h
        have ha' := (ha.put (v := v) (okD_spec ho1))
        have hH := ih _ _ _ (a.put o.dst v) (ρ.put o.dst v) w (hd.set hir) ho4 ha' (hfr.put v (hW o (Array.mem_of_getElem? ho))) hv
        cases hr : reads o with
        | false =>
          rw [hr] at hH
          exact wpAnyS_first (N := ops.size) (T := fun _ => True) ho hiq hsel (fun c a w hp => absurd hp (hQ _ _ _)) (fun _ _ _ _ => trivial) (fun _ _ h => h) n listed a w hd (Region.free_spec ho ho3) hir
            (fun w2 _ => gop_Yl ha (hsel' i o ho) (sub_spec ho2) (h2 hr w2)) trivial hH
        | true =>
          rw [hr] at hH
          refine wpAnyS_first (N := ops.size) (T := fun w' => gop P ops o ρ w' fun v' w'' => v' = v ∧ w'' = w') ho hiq hsel (fun c a w hp => absurd hp (hQ _ _ _)) (fun j w' hanc hS => hS (i, _) (List.mem_cons_self ..) hanc)
            (fun j w' hS x hx => hS x (List.mem_cons_of_mem _ hx)) n listed a w hd (Region.free_spec ho ho3) hir ?_ ?_ hH
          · intro w2 hT
            exact gop_Yl ha (hsel' i o ho) (sub_spec ho2) hT
          · exact h1
    | none =>
      simp only [hf] at hok h
      cases hr : Region.ready .any ops listed with
      | nil =>
        simp only [hr] at hok h
        exact ⟨fun _ => hk ρ a w (ha.mono (sub_spec hok)) hfr h, fun j hj => by rw [hr] at hj; cases hj⟩
      | cons i0 l0 =>
        simp only [hr] at hok h
        refine ⟨fun h0 => by (rw [hr] at h0; cases h0), fun i hi => ?_⟩
        have hir : i ∈ Region.ready .any ops listed := hi
        rw [hr] at hi
        replace h := allP_mem h i hi
        replace hok := List.all_eq_true.1 hok i hi
        have hiq : quietAt P ops i = false := by
          cases hx : quietAt P ops i with
          | false => rfl
          | true =>
            have := List.find?_eq_none.1 hf i hir
            rw [hx] at this
            exact absurd rfl this
        cases ho : ops[i]? with
        | none => rw [ho] at h; exact h.elim
        | some o =>
          simp only [ho, Bool.and_eq_true] at hok h
          obtain ⟨⟨ho1, ho2⟩, ho4⟩ := hok
          have hg := gop_sound (P := P) (ro := none) (ops := ops) (Q := Q) (next := fun a' w' => (quietAt P ops i = true → w' = w) ∧ (quietAt P ops i = false → SofT ops tk i w') ∧ wpAnyS P ops Q (quietAt P ops) (SofT ops tk) n (listed.setIfInBounds i true) a' w')
            ha (hsel' i o ho) (sub_spec ho2) h (fun v w' hv => ⟨fun q => by (rw [hiq] at q; cases q), fun _ => (owed_spec tk hv).1, ih _ _ _ _ _ _ (hd.set hir) ho4 (ha.put (okD_spec ho1)) (hfr.put v (hW o (Array.mem_of_getElem? ho))) (owed_spec tk hv).2⟩)
          unfold wpOpIn
          simp only [ho]
          split
          · rename_i hw; rw [if_pos hw] at hg; exact hg
          · rename_i hw; rw [if_neg hw] at hg; exact ⟨fun f _ => fen_fn none f, fun _ => trivial, hg.2⟩
end

end Go.E
