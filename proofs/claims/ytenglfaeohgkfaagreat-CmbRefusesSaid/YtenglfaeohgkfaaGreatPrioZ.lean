/- The law PrioFirst. Conditions: none. The law PrioGone. Conditions: none. Queues with room for 64, the program's and the document's, by one list in order. Conditions: none. -/
import Derived.Test.YtenglfaeohgkfaaGreatPrioL
import Derived.Test.YtenglfaeohgkfaaGreatPrioQ
namespace Go.Proofs.YtenglfaeohgkfaaGreat
open Go Go.E
set_option maxRecDepth 100000
variable {e w : World} {R : List HP} {K : KV}

theorem pushE_in' {room : Int} {l : List Msg} {x : Msg} (h : ∃ y ∈ l, y.key = x.key) : pushE room l x = 3 := by
  obtain ⟨y, hy, hk⟩ := h
  exact if_pos (List.any_eq_true.2 ⟨y, hy, by simpa using hk⟩)
theorem pushE_out {room : Int} {l : List Msg} {x : Msg} (h : ∀ y ∈ l, y.key ≠ x.key) : pushE room l x = if room ≤ l.length then 2 else 0 := by
  unfold pushE
  rw [if_neg]
  intro ha
  obtain ⟨y, hy, hk⟩ := List.any_eq_true.1 ha
  exact h y hy (by simpa using hk)
/-- A heap's first one is the first one of all in order. -/
theorem heap_first {l l' : List Msg} {x : Msg} (hh : Heapy l l.length) (hx : l[0]? = some x) (hp : l'.Perm l) (hu : Upk l') : l'[0]? = some x ∧ ∀ y ∈ l', ¬ KeyLt y.key x.key := by
  have hmin : ∀ y ∈ l', ¬ KeyLt y.key x.key := fun y hy => by
    obtain ⟨i, hi⟩ := List.mem_iff_getElem?.1 (hp.mem_iff.1 hy)
    exact hh.min (Nat.le_refl _) hx i y (List.getElem?_eq_some_iff.1 hi).1 hi
  refine ⟨?_, hmin⟩
  have hxl : x ∈ l' := hp.mem_iff.2 (List.mem_of_getElem? hx)
  cases l' with
  | nil => cases hxl
  | cons y l' =>
    rcases List.mem_cons.1 hxl with rfl | h
    · rfl
    · exact absurd ((List.pairwise_cons.1 hu).1 x h) (hmin y List.mem_cons_self)

end Go.Proofs.YtenglfaeohgkfaaGreat
namespace Go.Proofs.YtenglfaeohgkfaaGreat
open Go Go.E
set_option maxRecDepth 100000
variable {e w : World} {R : List HP} {K : KV}

theorem ltlen_s {a b : Int} {v : Value} {n : Nat} (hl : ∀ K : KV, K (.int .i64 (n : Int)) w → lnS v w K) (hk : K (.bool (decide (a < b ∧ 0 < n))) w) : bi .lss .i64 (.int .i64 a) (.int .i64 b) w fun t1 w => gd t1 true (fun k => k v w) w fun t2 w =>
    gd t1 true (fun k => lnS t2 w k) w fun t3 w => gd t1 true (fun k => bi .gtr .i64 t3 (.int .i64 0) w k) w fun t4 w => pk t1 t4 (.bool false) w K := by
  refine lt_c (fun c => gd_tt (gd_tt (hl _ (gd_tt (gt_d (pk_t ?_)))))) (fun c => gd_ft (gd_ft (gd_ft (pk_f ?_))))
  · rw [show decide (a < b ∧ 0 < n) = decide ((0 : Int) < n) from by simp [c]] at hk
    exact hk
  · rw [show decide (a < b ∧ 0 < n) = false from by simp [c]] at hk
    exact hk
theorem without_self {l : List Msg} {x : Msg} (hn : ((l ++ [x]).map Msg.key).Nodup) : without (l ++ [x]) x.key = l := by
  unfold without
  rw [List.map_append, List.nodup_append] at hn
  rw [List.filter_append, List.filter_eq_self.2 (fun y hy => by
    have := hn.2.2 y.key (List.mem_map.2 ⟨y, hy, rfl⟩) x.key (by simp)
    simpa using this)]
  simp
theorem without_perm {a l : List Msg} {x : Msg} {b : List Msg} (hb : (b.map Msg.key).Nodup) (hp : (l ++ [x]).Perm b) (ha : a.Perm b) : (without a x.key).Perm l := by
  have hn : ((l ++ [x]).map Msg.key).Nodup := (hp.map Msg.key).nodup_iff.2 hb
  have h1 : (without a x.key).Perm (without (l ++ [x]) x.key) := (ha.trans hp.symm).filter _
  rwa [without_self hn] at h1
theorem without_up {l : List Msg} (h : Upk l) (k : Key) : Upk (without l k) := h.sublist List.filter_sublist

end Go.Proofs.YtenglfaeohgkfaaGreat
namespace Go.Proofs.YtenglfaeohgkfaaGreat
open Go Go.E
set_option maxRecDepth 100000
variable {e w : World} {R : List HP} {K : KV}

def insK (m : Msg) : List Msg → List Msg
  | [] => [m]
  | a :: l => if cmpK m.key a.key < 0 then m :: a :: l else a :: insK m l
theorem insK_perm (m : Msg) : ∀ l, (insK m l).Perm (m :: l)
  | [] => .refl _
  | a :: l => by
    unfold insK
    split
    · exact .refl _
    · exact ((insK_perm m l).cons a).trans (.swap m a l)
theorem insK_up {m : Msg} : ∀ {l : List Msg}, Upk l → (∀ y ∈ l, y.key ≠ m.key) → Upk (insK m l)
  | [], _, _ => List.pairwise_singleton _ _
  | a :: l, h, hn => by
    obtain ⟨h1, h2⟩ := List.pairwise_cons.1 h
    unfold insK
    split
    · rename_i hc
      have hlt := cmpK_lt.1 hc
      refine List.pairwise_cons.2 ⟨fun y hy => ?_, h⟩
      rcases List.mem_cons.1 hy with rfl | hy
      · exact hlt
      · exact hlt.trans (h1 y hy)
    · rename_i hc
      refine List.pairwise_cons.2 ⟨fun y hy => ?_, insK_up h2 fun y hy => hn y (by simp [hy])⟩
      rcases List.mem_cons.1 ((insK_perm m l).mem_iff.1 hy) with rfl | hy
      · rcases KeyLt.tri a.key y.key with h3 | h3 | h3
        · exact h3
        · exact absurd h3 (hn a (by simp))
        · exact absurd (cmpK_lt.2 h3) hc
      · exact h1 y hy
def hdM (l : List Msg) : Msg := l.headD Msg.zero
def hasM (l : List Msg) : Bool := !l.isEmpty
def pushQ (l : List Msg) (x : Msg) : List Msg := if pushE 64 l x = 0 then insK x l else l
structure QOk (l : List Msg) : Prop where
  up : Upk l
  len : l.length ≤ 64
theorem Upk.nodup {l : List Msg} (h : Upk l) : (l.map Msg.key).Nodup := by
  rw [List.nodup_iff_pairwise_ne, List.pairwise_map]
  refine List.Pairwise.imp ?_ (show l.Pairwise fun a b => KeyLt a.key b.key from h)
  intro a b hlt he
  rw [he] at hlt
  exact KeyLt.irrefl _ hlt
theorem Upk.tail {l : List Msg} (h : Upk l) : Upk l.tail := h.sublist (List.tail_sublist l)
theorem without_hd {x : Msg} {l : List Msg} (h : Upk (x :: l)) : without (x :: l) x.key = l := by
  obtain ⟨h1, _⟩ := List.pairwise_cons.1 h
  unfold without
  rw [List.filter_cons_of_neg (by simp), List.filter_eq_self.2]
  intro y hy
  have := h1 y hy
  simp only [Bool.not_eq_true', decide_eq_false_iff_not]
  intro he
  rw [he] at this
  exact KeyLt.irrefl _ this
theorem QOk.nil : QOk [] := ⟨.nil, by simp⟩
theorem QOk.tail {l : List Msg} (h : QOk l) : QOk l.tail := ⟨h.up.tail, by have := h.len; rw [List.length_tail]; omega⟩
theorem QOk.without {l : List Msg} (h : QOk l) (k : Key) : QOk (without l k) := by
  have hs : (Proofs.YtenglfaeohgkfaaGreat.without l k).Sublist l := List.filter_sublist
  have := hs.length_le
  have := h.len
  exact ⟨without_up h.up k, by omega⟩
theorem pushE_perm {l l' : List Msg} {x : Msg} (hp : l.Perm l') : pushE 64 l x = pushE 64 l' x := by
  by_cases hin : ∃ y ∈ l, y.key = x.key
  · rw [pushE_in' hin, pushE_in' (by obtain ⟨y, hy, hk⟩ := hin; exact ⟨y, hp.mem_iff.1 hy, hk⟩)]
  · have hne : ∀ y ∈ l, y.key ≠ x.key := fun y hy hk => hin ⟨y, hy, hk⟩
    rw [pushE_out hne, pushE_out fun y hy => hne y (hp.mem_iff.2 hy), hp.length_eq]
theorem pushE_zero {l : List Msg} {x : Msg} (h : pushE 64 l x = 0) : (∀ y ∈ l, y.key ≠ x.key) ∧ l.length < 64 := by
  by_cases hin : ∃ y ∈ l, y.key = x.key
  · rw [pushE_in' hin] at h; cases h
  · have hne : ∀ y ∈ l, y.key ≠ x.key := fun y hy hk => hin ⟨y, hy, hk⟩
    rw [pushE_out hne] at h
    split at h
    · cases h
    · exact ⟨hne, by omega⟩
theorem QOk.push {l : List Msg} (h : QOk l) (x : Msg) : QOk (pushQ l x) := by
  unfold pushQ
  split
  · rename_i h0
    obtain ⟨h1, h2⟩ := pushE_zero h0
    have := (insK_perm x l).length_eq
    rw [List.length_cons] at this
    exact ⟨insK_up h.up h1, by omega⟩
  · exact h

/-! ### The program's -/
def IsQ (q : Nat) (l : List Msg) : HP := hex fun lh : List Msg => sepL [pur (Heapy lh lh.length ∧ l.Perm lh ∧ QOk l), IsPrio q 64 lh]
theorem q_of {q : Nat} {l : List Msg} (h : Sat e w (IsQ q l :: R)) : ∃ lh, Heapy lh lh.length ∧ l.Perm lh ∧ QOk l ∧ Sat e w (IsPrio q 64 lh :: R) := by
  obtain ⟨pg, h0⟩ := h.ex
  obtain ⟨⟨h1, h2, h3⟩, h4⟩ := Sat.pure h0.split
  exact ⟨pg, h1, h2, h3, h4⟩
theorem q_mk {q : Nat} {l lh : List Msg} (h1 : Heapy lh lh.length) (h2 : l.Perm lh) (h3 : QOk l) (h : Sat e w (IsPrio q 64 lh :: R)) : Sat e w (IsQ q l :: R) :=
  .mk_ex lh (.join (l' := [_, _]) (.mk_pure ⟨h1, h2, h3⟩ h))
theorem q_New_s (hS : Sat e w R) (hk : ∀ q w', Sat e w' (IsQ q [] :: R) → K (.pointer (some ⟨q, 0, none⟩)) w') : Cl prog 30 #[.int .i64 64] w K :=
  prio_New_s hS fun q w' h => hk q w' (q_mk (fun i _ _ hi1 hi2 _ => absurd hi2 (by simp)) (.refl _) QOk.nil h)
theorem q_Len_s {q : Nat} {l : List Msg} (hS : Sat e w (IsQ q l :: R)) (hk : K (.int .i64 (l.length : Int)) w) : Cl prog 160 #[.pointer (some ⟨q, 0, none⟩)] w K := by
  obtain ⟨lh, h1, h2, h3, h4⟩ := q_of hS
  refine prio_Len_s h4 ?_
  rw [← h2.length_eq]
  exact hk
theorem q_Push_s {q : Nat} {l : List Msg} {x : Msg} (hS : Sat e w (IsQ q l :: R)) (hk : ∀ w', Sat e w' (IsQ q (pushQ l x) :: R) → K (.int .i64 (pushE 64 l x)) w') :
    Cl prog 37 #[.pointer (some ⟨q, 0, none⟩), .agg x.cs.toArray] w K := by
  obtain ⟨lh, h1, h2, h3, h4⟩ := q_of hS
  have hlen := h2.length_eq
  have h64 := h3.len
  have e0 := pushE_perm (x := x) h2
  refine prio_Push_s (by omega) h4 (fun hne w' h => ?_) (fun he hne hr l' w' hp hh h => ?_)
  · have := hk w' (by
      unfold pushQ
      rw [if_neg (by rw [e0]; exact hne)]
      exact q_mk h1 h2 h3 h)
    rw [e0] at this
    exact this
  · have := hk w' (by
      have hq := h3.push x
      unfold pushQ at hq ⊢
      rw [if_pos (by rw [e0]; exact he)] at hq ⊢
      refine q_mk (hh h1) ?_ hq h
      exact (insK_perm x l).trans ((h2.cons x).trans ((List.perm_append_comm (l₁ := [x]) (l₂ := lh)).trans hp.symm)))
    rw [e0, he] at this
    exact this
theorem q_First_s {q : Nat} {l : List Msg} (hS : Sat e w (IsQ q l :: R)) (hk : ∀ w', Sat e w' (IsQ q l :: R) → K (.tuple #[.agg (hdM l).cs.toArray, .bool (hasM l)]) w') :
    Cl prog 85 #[.pointer (some ⟨q, 0, none⟩)] w K := by
  obtain ⟨lh, h1, h2, h3, h4⟩ := q_of hS
  have hlen := h2.length_eq
  cases lh with
  | nil =>
    obtain rfl : l = [] := List.length_eq_zero_iff.1 hlen
    exact prio_First_none h4 fun w' h => hk _ (q_mk h1 h2 h3 h)
  | cons x lh =>
    obtain ⟨hf, hm⟩ := heap_first (x := x) h1 rfl h2 h3.up
    refine prio_First_s (x := x) rfl h4 fun w' h => ?_
    have := hk _ (q_mk h1 h2 h3 h)
    cases l with
    | nil => cases hf
    | cons y l =>
      cases hf
      exact this
theorem q_Pop_s {q : Nat} {l : List Msg} (hS : Sat e w (IsQ q l :: R)) (hk : ∀ w', Sat e w' (IsQ q l.tail :: R) → K (.tuple #[.agg (hdM l).cs.toArray, .bool (hasM l)]) w') :
    Cl prog 41 #[.pointer (some ⟨q, 0, none⟩)] w K := by
  obtain ⟨lh, h1, h2, h3, h4⟩ := q_of hS
  have hlen := h2.length_eq
  have h64 := h3.len
  cases lh with
  | nil =>
    obtain rfl : l = [] := List.length_eq_zero_iff.1 hlen
    exact prio_Pop_none h4 fun w' h => hk _ (q_mk h1 h2 h3 h)
  | cons x lh =>
    obtain ⟨hf, hm⟩ := heap_first (x := x) h1 rfl h2 h3.up
    refine prio_Pop_s (x := x) rfl (by omega) h4 fun l' w' hp hh h => ?_
    cases l with
    | nil => cases hf
    | cons y l =>
      cases hf
      refine hk _ (q_mk (hh h1) ?_ h3.tail h)
      have h5 : (x :: l).Perm (x :: l') := h2.trans (hp.symm.trans (List.perm_append_comm (l₁ := l') (l₂ := [x])))
      exact (List.perm_cons x).1 h5
theorem q_List_s {q : Nat} {l : List Msg} (hS : Sat e w (IsQ q l :: R)) (hk : ∀ v w', Sat e w' (ownS 26 6 Msg.cs v l :: IsQ q l :: R) → K v w') :
    Cl prog 47 #[.pointer (some ⟨q, 0, none⟩)] w K := by
  obtain ⟨lh, h1, h2, h3, h4⟩ := q_of hS
  have hlen := h2.length_eq
  have h64 := h3.len
  refine prio_List_s (by omega) h4 fun v l' w' hp hu h => ?_
  obtain rfl : l' = l := up_unique hu h3.up (hp.trans h2.symm)
  exact hk _ _ (Sat.swap (q_mk h1 h2 h3 (Sat.swap h)))
theorem q_ok {q : Nat} {l : List Msg} (i : Nat) {L : List HP} (h : Sat e w L) (hi : L[i]? = some (IsQ q l)) : QOk l := by
  obtain ⟨_, _, _, h3, _⟩ := q_of (h.pick i hi)
  exact h3

/-! ### The document's -/
def IsQR (q : Nat) (l : List Msg) : HP := sepL [pur (QOk l), IsPR q 64 l]
theorem qr_of {r : Nat} {l : List Msg} (h : Sat e w (IsQR r l :: R)) : QOk l ∧ Sat e w (IsPR r 64 l :: R) := Sat.pure (Sat.split (l' := [_, _]) h)
theorem qr_mk {r : Nat} {l : List Msg} (h3 : QOk l) (h : Sat e w (IsPR r 64 l :: R)) : Sat e w (IsQR r l :: R) := .join (l' := [_, _]) (.mk_pure h3 h)
theorem qr_New_s (hS : Sat e w R) (hk : ∀ q w', Sat e w' (IsQR q [] :: R) → K (.pointer (some ⟨q, 0, none⟩)) w') : Cl prog 34 #[.int .i64 64] w K :=
  ref03_New_s hS fun q w' h => hk q w' (qr_mk QOk.nil h)
theorem qr_Len_s {r : Nat} {l : List Msg} (hS : Sat e w (IsQR r l :: R)) (hk : K (.int .i64 (l.length : Int)) w) : Cl prog 161 #[.pointer (some ⟨r, 0, none⟩)] w K := ref03_Len_s (qr_of hS).2 hk
theorem qr_Push_s {r : Nat} {l : List Msg} {x : Msg} (hS : Sat e w (IsQR r l :: R)) (hk : ∀ w', Sat e w' (IsQR r (pushQ l x) :: R) → K (.int .i64 (pushE 64 l x)) w') :
    Cl prog 40 #[.pointer (some ⟨r, 0, none⟩), .agg x.cs.toArray] w K := by
  obtain ⟨h3, h4⟩ := qr_of hS
  have h64 := h3.len
  have hsame : ∀ w' c, pushE 64 l x = c → c ≠ 0 → Sat e w' (IsPR r 64 l :: R) → K (.int .i64 c) w' := fun w' c hc hne h => by
    have := hk w' (by
      unfold pushQ
      rw [if_neg (by rw [hc]; exact hne)]
      exact qr_mk h3 h)
    rw [hc] at this
    exact this
  refine ref03_Push_s (by omega) h4 (fun hin w' h => hsame w' 3 (pushE_in' hin) (by decide) h) (fun hne hr w' h => hsame w' 2 (by rw [pushE_out hne, if_pos (by omega)]) (by decide) h) (fun hne hr p w' hp h => ?_)
  have e1 : pushE 64 l x = 0 := by rw [pushE_out hne, if_neg (by omega)]
  have hpm : (insAt l x p).Perm (x :: l) := (insAt_perm l x p).trans (List.perm_append_comm (l₁ := l) (l₂ := [x]))
  have hu' : Upk (insAt l x p) := hp.up h3.up hne
  have hq := h3.push x
  have := hk w' (by
    unfold pushQ at hq ⊢
    rw [if_pos e1] at hq ⊢
    have he : insAt l x p = insK x l := up_unique hu' hq.up (hpm.trans (insK_perm x l).symm)
    rw [← he] at hq ⊢
    exact qr_mk hq h)
  rw [e1] at this
  exact this
theorem qr_First_s {r : Nat} {l : List Msg} (hS : Sat e w (IsQR r l :: R)) (hk : ∀ w', Sat e w' (IsQR r l :: R) → K (.tuple #[.agg (hdM l).cs.toArray, .bool (hasM l)]) w') :
    Cl prog 52 #[.pointer (some ⟨r, 0, none⟩)] w K := by
  obtain ⟨h3, h4⟩ := qr_of hS
  cases l with
  | nil => exact ref03_First_none h4 fun w' h => hk _ (qr_mk h3 h)
  | cons x l => exact ref03_First_s (x := x) rfl h4 fun w' h => hk _ (qr_mk h3 h)
theorem qr_Pop_s {r : Nat} {l : List Msg} (hS : Sat e w (IsQR r l :: R)) (hk : ∀ w', Sat e w' (IsQR r l.tail :: R) → K (.tuple #[.agg (hdM l).cs.toArray, .bool (hasM l)]) w') :
    Cl prog 44 #[.pointer (some ⟨r, 0, none⟩)] w K := by
  obtain ⟨h3, h4⟩ := qr_of hS
  have h64 := h3.len
  cases l with
  | nil => exact ref03_Pop_none h4 fun w' h => hk _ (qr_mk h3 h)
  | cons x l =>
    refine ref03_Pop_s (x := x) (by omega) rfl h4 fun w' h => ?_
    rw [without_hd h3.up] at h
    exact hk _ (qr_mk h3.tail h)
theorem qr_List_s {r : Nat} {l : List Msg} (hS : Sat e w (IsQR r l :: R)) (hk : ∀ v w', Sat e w' (ownS 26 6 Msg.cs v l :: IsQR r l :: R) → K v w') :
    Cl prog 55 #[.pointer (some ⟨r, 0, none⟩)] w K := by
  obtain ⟨h3, h4⟩ := qr_of hS
  have h64 := h3.len
  exact ref03_List_s (by omega) h4 fun v w' h => hk _ _ (Sat.swap (qr_mk h3 (Sat.swap h)))
end Go.Proofs.YtenglfaeohgkfaaGreat
