/- Calendars, heaps and the document's queues by one list in order: what they have. Conditions: room for 64 at most. -/
import Derived.Test.YtlmakkjbcmhaeaaCalF
import Derived.Test.YtlmakkjbcmhaeaaPrioW
namespace Go.Proofs.Ytlmakkjbcmhaeaa
open Go Go.E
set_option maxRecDepth 100000
variable {e w : World} {R : List HP} {K : KV}

open Classical in
noncomputable def srt (l : List Msg) : List Msg := if h : ∃ l', Upk l' ∧ l'.Perm l then h.choose else l
theorem srt_eq {l l' : List Msg} (hu : Upk l') (hp : l'.Perm l) : srt l = l' := by
  unfold srt
  have h : ∃ l', Upk l' ∧ l'.Perm l := ⟨l', hu, hp⟩
  rw [dif_pos h]
  have := h.choose_spec
  exact up_unique this.1 hu (this.2.trans hp.symm)
def hdM (l : List Msg) : Msg := l.headD Msg.zero
def hasM (l : List Msg) : Bool := !l.isEmpty
def popL (l : List Msg) : List Msg := without l (hdM l).key
def inM (l : List Msg) (k : Key) : Bool := l.any fun y => decide (y.key = k)
def fdM (l : List Msg) (k : Key) : Msg := (l.find? fun y => decide (y.key = k)).getD Msg.zero
def pushV (room : Int) (l : List Msg) (x : Msg) : Int := if validT x.key.T = false then 1 else pushE room l x
noncomputable def pushL (room : Int) (l : List Msg) (x : Msg) : List Msg := if pushV room l x = 0 then srt (x :: l) else l

/-- What a list of messages in order, with room for 64 at most, is. -/
structure LOk (room : Int) (l : List Msg) : Prop where
  up : Upk l
  len : (l.length : Int) ≤ room
  room : room ≤ 64
  val : ∀ m ∈ l, validT m.key.T = true
theorem LOk.l64 {room : Int} {l : List Msg} (h : LOk room l) : l.length ≤ 64 := by have := h.len; have := h.room; omega
theorem Upk.nodup {l : List Msg} (h : Upk l) : (l.map Msg.key).Nodup := by
  rw [List.nodup_iff_pairwise_ne, List.pairwise_map]
  refine List.Pairwise.imp ?_ (show l.Pairwise fun a b => KeyLt a.key b.key from h)
  intro a b hlt he
  rw [he] at hlt
  exact KeyLt.irrefl _ hlt
theorem key_inj {l : List Msg} (h : (l.map Msg.key).Nodup) {x y : Msg} (hx : x ∈ l) (hy : y ∈ l) (hk : x.key = y.key) : x = y := by
  rw [List.nodup_iff_pairwise_ne, List.pairwise_map] at h
  obtain ⟨i, hi⟩ := List.mem_iff_getElem.1 hx
  obtain ⟨j, hj⟩ := List.mem_iff_getElem.1 hy
  obtain ⟨hi, ei⟩ := hi
  obtain ⟨hj, ej⟩ := hj
  rw [List.pairwise_iff_getElem] at h
  rcases Nat.lt_trichotomy i j with c | c | c
  · have := h i j hi hj c; rw [ei, ej] at this; exact absurd hk this
  · subst c; rw [← ei, ej]
  · have := h j i hj hi c; rw [ei, ej] at this; exact absurd hk.symm this
theorem inM_true {l : List Msg} {k : Key} : inM l k = true ↔ ∃ y ∈ l, y.key = k := by
  unfold inM
  rw [List.any_eq_true]
  exact ⟨fun ⟨y, h1, h2⟩ => ⟨y, h1, of_decide_eq_true h2⟩, fun ⟨y, h1, h2⟩ => ⟨y, h1, decide_eq_true h2⟩⟩
theorem inM_false {l : List Msg} {k : Key} : inM l k = false ↔ ∀ y ∈ l, y.key ≠ k := by
  constructor
  · intro h y hy hk
    rw [inM_true.2 ⟨y, hy, hk⟩] at h
    cases h
  · intro h
    cases hc : inM l k with
    | false => rfl
    | true => obtain ⟨y, hy, hk⟩ := inM_true.1 hc; exact absurd hk (h y hy)
theorem fdM_in {l : List Msg} (hu : Upk l) {x : Msg} (hx : x ∈ l) : fdM l x.key = x := by
  unfold fdM
  cases hf : l.find? fun y => decide (y.key = x.key) with
  | none => exact absurd (decide_eq_true rfl) (List.find?_eq_none.1 hf x hx)
  | some y =>
    have h1 := List.find?_some hf
    have h2 := List.mem_of_find?_eq_some hf
    exact key_inj hu.nodup h2 hx (of_decide_eq_true h1)
theorem fdM_no {l : List Msg} {k : Key} (h : ∀ y ∈ l, y.key ≠ k) : fdM l k = Msg.zero := by
  unfold fdM
  rw [List.find?_eq_none.2 (fun y hy => by simpa using h y hy)]
  rfl
theorem without_no {l : List Msg} {k : Key} (h : ∀ y ∈ l, y.key ≠ k) : without l k = l := by
  unfold without
  rw [List.filter_eq_self.2 (fun y hy => by simpa using h y hy)]
theorem LOk.without {room : Int} {l : List Msg} (h : LOk room l) (k : Key) : LOk room (without l k) := by
  have hs : (Proofs.Ytlmakkjbcmhaeaa.without l k).Sublist l := List.filter_sublist
  have := hs.length_le
  have h1 := h.len
  exact ⟨without_up h.up k, by omega, h.room, fun m hm => h.val m (hs.subset hm)⟩
theorem LOk.popL {room : Int} {l : List Msg} (h : LOk room l) : LOk room (popL l) := h.without _
theorem hd_min {l : List Msg} (hu : Upk l) {x : Msg} (hx : x ∈ l) (hm : ∀ y ∈ l, ¬ KeyLt y.key x.key) : hdM l = x ∧ hasM l = true := by
  cases l with
  | nil => cases hx
  | cons a l =>
    refine ⟨?_, rfl⟩
    rcases List.mem_cons.1 hx with h | h
    · exact h.symm
    · exact absurd ((List.pairwise_cons.1 hu).1 x h) (hm a List.mem_cons_self)
theorem perm_without {l a b : List Msg} {x : Msg} (hu : Upk l) (hp : l.Perm a) (h : (x :: b).Perm a) : (without l x.key).Perm b :=
  without_perm (b := a) ((hp.map Msg.key).nodup_iff.1 hu.nodup) ((List.perm_append_comm (l₁ := b) (l₂ := [x])).trans h) hp

theorem srt_ex {l : List Msg} {x : Msg} (hu : Upk l) (hne : ∀ y ∈ l, y.key ≠ x.key) : ∃ l', Upk l' ∧ l'.Perm (x :: l) := by
  refine ⟨(x :: l).mergeSort (fun a b => !Go.Proofs.ltOf cfM b a), ?_, List.mergeSort_perm _ _⟩
  refine up_of (((List.mergeSort_perm _ _).map Msg.key).nodup_iff.2 ?_) ?_
  · rw [List.map_cons, List.nodup_cons]
    exact ⟨fun hm => by obtain ⟨y, hy, hyk⟩ := List.mem_map.1 hm; exact hne y hy hyk, hu.nodup⟩
  · refine List.Pairwise.imp ?_ (List.pairwise_mergeSort (le := fun a b => !Go.Proofs.ltOf cfM b a) (fun a b c h1 h2 => ?_) (fun a b => ?_) (x :: l))
    · intro a b h
      simpa using h
    · simp only [Bool.not_eq_true'] at h1 h2 ⊢
      exact ltM_no.2 (keyLE_trans (ltM_no.1 h2) (ltM_no.1 h1))
    · cases hab : Go.Proofs.ltOf cfM b a with
      | false => simp
      | true =>
        have := ltM_no.2 (ltM.1 hab).asymm
        simp [this]

/-! ### Calendars -/
def IsC (q : Nat) (room day : Int) (l : List Msg) : HP := hex fun pg : List (List Msg) => sepL [pur (CalOk day pg ∧ l.Perm pg.flatten ∧ LOk room l), IsCal q room day pg]
theorem c_of {q : Nat} {room day : Int} {l : List Msg} (h : Sat e w (IsC q room day l :: R)) : ∃ pg, CalOk day pg ∧ l.Perm pg.flatten ∧ LOk room l ∧ Sat e w (IsCal q room day pg :: R) := by
  obtain ⟨pg, h0⟩ := h.ex
  obtain ⟨⟨h1, h2, h3⟩, h4⟩ := Sat.pure h0.split
  exact ⟨pg, h1, h2, h3, h4⟩
theorem c_mk {q : Nat} {room day : Int} {l : List Msg} {pg : List (List Msg)} (h1 : CalOk day pg) (h2 : l.Perm pg.flatten) (h3 : LOk room l) (h : Sat e w (IsCal q room day pg :: R)) : Sat e w (IsC q room day l :: R) :=
  .mk_ex pg (.join (l' := [_, _]) (.mk_pure ⟨h1, h2, h3⟩ h))
theorem c_ok {q : Nat} {room day : Int} {l : List Msg} (h : Sat e w (IsC q room day l :: R)) : LOk room l := by
  obtain ⟨_, _, _, h3, _⟩ := c_of h
  exact h3
theorem c_New_s {n d : Int} (hS : Sat e w R) (hk : ∀ q w', Sat e w' (IsC q (max 0 (min n 64)) (max 1 (min d 1048576)) [] :: R) → K (.pointer (some ⟨q, 0, none⟩)) w') : Cl prog 8 #[.int .i64 n, .int .i64 d] w K :=
  cal_New_s hS fun q w' h => hk q w' (c_mk (CalOk.nil _) (by simp) ⟨.nil, by simp; omega, by omega, fun _ h => by cases h⟩ h)
theorem c_Len_s {q : Nat} {room day : Int} {l : List Msg} (hS : Sat e w (IsC q room day l :: R)) (hk : K (.int .i64 (l.length : Int)) w) : Cl prog 11 #[.pointer (some ⟨q, 0, none⟩)] w K := by
  obtain ⟨pg, h1, h2, h3, h4⟩ := c_of hS
  refine cal_Len_s h4 ?_
  rw [← h2.length_eq]
  exact hk
theorem c_Push_s {q : Nat} {room day : Int} {l : List Msg} {x : Msg} (hd : 1 ≤ day) (ht : In64 x.key.T) (hS : Sat e w (IsC q room day l :: R)) (hk : ∀ w', Sat e w' (IsC q room day (pushL room l x) :: R) → K (.int .i64 (pushV room l x)) w') :
    Cl prog 9 #[.pointer (some ⟨q, 0, none⟩), .agg x.cs.toArray] w K := by
  obtain ⟨pg, h1, h2, h3, h4⟩ := c_of hS
  have hlen := h2.length_eq
  have h64 := h3.l64
  have hbad : ∀ w', pushV room l x ≠ 0 → Sat e w' (IsCal q room day pg :: R) → Sat e w' (IsC q room day (pushL room l x) :: R) := fun w' hne h => by
    unfold pushL
    rw [if_neg hne]
    exact c_mk h1 h2 h3 h
  refine cal_Push_s h1 hd ht (by omega) h4 (fun hv w' h => ?_) (fun hv hin w' h => ?_) (fun hv hne hr w' h => ?_) (fun hv hne hr pg' w' hok' hp h => ?_)
  · have e1 : pushV room l x = 1 := by unfold pushV; rw [if_pos hv]
    have := hk w' (hbad w' (by rw [e1]; decide) h)
    rw [e1] at this
    exact this
  · have e1 : pushV room l x = 3 := by
      unfold pushV
      rw [if_neg (by rw [hv]; decide)]
      obtain ⟨y, hy, hyk⟩ := hin
      exact pushE_in' ⟨y, h2.mem_iff.2 hy, hyk⟩
    have := hk w' (hbad w' (by rw [e1]; decide) h)
    rw [e1] at this
    exact this
  · have e1 : pushV room l x = 2 := by
      unfold pushV
      rw [if_neg (by rw [hv]; decide), pushE_out fun y hy => hne y (h2.mem_iff.1 hy), if_pos (by omega)]
    have := hk w' (hbad w' (by rw [e1]; decide) h)
    rw [e1] at this
    exact this
  · have hne' : ∀ y ∈ l, y.key ≠ x.key := fun y hy => hne y (h2.mem_iff.1 hy)
    have e1 : pushV room l x = 0 := by
      unfold pushV
      rw [if_neg (by rw [hv]; decide), pushE_out hne', if_neg (by omega)]
    obtain ⟨l', hu', hp'⟩ : ∃ l', Upk l' ∧ l'.Perm (x :: l) := srt_ex h3.up hne'
    have := hk w' (by
      unfold pushL
      rw [if_pos e1, srt_eq hu' hp']
      have hl' := hp'.length_eq
      rw [List.length_cons] at hl'
      refine c_mk hok' (hp'.trans ((h2.cons x).trans hp.symm)) ⟨hu', by omega, h3.room, fun m hm => ?_⟩ h
      rcases List.mem_cons.1 (hp'.mem_iff.1 hm) with rfl | hm
      · exact hv
      · exact h3.val m hm)
    rw [e1] at this
    exact this
theorem c_First_s {q : Nat} {room day : Int} {l : List Msg} (hS : Sat e w (IsC q room day l :: R)) (hk : ∀ w', Sat e w' (IsC q room day l :: R) → K (.tuple #[.agg (hdM l).cs.toArray, .bool (hasM l)]) w') :
    Cl prog 21 #[.pointer (some ⟨q, 0, none⟩)] w K := by
  obtain ⟨pg, h1, h2, h3, h4⟩ := c_of hS
  refine cal_First_s h1 h4 (fun h0 w' h => ?_) (fun x hx hm w' h => ?_)
  · have hl : l = [] := List.length_eq_zero_iff.1 (by rw [h2.length_eq, h0]; rfl)
    subst hl
    exact hk _ (c_mk h1 h2 h3 h)
  · obtain ⟨e1, e2⟩ := hd_min h3.up (h2.mem_iff.2 hx) fun y hy => hm y (h2.mem_iff.1 hy)
    have := hk _ (c_mk h1 h2 h3 h)
    rw [e1, e2] at this
    exact this
theorem c_Pop_s {q : Nat} {room day : Int} {l : List Msg} (hd : 1 ≤ day) (hS : Sat e w (IsC q room day l :: R)) (hk : ∀ w', Sat e w' (IsC q room day (popL l) :: R) → K (.tuple #[.agg (hdM l).cs.toArray, .bool (hasM l)]) w') :
    Cl prog 20 #[.pointer (some ⟨q, 0, none⟩)] w K := by
  obtain ⟨pg, h1, h2, h3, h4⟩ := c_of hS
  have hlen := h2.length_eq
  have h64 := h3.l64
  refine cal_Pop_s h1 hd (by omega) h4 (fun h0 w' h => ?_) (fun x pg' w' hx hm hok hp h => ?_)
  · have hl : l = [] := List.length_eq_zero_iff.1 (by rw [h2.length_eq, h0]; rfl)
    subst hl
    exact hk _ (c_mk h1 h2 h3 h)
  · obtain ⟨e1, e2⟩ := hd_min h3.up (h2.mem_iff.2 hx) fun y hy => hm y (h2.mem_iff.1 hy)
    have := hk _ (c_mk hok (by unfold popL; rw [e1]; exact perm_without h3.up h2 hp) h3.popL h)
    rw [e1, e2] at this
    exact this
theorem c_Remove_s {q : Nat} {room day : Int} {l : List Msg} {k : Key} (hd : 1 ≤ day) (ht : In64 k.T) (hS : Sat e w (IsC q room day l :: R)) (hk : ∀ w', Sat e w' (IsC q room day (without l k) :: R) → K (.tuple #[.agg (fdM l k).cs.toArray, .bool (inM l k)]) w') :
    Cl prog 14 #[.pointer (some ⟨q, 0, none⟩), .agg k.cs.toArray] w K := by
  obtain ⟨pg, h1, h2, h3, h4⟩ := c_of hS
  have hlen := h2.length_eq
  have h64 := h3.l64
  refine cal_Remove_s h1 hd ht (by omega) h4 (fun h0 w' h => ?_) (fun x pg' w' hx hxk hok hp h => ?_)
  · have hno : ∀ y ∈ l, y.key ≠ k := fun y hy => h0 y (h2.mem_iff.1 hy)
    have := hk w' (by rw [without_no hno]; exact c_mk h1 h2 h3 h)
    rw [fdM_no hno, inM_false.2 hno] at this
    exact this
  · subst hxk
    have hx' := h2.mem_iff.2 hx
    have := hk _ (c_mk hok (perm_without h3.up h2 hp) (h3.without _) h)
    rw [fdM_in h3.up hx', inM_true.2 ⟨x, hx', rfl⟩] at this
    exact this
theorem c_List_s {q : Nat} {room day : Int} {l : List Msg} (hS : Sat e w (IsC q room day l :: R)) (hk : ∀ v w', Sat e w' (ownS 32 6 Msg.cs v l :: IsC q room day l :: R) → K v w') :
    Cl prog 18 #[.pointer (some ⟨q, 0, none⟩)] w K := by
  obtain ⟨pg, h1, h2, h3, h4⟩ := c_of hS
  have hlen := h2.length_eq
  have h64 := h3.l64
  refine cal_List_s h1 (by omega) h4 fun v l' w' hp hu h => ?_
  obtain rfl : l' = l := up_unique hu h3.up (hp.trans h2.symm)
  exact hk _ _ (Sat.swap (c_mk h1 h2 h3 (Sat.swap h)))
theorem c_Below_s {q : Nat} {room day t : Int} {l : List Msg} (hS : Sat e w (IsC q room day l :: R)) (hk : ∀ v w', Sat e w' (ownS 32 6 Msg.cs v (l.filter fun x => decide (x.key.T < t)) :: IsC q room day l :: R) → K v w') :
    Cl prog 24 #[.pointer (some ⟨q, 0, none⟩), .int .i64 t] w K := by
  obtain ⟨pg, h1, h2, h3, h4⟩ := c_of hS
  have hlen := h2.length_eq
  have h64 := h3.l64
  refine cal_Below_s h1 (by omega) h4 fun v l' w' hp hu h => ?_
  obtain rfl : l' = l := up_unique hu h3.up (hp.trans h2.symm)
  exact hk _ _ (Sat.swap (c_mk h1 h2 h3 (Sat.swap h)))
theorem c_Days_s {q : Nat} {room day : Int} {l : List Msg} (hS : Sat e w (IsC q room day l :: R)) (hk : ∀ v w', Sat e w' (ownS 3 1 i1 v (cntOf day l) :: IsC q room day l :: R) → K v w') :
    Cl prog 10 #[.pointer (some ⟨q, 0, none⟩)] w K := by
  obtain ⟨pg, h1, h2, h3, h4⟩ := c_of hS
  refine cal_Days_s h4 fun v w' _ h => ?_
  rw [h1.lens, ← cntOf_perm h2] at h
  exact hk _ _ (Sat.swap (c_mk h1 h2 h3 (Sat.swap h)))

/-! ### The document's -/
def IsR (r : Nat) (room : Int) (l : List Msg) : HP := sepL [pur (LOk room l), IsPR r room l]
theorem r_of {r : Nat} {room : Int} {l : List Msg} (h : Sat e w (IsR r room l :: R)) : LOk room l ∧ Sat e w (IsPR r room l :: R) := Sat.pure (Sat.split (l' := [_, _]) h)
theorem r_mk {r : Nat} {room : Int} {l : List Msg} (h3 : LOk room l) (h : Sat e w (IsPR r room l :: R)) : Sat e w (IsR r room l :: R) := .join (l' := [_, _]) (.mk_pure h3 h)
theorem r_New_s {n d : Int} (hS : Sat e w R) (hk : ∀ q r w', Sat e w' (IsR r (max 0 (min n 64)) [] :: dB q r (max 1 (min d 1048576)) :: R) → K (.pointer (some ⟨q, 0, none⟩)) w') : Cl prog 12 #[.int .i64 n, .int .i64 d] w K :=
  ref04_New_s hS fun q r w' h => hk q r w' (r_mk ⟨.nil, by simp; omega, by omega, fun _ h => by cases h⟩ h)
theorem r_Len_s {r : Nat} {room : Int} {l : List Msg} (hS : Sat e w (IsR r room l :: R)) (hk : K (.int .i64 (l.length : Int)) w) : Cl prog 26 #[.pointer (some ⟨r, 0, none⟩)] w K := ref03_Len_s (r_of hS).2 hk
theorem r_Push_s {q r : Nat} {room day : Int} {l : List Msg} {x : Msg} (hS : Sat e w (IsR r room l :: dB q r day :: R)) (hk : ∀ w', Sat e w' (IsR r room (pushL room l x) :: dB q r day :: R) → K (.int .i64 (pushV room l x)) w') :
    Cl prog 13 #[.pointer (some ⟨q, 0, none⟩), .agg x.cs.toArray] w K := by
  obtain ⟨h3, h4⟩ := r_of hS
  have h64 := h3.l64
  have hbad : ∀ w', pushV room l x ≠ 0 → Sat e w' (IsPR r room l :: dB q r day :: R) → Sat e w' (IsR r room (pushL room l x) :: dB q r day :: R) := fun w' hne h => by
    unfold pushL
    rw [if_neg hne]
    exact r_mk h3 h
  refine ref04_Push_s (by omega) h4 (fun hv w' h => ?_) (fun hv hin w' h => ?_) (fun hv hne hr w' h => ?_) (fun hv hne hr p w' hp h => ?_)
  · have e1 : pushV room l x = 1 := by unfold pushV; rw [if_pos hv]
    have := hk w' (hbad w' (by rw [e1]; decide) h)
    rw [e1] at this
    exact this
  · have e1 : pushV room l x = 3 := by
      unfold pushV
      rw [if_neg (by rw [hv]; decide)]
      exact pushE_in' hin
    have := hk w' (hbad w' (by rw [e1]; decide) h)
    rw [e1] at this
    exact this
  · have e1 : pushV room l x = 2 := by
      unfold pushV
      rw [if_neg (by rw [hv]; decide), pushE_out hne, if_pos hr]
    have := hk w' (hbad w' (by rw [e1]; decide) h)
    rw [e1] at this
    exact this
  · have e1 : pushV room l x = 0 := by
      unfold pushV
      rw [if_neg (by rw [hv]; decide), pushE_out hne, if_neg (by omega)]
    have hpm : (insAt l x p).Perm (x :: l) := (insAt_perm l x p).trans (List.perm_append_comm (l₁ := l) (l₂ := [x]))
    have hu' : Upk (insAt l x p) := hp.up h3.up hne
    have hl' := hpm.length_eq
    rw [List.length_cons] at hl'
    have := hk w' (by
      unfold pushL
      rw [if_pos e1, srt_eq hu' hpm]
      refine r_mk ⟨hu', by omega, h3.room, fun m hm => ?_⟩ h
      rcases List.mem_cons.1 (hpm.mem_iff.1 hm) with rfl | hm
      · exact hv
      · exact h3.val m hm)
    rw [e1] at this
    exact this
theorem r_First_s {r : Nat} {room : Int} {l : List Msg} (hS : Sat e w (IsR r room l :: R)) (hk : ∀ w', Sat e w' (IsR r room l :: R) → K (.tuple #[.agg (hdM l).cs.toArray, .bool (hasM l)]) w') :
    Cl prog 22 #[.pointer (some ⟨r, 0, none⟩)] w K := by
  obtain ⟨h3, h4⟩ := r_of hS
  cases l with
  | nil => exact ref03_First_none h4 fun w' h => hk _ (r_mk h3 h)
  | cons x l => exact ref03_First_s (x := x) rfl h4 fun w' h => hk _ (r_mk h3 h)
theorem r_Pop_s {r : Nat} {room : Int} {l : List Msg} (hS : Sat e w (IsR r room l :: R)) (hk : ∀ w', Sat e w' (IsR r room (popL l) :: R) → K (.tuple #[.agg (hdM l).cs.toArray, .bool (hasM l)]) w') :
    Cl prog 23 #[.pointer (some ⟨r, 0, none⟩)] w K := by
  obtain ⟨h3, h4⟩ := r_of hS
  have h64 := h3.l64
  cases l with
  | nil => exact ref03_Pop_none h4 fun w' h => hk _ (r_mk h3 h)
  | cons x l => exact ref03_Pop_s (x := x) (by omega) rfl h4 fun w' h => hk _ (r_mk h3.popL h)
theorem r_Remove_s {r : Nat} {room : Int} {l : List Msg} {k : Key} (hS : Sat e w (IsR r room l :: R)) (hk : ∀ w', Sat e w' (IsR r room (without l k) :: R) → K (.tuple #[.agg (fdM l k).cs.toArray, .bool (inM l k)]) w') :
    Cl prog 15 #[.pointer (some ⟨r, 0, none⟩), .agg k.cs.toArray] w K := by
  obtain ⟨h3, h4⟩ := r_of hS
  have h64 := h3.l64
  by_cases hin : ∃ x ∈ l, x.key = k
  · obtain ⟨x, hx, rfl⟩ := hin
    refine ref03_Remove_s (by omega) hx h3.up.nodup h4 fun w' h => ?_
    have := hk _ (r_mk (h3.without x.key) h)
    rw [fdM_in h3.up hx, inM_true.2 ⟨x, hx, rfl⟩] at this
    exact this
  · have hno : ∀ y ∈ l, y.key ≠ k := fun y hy hk => hin ⟨y, hy, hk⟩
    refine ref03_Remove_none (by omega) hno h4 fun w' h => ?_
    have := hk w' (by rw [without_no hno]; exact r_mk h3 h)
    rw [fdM_no hno, inM_false.2 hno] at this
    exact this
theorem r_List_s {r : Nat} {room : Int} {l : List Msg} (hS : Sat e w (IsR r room l :: R)) (hk : ∀ v w', Sat e w' (ownS 32 6 Msg.cs v l :: IsR r room l :: R) → K v w') :
    Cl prog 19 #[.pointer (some ⟨r, 0, none⟩)] w K := by
  obtain ⟨h3, h4⟩ := r_of hS
  have h64 := h3.l64
  exact ref03_List_s (by omega) h4 fun v w' h => hk _ _ (Sat.swap (r_mk h3 (Sat.swap h)))
theorem r_Below_s {r : Nat} {room t : Int} {l : List Msg} (hS : Sat e w (IsR r room l :: R)) (hk : ∀ v w', Sat e w' (ownS 32 6 Msg.cs v (l.filter fun x => decide (x.key.T < t)) :: IsR r room l :: R) → K v w') :
    Cl prog 25 #[.pointer (some ⟨r, 0, none⟩), .int .i64 t] w K := by
  obtain ⟨h3, h4⟩ := r_of hS
  have h64 := h3.l64
  exact ref03_Below_s (by omega) h4 fun v w' h => hk _ _ (Sat.swap (r_mk h3 (Sat.swap h)))
theorem r_Days_s {q r : Nat} {room day : Int} {l : List Msg} (hd : 1 ≤ day) (hS : Sat e w (IsR r room l :: dB q r day :: R)) (hk : ∀ v w', Sat e w' (ownS 3 1 i1 v (cntOf day l) :: IsR r room l :: dB q r day :: R) → K v w') :
    Cl prog 16 #[.pointer (some ⟨q, 0, none⟩)] w K := by
  obtain ⟨h3, h4⟩ := r_of hS
  have h64 := h3.l64
  exact ref04_Days_s hd (by omega) h3.val h4 fun v w' h => hk _ _ (Sat.swap (r_mk h3 (Sat.swap h)))

/-! ### Heaps -/
def IsH (q : Nat) (room : Int) (l : List Msg) : HP := hex fun lh : List Msg => sepL [pur (Heapy lh lh.length ∧ l.Perm lh ∧ LOk room l), IsPrio q room lh]
theorem h_of {q : Nat} {room : Int} {l : List Msg} (h : Sat e w (IsH q room l :: R)) : ∃ lh, Heapy lh lh.length ∧ l.Perm lh ∧ LOk room l ∧ Sat e w (IsPrio q room lh :: R) := by
  obtain ⟨pg, h0⟩ := h.ex
  obtain ⟨⟨h1, h2, h3⟩, h4⟩ := Sat.pure h0.split
  exact ⟨pg, h1, h2, h3, h4⟩
theorem h_mk {q : Nat} {room : Int} {l lh : List Msg} (h1 : Heapy lh lh.length) (h2 : l.Perm lh) (h3 : LOk room l) (h : Sat e w (IsPrio q room lh :: R)) : Sat e w (IsH q room l :: R) :=
  .mk_ex lh (.join (l' := [_, _]) (.mk_pure ⟨h1, h2, h3⟩ h))
theorem h_New_s {n : Int} (hS : Sat e w R) (hk : ∀ q w', Sat e w' (IsH q (max 0 (min n 64)) [] :: R) → K (.pointer (some ⟨q, 0, none⟩)) w') : Cl prog 27 #[.int .i64 n] w K :=
  prio_New_s hS fun q w' h => hk q w' (h_mk (fun i _ _ hi1 hi2 _ => absurd hi2 (by simp)) (.refl _) ⟨.nil, by simp; omega, by omega, fun _ h => by cases h⟩ h)
theorem h_Len_s {q : Nat} {room : Int} {l : List Msg} (hS : Sat e w (IsH q room l :: R)) (hk : K (.int .i64 (l.length : Int)) w) : Cl prog 31 #[.pointer (some ⟨q, 0, none⟩)] w K := by
  obtain ⟨lh, h1, h2, h3, h4⟩ := h_of hS
  refine prio_Len_s h4 ?_
  rw [← h2.length_eq]
  exact hk
theorem h_Push_s {q : Nat} {room : Int} {l : List Msg} {x : Msg} (hv : validT x.key.T = true) (hS : Sat e w (IsH q room l :: R)) (hk : ∀ w', Sat e w' (IsH q room (pushL room l x) :: R) → K (.int .i64 (pushV room l x)) w') :
    Cl prog 28 #[.pointer (some ⟨q, 0, none⟩), .agg x.cs.toArray] w K := by
  obtain ⟨lh, h1, h2, h3, h4⟩ := h_of hS
  have hlen := h2.length_eq
  have h64 := h3.l64
  have e0 : pushV room l x = pushE room lh x := by
    unfold pushV
    rw [if_neg (by rw [hv]; decide)]
    by_cases hin : ∃ y ∈ l, y.key = x.key
    · rw [pushE_in' hin, pushE_in' (by obtain ⟨y, hy, hk⟩ := hin; exact ⟨y, h2.mem_iff.1 hy, hk⟩)]
    · have hne : ∀ y ∈ l, y.key ≠ x.key := fun y hy hk => hin ⟨y, hy, hk⟩
      rw [pushE_out hne, pushE_out fun y hy => hne y (h2.mem_iff.2 hy), hlen]
  refine prio_Push_s (by omega) h4 (fun hne w' h => ?_) (fun he hne hr l' w' hp hh h => ?_)
  · have := hk w' (by
      unfold pushL
      rw [if_neg (by rw [e0]; exact hne)]
      exact h_mk h1 h2 h3 h)
    rw [e0] at this
    exact this
  · have hne' : ∀ y ∈ l, y.key ≠ x.key := fun y hy => hne y (h2.mem_iff.1 hy)
    obtain ⟨l2, hu', hp'⟩ : ∃ l', Upk l' ∧ l'.Perm (x :: l) := srt_ex h3.up hne'
    have hl2 := hp'.length_eq
    rw [List.length_cons] at hl2
    have := hk w' (by
      unfold pushL
      rw [if_pos (by rw [e0]; exact he), srt_eq hu' hp']
      refine h_mk (hh h1) (hp'.trans ((h2.cons x).trans ((List.perm_append_comm (l₁ := [x]) (l₂ := lh)).trans hp.symm))) ⟨hu', by omega, h3.room, fun m hm => ?_⟩ h
      rcases List.mem_cons.1 (hp'.mem_iff.1 hm) with rfl | hm
      · exact hv
      · exact h3.val m hm)
    rw [e0, he] at this
    exact this
theorem h_Pop_s {q : Nat} {room : Int} {l : List Msg} (hS : Sat e w (IsH q room l :: R)) (hk : ∀ w', Sat e w' (IsH q room (popL l) :: R) → K (.tuple #[.agg (hdM l).cs.toArray, .bool (hasM l)]) w') :
    Cl prog 29 #[.pointer (some ⟨q, 0, none⟩)] w K := by
  obtain ⟨lh, h1, h2, h3, h4⟩ := h_of hS
  have hlen := h2.length_eq
  have h64 := h3.l64
  cases lh with
  | nil =>
    obtain rfl : l = [] := List.length_eq_zero_iff.1 hlen
    exact prio_Pop_none h4 fun w' h => hk _ (h_mk h1 h2 h3 h)
  | cons x lh =>
    obtain ⟨hf, hm⟩ := heap_first (x := x) h1 rfl h2 h3.up
    obtain ⟨e1, e2⟩ := hd_min h3.up (List.mem_of_getElem? hf) hm
    refine prio_Pop_s (x := x) rfl (by omega) h4 fun l' w' hp hh h => ?_
    have := hk _ (h_mk (hh h1) (by unfold popL; rw [e1]; exact perm_without h3.up h2 ((List.perm_append_comm (l₁ := [x]) (l₂ := l')).trans hp)) h3.popL h)
    rw [e1, e2] at this
    exact this
theorem h_Remove_s {q : Nat} {room : Int} {l : List Msg} {k : Key} (hS : Sat e w (IsH q room l :: R)) (hk : ∀ w', Sat e w' (IsH q room (without l k) :: R) → K (.tuple #[.agg (fdM l k).cs.toArray, .bool (inM l k)]) w') :
    Cl prog 30 #[.pointer (some ⟨q, 0, none⟩), .agg k.cs.toArray] w K := by
  obtain ⟨lh, h1, h2, h3, h4⟩ := h_of hS
  have hlen := h2.length_eq
  have h64 := h3.l64
  by_cases hin : ∃ x ∈ l, x.key = k
  · obtain ⟨x, hx, rfl⟩ := hin
    refine prio_Remove_s (h2.mem_iff.1 hx) (by omega) h4 fun l' w' hp hh h => ?_
    have := hk _ (h_mk (hh h1) (perm_without h3.up h2 ((List.perm_append_comm (l₁ := [x]) (l₂ := l')).trans hp)) (h3.without x.key) h)
    rw [fdM_in h3.up hx, inM_true.2 ⟨x, hx, rfl⟩] at this
    exact this
  · have hno : ∀ y ∈ l, y.key ≠ k := fun y hy hk => hin ⟨y, hy, hk⟩
    refine prio_Remove_none (fun y hy => hno y (h2.mem_iff.2 hy)) h4 fun w' h => ?_
    have := hk w' (by rw [without_no hno]; exact h_mk h1 h2 h3 h)
    rw [fdM_no hno, inM_false.2 hno] at this
    exact this
theorem h_List_s {q : Nat} {room : Int} {l : List Msg} (hS : Sat e w (IsH q room l :: R)) (hk : ∀ v w', Sat e w' (ownS 32 6 Msg.cs v l :: IsH q room l :: R) → K v w') :
    Cl prog 32 #[.pointer (some ⟨q, 0, none⟩)] w K := by
  obtain ⟨lh, h1, h2, h3, h4⟩ := h_of hS
  have hlen := h2.length_eq
  have h64 := h3.l64
  refine prio_List_s (by omega) h4 fun v l' w' hp hu h => ?_
  obtain rfl : l' = l := up_unique hu h3.up (hp.trans h2.symm)
  exact hk _ _ (Sat.swap (h_mk h1 h2 h3 (Sat.swap h)))
end Go.Proofs.Ytlmakkjbcmhaeaa
