/- The law PrioGone. Conditions: none. -/
import Derived.Test.YtenglfaeohgkfaaPrioV
namespace Go.Proofs.Ytenglfaeohgkfaa
open Go Go.E
set_option maxRecDepth 100000
variable {e w : World} {R : List HP} {K : KV}

theorem ltlen_s {a b : Int} {v : Value} {n : Nat} (hl : ∀ K : KV, K (.int .i64 (n : Int)) w → lnS v w K) (hk : K (.bool (decide (a < b ∧ 0 < n))) w) : bi .lss .i64 (.int .i64 a) (.int .i64 b) w fun t1 w => gd t1 true (fun k => k v w) w fun t2 w =>
    gd t1 true (fun k => lnS t2 w k) w fun t3 w => gd t1 true (fun k => bi .gtr .i64 t3 (.int .i64 0) w k) w fun t4 w => pk t1 t4 (.bool false) w K := by
  refine lt_c (fun c => gd_tt (gd_tt (hl _ (gd_tt (gt_d (pk_t ?_)))))) (fun c => gd_ft (gd_ft (gd_ft (pk_f ?_))))
  · rw [show decide (a < b ∧ 0 < n) = decide ((0 : Int) < n) from by simp [c]] at hk
    exact hk
  · rw [show decide (a < b ∧ 0 < n) = false from by simp [c]] at hk
    exact hk
theorem without_self {l : List Msg} {x : Msg} (hn : ((l ++ [x]).map Msg.key).Nodup) : without (l ++ [x]) x.key = l := by
  unfold without
  rw [List.map_append, List.nodup_append] at hn
  rw [List.filter_append, List.filter_eq_self.2 (fun y hy => by
    have := hn.2.2 y.key (List.mem_map.2 ⟨y, hy, rfl⟩) x.key (by simp)
    simpa using this)]
  simp
theorem without_perm {a l : List Msg} {x : Msg} {b : List Msg} (hb : (b.map Msg.key).Nodup) (hp : (l ++ [x]).Perm b) (ha : a.Perm b) : (without a x.key).Perm l := by
  have hn : ((l ++ [x]).map Msg.key).Nodup := (hp.map Msg.key).nodup_iff.2 hb
  have h1 : (without a x.key).Perm (without (l ++ [x]) x.key) := (ha.trans hp.symm).filter _
  rwa [without_self hn] at h1
theorem without_up {l : List Msg} (h : Upk l) (k : Key) : Upk (without l k) := h.sublist List.filter_sublist

end Go.Proofs.Ytenglfaeohgkfaa
