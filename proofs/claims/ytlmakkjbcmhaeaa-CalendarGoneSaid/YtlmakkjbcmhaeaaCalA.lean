/- slices.Insert, slices.Delete and slices.BinarySearchFunc at messages. Conditions: at most a million messages. -/
import Derived.Test.YtlmakkjbcmhaeaaPrioL
import Derived.Test.YtlmakkjbcmhaeaaPrioQ
import Derived.Test.YtlmakkjbcmhaeaaEngV
import Derived.Test.YtlmakkjbcmhaeaaPf0
import Derived.Test.YtlmakkjbcmhaeaaPf1
import Derived.Test.YtlmakkjbcmhaeaaPf2
import Derived.Test.YtlmakkjbcmhaeaaPf3
import Derived.Test.YtlmakkjbcmhaeaaPf4
import Derived.Test.YtlmakkjbcmhaeaaPf5
import Derived.Test.YtlmakkjbcmhaeaaPf6
import Derived.Test.YtlmakkjbcmhaeaaPf7
import Derived.Test.YtlmakkjbcmhaeaaPf8
import Derived.Test.YtlmakkjbcmhaeaaPf9
import Derived.Test.YtlmakkjbcmhaeaaPf10
namespace Go.Proofs.Ytlmakkjbcmhaeaa
open Go Go.E
set_option maxRecDepth 100000
variable {e w : World} {R : List HP} {K : KV}

theorem insert_s {v : Value} {l : List Msg} {x : Msg} {i bx : Nat} (hi : i ≤ l.length) (hl : l.length ≤ 1000000) (hS : Sat e w (ownS 32 6 Msg.cs v l :: blk bx 32 x.cs :: R))
    (hk : ∀ v' w', Sat e w' (ownS 32 6 Msg.cs v' (insAt l x i) :: R) → K v' w') : Cl prog 36 #[v, .int .i64 (i : Int), .slice (some ⟨bx, 0, none⟩) 1 1] w K := by
  refine slices_Insert_api_Msg_api_Msg_calls ?_
  unfold slices_Insert_api_Msg_api_Msg
  have hf6 : ∀ x : Msg, (Msg.cs x).length = 6 := fun _ => rfl
  refine slc_from hS 0 rfl (fun g hg => own_rd hg) hf6 hi fun _ _ => ?_
  refine ⟨_, _, _, rfl, ?_⟩
  refine eq_f (by decide) (iff_f ?_)
  refine lnS_rd hS 0 rfl (fun g hg => own_rd hg) ?_
  refine eq_c (fun c1 => iff_t ?_) (fun c1 => iff_f ?_)
  · refine apS_own te_36 und_36 (f := Msg.cs) (m := [x]) hf6 (fun _ => ints_flat _) hS (blk_rd1 (Nat.le_refl _)) (by simp; omega) fun v' w2 h2 => ?_
    refine hk _ _ ?_
    have : insAt l x i = l ++ [x] := by
      unfold insAt
      rw [List.take_of_length_le (by omega), List.drop_of_length_le (by omega)]
    rw [this]
    exact h2.selR [_, _] [_] [0] (by decide) rfl
  · have hil : i < l.length := by omega
    obtain ⟨b, c, cs, rfl, hc, hlc, htk, h1⟩ := hS.own_open 0 rfl (by omega)
    replace h1 : Sat e w (blk b 32 cs :: blk bx 32 x.cs :: R) := h1
    have hA := row_take hf6 htk hi
    have hB := row_drop hf6 htk hi
    have hAl : ((l.take i).flatMap Msg.cs).length = i * 6 := by rw [flatMap_length hf6, List.length_take, Nat.min_eq_left hi]
    have hBl : ((l.drop i).flatMap Msg.cs).length = (l.length - i) * 6 := by rw [flatMap_length hf6, List.length_drop]
    have hBf : ∀ v ∈ (l.drop i).flatMap Msg.cs, flat v = true := flat_ok (fun _ => ints_flat _) _
    have hfm : (insAt l x i).flatMap Msg.cs = (l.take i).flatMap Msg.cs ++ x.cs ++ (l.drop i).flatMap Msg.cs := by
      unfold insAt
      rw [List.flatMap_append, List.flatMap_cons, List.append_assoc]
    have hilen : (insAt l x i).length = l.length + 1 := by rw [(insAt_perm l x i).length_eq]; simp
    have hcsl : l.length * 6 ≤ cs.length := by rw [hc]; exact Nat.mul_le_mul_right _ hlc
    refine addn_s (b := 1) (by omega) ?_
    refine cap_s und_36 ?_
    refine gt_c (fun c2 => iff_t ?_) (fun c2 => iff_f ?_)
    · refine sl_to0 (by omega) ?_
      refine addn_s (b := 1) (by omega) ?_
      refine subn_s (by omega) (by omega) ?_
      refine ap_made te_36 (it := 3) (k := .i64) (by kernel_rfl) h1 0 rfl (by omega) (by omega) hc (by omega) fun b' cap cs' w2 hcap hcl' htk' h2 => ?_
      have hcl2 : (l.length + 1) * 6 ≤ cs'.length := by rw [hcl']; exact Nat.mul_le_mul_right _ (by omega)
      refine sl_at (k := 0) (bnd_i i) (bnd_n _) (by omega) (by omega) (by omega) ?_
      rw [Nat.zero_add]
      refine cp_s (new := x.cs) te_36 h2 0 rfl (h2.blk_at (k := 0) (n := 6) 2 rfl) ?_ ?_ (ints_flat _) fun _ w3 h3 => ?_
      · rw [Nat.min_eq_left (by omega)]; rfl
      · show i * 6 + 6 ≤ _
        omega
      replace h3 : Sat e w3 (blk b' 32 (wrL cs' (i * 6) x.cs) :: blk b 32 cs :: blk bx 32 x.cs :: R) := h3
      refine dr_s h3 fun w4 h4 => ?_
      refine addn_s (b := 1) (by omega) ?_
      refine sl_at (k := 0) (bnd_i (i + 1)) (bnd_n _) (by omega) (by omega) (by omega) ?_
      refine sl_at (k := 0) (bnd_i i) (bnd_n _) (by omega) (by omega) (by omega) ?_
      rw [Nat.zero_add, Nat.zero_add]
      have hw1 : (wrL cs' (i * 6) x.cs).length = cs'.length := wrL_length (by show i * 6 + 6 ≤ _; omega)
      have hrd := h4.blk_at (k := i * 6) (n := (l.length - i) * 6) 1 rfl
      rw [hB] at hrd
      refine cp_s te_36 h4 0 rfl hrd ?_ ?_ hBf fun _ w5 h5 => ?_
      · rw [hBl]; congr 1; omega
      · rw [hBl, hw1]; omega
      refine hk _ _ ?_
      have h6 := h5.imp_at (Q := ownS 32 6 Msg.cs (.slice (some ⟨b', 0, none⟩) (i + (l.length + 1 - i)) cap) (insAt l x i)) 0 rfl fun g hg => by
        refine .inr ⟨b', cap, _, by rw [hilen]; congr 1; omega, hg, ?_, by rw [hilen]; omega, ?_⟩
        · rw [wrL_length (by rw [hBl, hw1]; omega), hw1, hcl']
        · rw [hilen, hfm]
          have e1 : (wrL cs' (i * 6) x.cs).take ((i + 1) * 6) = (l.take i).flatMap Msg.cs ++ x.cs := by
            unfold wrL
            rw [htk', hA, List.take_append_of_le_length (by rw [List.length_append, hAl]; show _ ≤ i * 6 + 6; omega), List.take_of_length_le (by rw [List.length_append, hAl]; show i * 6 + 6 ≤ _; omega)]
          unfold wrL
          unfold wrL at e1
          rw [e1, List.take_append_of_le_length (by rw [List.length_append, List.length_append, hAl, hBl]; show _ ≤ i * 6 + 6 + _; omega), List.take_of_length_le (by rw [List.length_append, List.length_append, hAl, hBl]; show i * 6 + 6 + _ ≤ _; omega)]
      exact h6.selR [_, _, _] [_] [0] (by decide) rfl
    · refine addn_s (b := 1) (by omega) ?_
      refine sl_to0 (by omega) ?_
      refine addn_s (b := 1) (by omega) ?_
      refine sl_at (k := 0) (bnd_i (i + 1)) (bnd_n _) (by omega) (by omega) (by omega) ?_
      refine ov_s (P := prog) (st := 36) (tR := 4) (fn := fn54) (fnAt54) (by kernel_rfl) (by kernel_rfl) (by kernel_rfl) (by kernel_rfl) te_36 h1 1 0 (by decide) rfl rfl (fun h => by rw [h] at hcsl; simp at hcsl; omega) ?_
      refine not_f (iff_t ?_)
      refine dr_s h1 fun w2 h2 => ?_
      refine addn_s (b := 1) (by omega) ?_
      refine sl_at (k := 0) (bnd_i (i + 1)) (bnd_n _) (by omega) (by omega) (by omega) ?_
      refine sl_at (k := 0) (bnd_i i) (bnd_n _) (by omega) (by omega) (by omega) ?_
      rw [Nat.zero_add, Nat.zero_add]
      have hcs7 : (l.length + 1) * 6 ≤ cs.length := by rw [hc]; exact Nat.mul_le_mul_right _ (by omega)
      have hrd := h2.blk_at (k := i * 6) (n := (l.length - i) * 6) 0 rfl
      rw [hB] at hrd
      refine cp_s te_36 h2 0 rfl hrd ?_ ?_ hBf fun _ w3 h3 => ?_
      · rw [hBl]; congr 1; omega
      · rw [hBl]; omega
      replace h3 : Sat e w3 (blk b 32 (wrL cs ((i + 1) * 6) ((l.drop i).flatMap Msg.cs)) :: blk bx 32 x.cs :: R) := h3
      have hw1 : (wrL cs ((i + 1) * 6) ((l.drop i).flatMap Msg.cs)).length = cs.length := wrL_length (by rw [hBl]; omega)
      refine sl_at (k := 0) (bnd_i i) (bnd_n _) (by omega) (by omega) (by omega) ?_
      rw [Nat.zero_add]
      refine cp_s (new := x.cs) te_36 h3 0 rfl (h3.blk_at (k := 0) (n := 6) 1 rfl) ?_ ?_ (ints_flat _) fun _ w4 h4 => ?_
      · rw [Nat.min_eq_left (by omega)]; rfl
      · rw [hw1]; show i * 6 + 6 ≤ _; omega
      refine hk _ _ ?_
      have h6 := h4.imp_at (Q := ownS 32 6 Msg.cs (.slice (some ⟨b, 0, none⟩) (l.length + 1) c) (insAt l x i)) 0 rfl fun g hg => by
        refine .inr ⟨b, c, _, by rw [hilen], hg, ?_, by rw [hilen]; omega, ?_⟩
        · rw [wrL_length (by rw [hw1]; show i * 6 + 6 ≤ _; omega), hw1, hc]
        · rw [hilen, hfm]
          have e1 : (wrL cs ((i + 1) * 6) ((l.drop i).flatMap Msg.cs)).take (i * 6) = (l.take i).flatMap Msg.cs := by rw [wrL_take (by omega) (by omega), hA]
          have e2 : (wrL cs ((i + 1) * 6) ((l.drop i).flatMap Msg.cs)).drop (i * 6 + 6) = (l.drop i).flatMap Msg.cs ++ cs.drop ((i + 1) * 6 + ((l.drop i).flatMap Msg.cs).length) := by
            rw [show i * 6 + 6 = (i + 1) * 6 from by omega, wrL_drop (by omega)]
          have e3 : wrL (wrL cs ((i + 1) * 6) ((l.drop i).flatMap Msg.cs)) (i * 6) x.cs = (l.take i).flatMap Msg.cs ++ x.cs ++ ((l.drop i).flatMap Msg.cs ++ cs.drop ((i + 1) * 6 + ((l.drop i).flatMap Msg.cs).length)) := by
            rw [← e1, ← e2]
            rfl
          show (wrL (wrL cs ((i + 1) * 6) ((l.drop i).flatMap Msg.cs)) (i * 6) x.cs).take ((l.length + 1) * 6) = _
          rw [e3, ← List.append_assoc, List.take_append_of_le_length (by rw [List.length_append, List.length_append, hAl, hBl]; show _ ≤ i * 6 + 6 + _; omega), List.take_of_length_le (by rw [List.length_append, List.length_append, hAl, hBl]; show i * 6 + 6 + _ ≤ _; omega)]
      exact h6.selR [_, _] [_] [0] (by decide) rfl
end Go.Proofs.Ytlmakkjbcmhaeaa
