/- The law GateDrops. Conditions: none. -/
import Derived.Test.YtdiglafiimnfoaaGateA
import Derived.Test.YtdiglafiimnfoaaTimeA
import Derived.Test.YtdiglafiimnfoaaEngN
import Derived.Test.YtdiglafiimnfoaaPf0
import Derived.Test.YtdiglafiimnfoaaPf1
import Derived.Test.YtdiglafiimnfoaaPf2
import Derived.Test.YtdiglafiimnfoaaPf3
import Derived.Test.YtdiglafiimnfoaaPf4
import Derived.Test.YtdiglafiimnfoaaPf5
import Derived.Test.YtdiglafiimnfoaaPf6
import Derived.Test.YtdiglafiimnfoaaPf7
import Derived.Test.YtdiglafiimnfoaaPf8
import Derived.Test.YtdiglafiimnfoaaPf9
import Derived.Test.YtdiglafiimnfoaaPf10
import Derived.Test.YtdiglafiimnfoaaPf11
import Derived.Test.YtdiglafiimnfoaaPf12
import Derived.Test.YtdiglafiimnfoaaPf13
import Derived.Test.YtdiglafiimnfoaaPf14
import Derived.Test.YtdiglafiimnfoaaPf15
import Derived.Test.YtdiglafiimnfoaaPf16
import Derived.Test.YtdiglafiimnfoaaPf17
import Derived.Test.YtdiglafiimnfoaaPf18
namespace Go.Proofs.Ytdiglafiimnfoaa
open Go Go.E
set_option maxRecDepth 100000
variable {e w : World} {R : List HP} {K : KV}

theorem drop1_s {b : Nat} {k : Key} {x : Kept} (hS : Sat e w (blk b 61 k.cs :: R)) (hk : ∀ w', Sat e w' (blk b 61 k.cs :: R) → K (.bool (decide (0 ≤ cmpK x.cause k))) w') :
    clV prog (.func (.func 101) #[] #[.pointer (some ⟨b, 0, none⟩)]) #[.agg x.cs.toArray] w K := by
  refine ⟨_, _, _, rfl, ?_⟩
  refine gate_Gate_Drop_1_calls (t0 := .agg x.cs.toArray) (t1 := .pointer (some ⟨b, 0, none⟩)) ?_
  unfold gate_Gate_Drop_1
  refine al_s (cs := x.cs) hS rfl fun b2 w1 h1 => ?_
  refine fld_at ?_
  refine ldN_at h1 0 (vs := x.cause.cs) rfl (by rfl) rfl ?_
  refine ldN_at h1 1 (vs := k.cs) rfl (by rfl) rfl ?_
  refine vtime_Cmp_s h1 fun w2 h2 => ?_
  refine ge_d ?_
  exact hk _ h2.drop

def dropP (k : Key) (x : Kept) : Bool := decide (0 ≤ cmpK x.cause k)
theorem gate_Drop_s {g : Nat} {fl : Int} {l : List Kept} (k : Key) (hS : Sat e w (IsGate g fl l :: R)) (hl : l.length ≤ 1000000)
    (hk : ∀ v w', Sat e w' (ownS 63 6 Msg.cs v ((l.filter (dropP k)).map Kept.m) :: IsGate g fl (l.filter fun x => !dropP k x) :: R) → K v w') : Cl prog 67 #[.pointer (some ⟨g, 0, none⟩), .agg k.cs.toArray] w K := by
  refine gate_Gate_Drop_calls ?_
  unfold gate_Gate_Drop
  refine al_s (cs := k.cs) hS rfl fun b3 w1 h1 => ?_
  refine gate_part_s (dropP k) h1.swap hl (fun w R K x h hk => drop1_s h hk) fun v' w2 h2 => ?_
  refine messages_s h2 (fun g hg => own_rd hg) (Nat.le_trans (List.length_filter_le _ _) hl) fun v3 w3 h3 => ?_
  exact hk _ _ (h3.selR [_, _, _, _] [_, _] [0, 2] (by decide) rfl)

/-- What is held behind the first j steps. -/
def dropK (l : List Int) (j : Nat) : List Kept := (List.range j).map fun i => ⟨⟨l.getD i 0, 0, 0⟩, ⟨⟨0, 0, 0⟩, 0, 0, i⟩⟩
def dropN (l : List Int) (a : Int) (j : Nat) : Nat := ((List.range j).filter fun i => decide (l.getD i 0 < a)).length
theorem dropP_eq (c a : Int) (m : Msg) : dropP ⟨a, 0, 0⟩ ⟨⟨c, 0, 0⟩, m⟩ = !decide (c < a) := by
  unfold dropP cmpK cmpI
  simp only [Int.lt_irrefl, if_false]
  by_cases h : c < a
  · simp [h]
  · by_cases h2 : a < c
    · simp [h, h2]
    · simp [h, h2]
theorem dropK_not (l : List Int) (a : Int) (j : Nat) : (dropK l j).filter (fun x => !dropP ⟨a, 0, 0⟩ x) = ((List.range j).filter fun i => decide (l.getD i 0 < a)).map fun i : Nat => (⟨⟨l.getD i 0, 0, 0⟩, ⟨⟨0, 0, 0⟩, 0, 0, i⟩⟩ : Kept) := by
  unfold dropK
  rw [List.filter_map]
  congr 1
  apply List.filter_congr
  intro i _
  simp only [Function.comp, dropP_eq, Bool.not_not]
theorem dropK_yes (l : List Int) (a : Int) (j : Nat) : ((dropK l j).filter (dropP ⟨a, 0, 0⟩)).length + dropN l a j = j := by
  have h1 : ((dropK l j).filter (dropP ⟨a, 0, 0⟩)).length = ((List.range j).filter fun i => !decide (l.getD i 0 < a)).length := by
    unfold dropK
    rw [List.filter_map, List.length_map]
    congr 1
    apply List.filter_congr
    intro i _
    simp only [Function.comp, dropP_eq]
  rw [h1]
  unfold dropN
  have h2 := List.length_eq_countP_add_countP (fun i => decide (l.getD i 0 < a)) (l := List.range j)
  rw [List.length_range] at h2
  rw [List.countP_eq_length_filter, List.countP_eq_length_filter] at h2
  have h3 : ((List.range j).filter fun i => !decide (l.getD i 0 < a)).length = ((List.range j).filter fun i => decide (¬ (decide (l.getD i 0 < a)) = true)).length := by
    congr 1
    apply List.filter_congr
    intro i _
    cases decide (l.getD i 0 < a) <;> rfl
  omega

theorem wf8 {n : Int} (h : (Lit.int .u8 n).wf = true) : 0 ≤ n ∧ n ≤ 255 := by
  simp only [Lit.wf, IntKind.min, IntKind.max, IntKind.signed, IntKind.bits] at h
  simp at h
  omega

end Go.Proofs.Ytdiglafiimnfoaa
