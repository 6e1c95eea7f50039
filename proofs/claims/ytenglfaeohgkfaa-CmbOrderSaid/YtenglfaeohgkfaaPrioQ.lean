/- The document's queues: First, Pop, Remove, Without, Len, List, Below. Conditions: at most a thousand messages. -/
import Derived.Test.YtenglfaeohgkfaaPrioR
namespace Go.Proofs.Ytenglfaeohgkfaa
open Go Go.E
set_option maxRecDepth 100000
variable {e w : World} {R : List HP} {K : KV}

def without (l : List Msg) (k : Key) : List Msg := l.filter fun x => !decide (x.key = k)
theorem filterM_snoc {p : Msg → Bool} {l : List Msg} {j : Nat} {x : Msg} (hx : l[j]? = some x) : (l.take (j + 1)).filter p = (l.take j).filter p ++ if p x then [x] else [] := by
  rw [take_snoc hx, List.filter_append]
  cases hpx : p x <;> simp [hpx]
end Go.Proofs.Ytenglfaeohgkfaa
