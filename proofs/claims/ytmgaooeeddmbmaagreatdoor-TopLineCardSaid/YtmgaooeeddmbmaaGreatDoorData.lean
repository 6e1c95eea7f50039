/- The data of the program as Lean structures of integers, and their cells. Conditions: none. -/
import Derived.Test.YtmgaooeeddmbmaaGreatDoorEngH
namespace Go.E

structure Key where
  T : Int
  From : Int
  Seq : Int
  deriving DecidableEq
def Key.ns (k : Key) : List Int := [k.T, k.From, k.Seq]
abbrev Key.cs (k : Key) : List Value := ints k.ns
structure Msg where
  key : Key
  To : Int
  Class : Int
  Body : Int
  deriving DecidableEq
def Msg.ns (m : Msg) : List Int := [m.key.T, m.key.From, m.key.Seq, m.To, m.Class, m.Body]
abbrev Msg.cs (m : Msg) : List Value := ints m.ns
structure Kept where
  cause : Key
  m : Msg
  deriving DecidableEq
def Kept.ns (k : Kept) : List Int := [k.cause.T, k.cause.From, k.cause.Seq, k.m.key.T, k.m.key.From, k.m.key.Seq, k.m.To, k.m.Class, k.m.Body]
abbrev Kept.cs (k : Kept) : List Value := ints k.ns

theorem Key.eq_ns (a b : Key) : (a.ns == b.ns) = decide (a = b) := by
  rw [Bool.eq_iff_iff]
  obtain ⟨a1, a2, a3⟩ := a
  obtain ⟨b1, b2, b3⟩ := b
  simp [Key.ns]
theorem Msg.eq_ns (a b : Msg) : (a.ns == b.ns) = decide (a = b) := by
  rw [Bool.eq_iff_iff]
  obtain ⟨⟨a1, a2, a3⟩, a4, a5, a6⟩ := a
  obtain ⟨⟨b1, b2, b3⟩, b4, b5, b6⟩ := b
  simp [Msg.ns, and_assoc]
def Key.zero : Key := ⟨0, 0, 0⟩
def Msg.zero : Msg := ⟨⟨0, 0, 0⟩, 0, 0, 0⟩

theorem take_snoc {α : Type} {l : List α} {j : Nat} {x : α} (h : l[j]? = some x) : l.take (j + 1) = l.take j ++ [x] := by
  rw [List.take_add_one, h]; rfl
theorem get_of_lt {α : Type} {l : List α} {j : Nat} (h : j < l.length) : ∃ x, l[j]? = some x := ⟨l[j], List.getElem?_eq_getElem h⟩
/-- The number in a slot. -/
def nOf : Value → Nat
  | .int _ n => n.toNat
  | _ => 0

/-- The steps of the gate's laws. -/
structure GateStep where
  Kind : Int
  K : Key
  M : Msg
  deriving DecidableEq
def GateStep.ns (s : GateStep) : List Int := [s.Kind, s.K.T, s.K.From, s.K.Seq, s.M.key.T, s.M.key.From, s.M.key.Seq, s.M.To, s.M.Class, s.M.Body]
abbrev GateStep.cs (s : GateStep) : List Value := ints s.ns

def Key.of (l : List Int) : Key := ⟨l.getD 0 0, l.getD 1 0, l.getD 2 0⟩
theorem Key.of_cs {l : List Int} (h : l.length = 3) : (Key.of l).cs = ints l := by
  match l, h with
  | [_, _, _], _ => rfl
def Msg.of (l : List Int) : Msg := ⟨⟨l.getD 0 0, l.getD 1 0, l.getD 2 0⟩, l.getD 3 0, l.getD 4 0, l.getD 5 0⟩
theorem Msg.of_cs {l : List Int} (h : l.length = 6) : (Msg.of l).cs = ints l := by
  match l, h with
  | [_, _, _, _, _, _], _ => rfl
def GateStep.of (l : List Int) : GateStep := ⟨l.getD 0 0, ⟨l.getD 1 0, l.getD 2 0, l.getD 3 0⟩, ⟨⟨l.getD 4 0, l.getD 5 0, l.getD 6 0⟩, l.getD 7 0, l.getD 8 0, l.getD 9 0⟩⟩
theorem GateStep.of_cs {l : List Int} (h : l.length = 10) : (GateStep.of l).cs = ints l := by
  match l, h with
  | [_, _, _, _, _, _, _, _, _, _], _ => rfl

end Go.E
