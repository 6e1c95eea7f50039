/- Printed by prt.py: the Go functions of this seat as shallow predicate transformers. Conditions: none. -/
import Derived.Test.YtbfjpmbgjgjckaaEngO
import Derived.Test.YtbfjpmbgjgjckaaPfHead
import Derived.Test.YtbfjpmbgjgjckaaEngM
import Derived.KernelRfl
namespace Go.Proofs.Ytbfjpmbgjgjckaa
open Go Go.E
set_option linter.unusedVariables false
set_option maxRecDepth 100000
theorem zero_2 : zeroD prog 2 = #[(Value.int IntKind.i64 0)] := by kernel_rfl
theorem zero_3 : zeroD prog 3 = #[(Value.int IntKind.i64 0)] := by kernel_rfl
theorem zero_4 : zeroD prog 4 = #[(Value.bool false)] := by kernel_rfl
theorem zero_5 : zeroD prog 5 = #[(Value.int IntKind.u8 0)] := by kernel_rfl
theorem zero_6 : zeroD prog 6 = #[(Value.int IntKind.u8 0)] := by kernel_rfl
theorem zero_7 : zeroD prog 7 = #[(Value.int IntKind.i64 0), (Value.int IntKind.i64 0), (Value.bool false), (Value.int IntKind.u8 0)] := by kernel_rfl
theorem zero_8 : zeroD prog 8 = #[(Value.int IntKind.i64 0), (Value.int IntKind.i64 0), (Value.bool false), (Value.int IntKind.u8 0)] := by kernel_rfl
theorem zero_9 : zeroD prog 9 = #[(Value.string { data := #[] })] := by kernel_rfl
theorem zero_10 : zeroD prog 10 = #[(Value.string { data := #[] })] := by kernel_rfl
theorem zero_11 : zeroD prog 11 = #[(Value.string { data := #[] })] := by kernel_rfl
theorem zero_12 : zeroD prog 12 = #[(Value.int IntKind.u64 0)] := by kernel_rfl
theorem zero_13 : zeroD prog 13 = #[(Value.string { data := #[] }), (Value.int IntKind.u64 0)] := by kernel_rfl
theorem zero_14 : zeroD prog 14 = #[(Value.string { data := #[] }), (Value.int IntKind.u64 0)] := by kernel_rfl
theorem zero_15 : zeroD prog 15 = #[(Value.pointer none)] := by kernel_rfl
theorem zero_16 : zeroD prog 16 = #[(Value.pointer none)] := by kernel_rfl
theorem zero_17 : zeroD prog 17 = #[(Value.pointer none)] := by kernel_rfl
theorem zero_18 : zeroD prog 18 = #[(Value.pointer none)] := by kernel_rfl
theorem zero_19 : zeroD prog 19 = #[(Value.pointer none)] := by kernel_rfl
theorem zero_20 : zeroD prog 20 = #[Value.nilIface] := by kernel_rfl
theorem zero_21 : zeroD prog 21 = #[(Value.int IntKind.i32 0)] := by kernel_rfl
theorem zero_22 : zeroD prog 22 = #[(Value.slice none 0 0)] := by kernel_rfl
theorem und_22 : prog.underlying 22 = some (.slice 30) := by kernel_rfl
theorem te_22 : TE prog 22 30 6 48 := ⟨und_22, ⟨Go.Proofs.Try.t30, (match Go.Proofs.Try.t30.zero with | some z => z | none => undef), by kernel_rfl, by kernel_rfl, by kernel_rfl, by kernel_rfl, by kernel_rfl⟩, by decide⟩
theorem zero_23 : zeroD prog 23 = #[(Value.pointer none)] := by kernel_rfl
theorem zero_25 : zeroD prog 25 = #[(Value.int IntKind.i64 0)] := by kernel_rfl
theorem zero_27 : zeroD prog 27 = #[(Value.int IntKind.i64 0), (Value.int IntKind.i64 0), (Value.int IntKind.i64 0)] := by kernel_rfl
theorem eqT_27 : eqT prog 6 27 = some 3 := by kernel_rfl
theorem agg_27 : isAggT prog 27 = true := by kernel_rfl
theorem egt_27 : prog.eqGuardType prog.depth 27 = false := by kernel_rfl
theorem zero_28 : zeroD prog 28 = #[(Value.int IntKind.i64 0), (Value.int IntKind.i64 0), (Value.int IntKind.i64 0)] := by kernel_rfl
theorem eqT_28 : eqT prog 6 28 = some 3 := by kernel_rfl
theorem agg_28 : isAggT prog 28 = true := by kernel_rfl
theorem egt_28 : prog.eqGuardType prog.depth 28 = false := by kernel_rfl
theorem zero_29 : zeroD prog 29 = #[(Value.int IntKind.i64 0), (Value.int IntKind.i64 0), (Value.int IntKind.i64 0), (Value.int IntKind.i64 0), (Value.int IntKind.i64 0), (Value.int IntKind.i64 0)] := by kernel_rfl
theorem eqT_29 : eqT prog 6 29 = some 6 := by kernel_rfl
theorem agg_29 : isAggT prog 29 = true := by kernel_rfl
theorem egt_29 : prog.eqGuardType prog.depth 29 = false := by kernel_rfl
theorem zero_30 : zeroD prog 30 = #[(Value.int IntKind.i64 0), (Value.int IntKind.i64 0), (Value.int IntKind.i64 0), (Value.int IntKind.i64 0), (Value.int IntKind.i64 0), (Value.int IntKind.i64 0)] := by kernel_rfl
theorem eqT_30 : eqT prog 6 30 = some 6 := by kernel_rfl
theorem agg_30 : isAggT prog 30 = true := by kernel_rfl
theorem egt_30 : prog.eqGuardType prog.depth 30 = false := by kernel_rfl
theorem zero_39 : zeroD prog 39 = #[(Value.slice none 0 0)] := by kernel_rfl
theorem und_39 : prog.underlying 39 = some (.slice 5) := by kernel_rfl
theorem te_39 : TE prog 39 5 1 1 := ⟨und_39, ⟨Go.Proofs.Try.t5, (match Go.Proofs.Try.t5.zero with | some z => z | none => undef), by kernel_rfl, by kernel_rfl, by kernel_rfl, by kernel_rfl, by kernel_rfl⟩, by decide⟩
theorem zero_45 : zeroD prog 45 = #[(Value.slice none 0 0)] := by kernel_rfl
theorem und_45 : prog.underlying 45 = some (.slice 49) := by kernel_rfl
theorem te_45 : TE prog 45 49 7 56 := ⟨und_45, ⟨Go.Proofs.Try.t49, (match Go.Proofs.Try.t49.zero with | some z => z | none => undef), by kernel_rfl, by kernel_rfl, by kernel_rfl, by kernel_rfl, by kernel_rfl⟩, by decide⟩
theorem zero_46 : zeroD prog 46 = #[(Value.pointer none)] := by kernel_rfl
theorem zero_48 : zeroD prog 48 = #[(Value.int IntKind.i64 0), (Value.int IntKind.i64 0), (Value.int IntKind.i64 0), (Value.int IntKind.i64 0), (Value.int IntKind.i64 0), (Value.int IntKind.i64 0), (Value.int IntKind.i64 0)] := by kernel_rfl
theorem eqT_48 : eqT prog 6 48 = some 7 := by kernel_rfl
theorem agg_48 : isAggT prog 48 = true := by kernel_rfl
theorem egt_48 : prog.eqGuardType prog.depth 48 = false := by kernel_rfl
theorem zero_49 : zeroD prog 49 = #[(Value.int IntKind.i64 0), (Value.int IntKind.i64 0), (Value.int IntKind.i64 0), (Value.int IntKind.i64 0), (Value.int IntKind.i64 0), (Value.int IntKind.i64 0), (Value.int IntKind.i64 0)] := by kernel_rfl
theorem eqT_49 : eqT prog 6 49 = some 7 := by kernel_rfl
theorem agg_49 : isAggT prog 49 = true := by kernel_rfl
theorem egt_49 : prog.eqGuardType prog.depth 49 = false := by kernel_rfl
theorem zero_51 : zeroD prog 51 = #[(Value.map none)] := by kernel_rfl
theorem und_51 : prog.underlying 51 = some (.map 28 3) := by kernel_rfl
theorem mapT_51 : MapT prog 51 28 3 (Value.int IntKind.i64 0) := ⟨und_51, ⟨Go.Proofs.Try.t3, by kernel_rfl, by kernel_rfl⟩⟩
theorem zero_52 : zeroD prog 52 = #[(Value.int IntKind.i64 0), (Value.slice none 0 0), (Value.map none)] := by kernel_rfl
theorem zero_53 : zeroD prog 53 = #[(Value.int IntKind.i64 0), (Value.slice none 0 0), (Value.map none)] := by kernel_rfl
theorem zero_56 : zeroD prog 56 = #[(Value.pointer none)] := by kernel_rfl
theorem zero_57 : zeroD prog 57 = #[(Value.pointer none)] := by kernel_rfl
theorem zero_65 : zeroD prog 65 = #[(Value.int IntKind.i64 0), (Value.slice none 0 0)] := by kernel_rfl
theorem zero_66 : zeroD prog 66 = #[(Value.int IntKind.i64 0), (Value.slice none 0 0)] := by kernel_rfl
theorem zero_68 : zeroD prog 68 = #[Value.nilIface] := by kernel_rfl
theorem zero_69 : zeroD prog 69 = #[Value.nilIface] := by kernel_rfl
theorem zero_74 : zeroD prog 74 = #[(Value.int IntKind.u64 0)] := by kernel_rfl
theorem zero_83 : zeroD prog 83 = #[(Value.int IntKind.i64 0)] := by kernel_rfl
theorem zero_90 : zeroD prog 90 = #[(Value.int IntKind.u32 0)] := by kernel_rfl
theorem zero_92 : zeroD prog 92 = #[(Value.int IntKind.u64 0)] := by kernel_rfl
theorem zero_93 : zeroD prog 93 = #[(Value.slice none 0 0)] := by kernel_rfl
theorem und_93 : prog.underlying 93 = some (.slice 3) := by kernel_rfl
theorem te_93 : TE prog 93 3 1 8 := ⟨und_93, ⟨Go.Proofs.Try.t3, (match Go.Proofs.Try.t3.zero with | some z => z | none => undef), by kernel_rfl, by kernel_rfl, by kernel_rfl, by kernel_rfl, by kernel_rfl⟩, by decide⟩
theorem zero_95 : zeroD prog 95 = #[(Value.int IntKind.u64 0)] := by kernel_rfl
theorem zero_99 : zeroD prog 99 = #[(Value.pointer none)] := by kernel_rfl
theorem zero_101 : zeroD prog 101 = #[(Value.pointer none)] := by kernel_rfl
theorem zero_105 : zeroD prog 105 = #[(Value.pointer none), (Value.pointer none), (Value.pointer none), (Value.string { data := #[] })] := by kernel_rfl
theorem zero_106 : zeroD prog 106 = #[(Value.pointer none), (Value.pointer none), (Value.pointer none), (Value.string { data := #[] })] := by kernel_rfl
theorem zero_107 : zeroD prog 107 = #[] := by kernel_rfl
theorem zero_108 : zeroD prog 108 = #[] := by kernel_rfl
theorem zero_109 : zeroD prog 109 = #[] := by kernel_rfl
theorem zero_110 : zeroD prog 110 = #[(Value.int IntKind.u8 0)] := by kernel_rfl
theorem zero_111 : zeroD prog 111 = #[(Value.int IntKind.u8 0)] := by kernel_rfl
theorem zero_113 : zeroD prog 113 = #[(Value.pointer none)] := by kernel_rfl
theorem zero_114 : zeroD prog 114 = #[(Value.int IntKind.i32 0)] := by kernel_rfl
theorem zero_115 : zeroD prog 115 = #[(Value.int IntKind.i32 0)] := by kernel_rfl
theorem zero_116 : zeroD prog 116 = #[(Value.int IntKind.u64 0), (Value.int IntKind.u64 0), (Value.int IntKind.u32 0), (Value.int IntKind.u8 0), (Value.int IntKind.u8 0), (Value.int IntKind.u8 0), (Value.int IntKind.u8 0), Value.nilFunc, (Value.pointer none), (Value.int IntKind.i32 0), (Value.int IntKind.i32 0)] := by kernel_rfl
theorem zero_117 : zeroD prog 117 = #[(Value.int IntKind.u64 0), (Value.int IntKind.u64 0), (Value.int IntKind.u32 0), (Value.int IntKind.u8 0), (Value.int IntKind.u8 0), (Value.int IntKind.u8 0), (Value.int IntKind.u8 0), Value.nilFunc, (Value.pointer none), (Value.int IntKind.i32 0), (Value.int IntKind.i32 0)] := by kernel_rfl
end Go.Proofs.Ytbfjpmbgjgjckaa
