/- Printed by prt.py: the Go functions of this seat as shallow predicate transformers. Conditions: none. -/
import Derived.Test.YtlmakkjbcmhaeaaEngO
import Derived.Test.YtlmakkjbcmhaeaaPfHead
import Derived.Test.YtlmakkjbcmhaeaaEngM
import Derived.KernelRfl
namespace Go.Proofs.Ytlmakkjbcmhaeaa
open Go Go.E
set_option linter.unusedVariables false
set_option maxRecDepth 100000
theorem zero_2 : zeroD prog 2 = #[(Value.int IntKind.i64 0)] := by kernel_rfl
theorem zero_3 : zeroD prog 3 = #[(Value.int IntKind.i64 0)] := by kernel_rfl
theorem zero_4 : zeroD prog 4 = #[(Value.bool false)] := by kernel_rfl
theorem zero_5 : zeroD prog 5 = #[(Value.int IntKind.u8 0)] := by kernel_rfl
theorem zero_6 : zeroD prog 6 = #[(Value.int IntKind.u8 0)] := by kernel_rfl
theorem zero_7 : zeroD prog 7 = #[(Value.int IntKind.i64 0), (Value.int IntKind.i64 0), (Value.bool false), (Value.int IntKind.u8 0)] := by kernel_rfl
theorem zero_8 : zeroD prog 8 = #[(Value.int IntKind.i64 0), (Value.int IntKind.i64 0), (Value.bool false), (Value.int IntKind.u8 0)] := by kernel_rfl
theorem zero_9 : zeroD prog 9 = #[(Value.string { data := #[] })] := by kernel_rfl
theorem zero_10 : zeroD prog 10 = #[(Value.string { data := #[] })] := by kernel_rfl
theorem zero_11 : zeroD prog 11 = #[(Value.string { data := #[] })] := by kernel_rfl
theorem zero_12 : zeroD prog 12 = #[(Value.int IntKind.u64 0)] := by kernel_rfl
theorem zero_13 : zeroD prog 13 = #[(Value.string { data := #[] }), (Value.int IntKind.u64 0)] := by kernel_rfl
theorem zero_14 : zeroD prog 14 = #[(Value.string { data := #[] }), (Value.int IntKind.u64 0)] := by kernel_rfl
theorem zero_15 : zeroD prog 15 = #[(Value.pointer none)] := by kernel_rfl
theorem zero_16 : zeroD prog 16 = #[(Value.pointer none)] := by kernel_rfl
theorem zero_17 : zeroD prog 17 = #[(Value.pointer none)] := by kernel_rfl
theorem zero_18 : zeroD prog 18 = #[(Value.pointer none)] := by kernel_rfl
theorem zero_19 : zeroD prog 19 = #[(Value.pointer none)] := by kernel_rfl
theorem zero_20 : zeroD prog 20 = #[Value.nilIface] := by kernel_rfl
theorem zero_21 : zeroD prog 21 = #[(Value.int IntKind.i32 0)] := by kernel_rfl
theorem zero_22 : zeroD prog 22 = #[(Value.int IntKind.u16 0)] := by kernel_rfl
theorem zero_23 : zeroD prog 23 = #[(Value.slice none 0 0)] := by kernel_rfl
theorem und_23 : prog.underlying 23 = some (.slice 22) := by kernel_rfl
theorem te_23 : TE prog 23 22 1 2 := ⟨und_23, ⟨Go.Proofs.Try.t22, (match Go.Proofs.Try.t22.zero with | some z => z | none => undef), by kernel_rfl, by kernel_rfl, by kernel_rfl, by kernel_rfl, by kernel_rfl⟩, by decide⟩
theorem zero_24 : zeroD prog 24 = #[(Value.pointer none)] := by kernel_rfl
theorem zero_26 : zeroD prog 26 = #[(Value.slice none 0 0)] := by kernel_rfl
theorem und_26 : prog.underlying 26 = some (.slice 3) := by kernel_rfl
theorem te_26 : TE prog 26 3 1 8 := ⟨und_26, ⟨Go.Proofs.Try.t3, (match Go.Proofs.Try.t3.zero with | some z => z | none => undef), by kernel_rfl, by kernel_rfl, by kernel_rfl, by kernel_rfl, by kernel_rfl⟩, by decide⟩
theorem zero_27 : zeroD prog 27 = #[(Value.int IntKind.i64 0)] := by kernel_rfl
theorem zero_29 : zeroD prog 29 = #[(Value.int IntKind.i64 0), (Value.int IntKind.i64 0), (Value.int IntKind.i64 0)] := by kernel_rfl
theorem eqT_29 : eqT prog 6 29 = some 3 := by kernel_rfl
theorem agg_29 : isAggT prog 29 = true := by kernel_rfl
theorem egt_29 : prog.eqGuardType prog.depth 29 = false := by kernel_rfl
theorem zero_30 : zeroD prog 30 = #[(Value.int IntKind.i64 0), (Value.int IntKind.i64 0), (Value.int IntKind.i64 0)] := by kernel_rfl
theorem eqT_30 : eqT prog 6 30 = some 3 := by kernel_rfl
theorem agg_30 : isAggT prog 30 = true := by kernel_rfl
theorem egt_30 : prog.eqGuardType prog.depth 30 = false := by kernel_rfl
theorem zero_31 : zeroD prog 31 = #[(Value.int IntKind.i64 0), (Value.int IntKind.i64 0), (Value.int IntKind.i64 0), (Value.int IntKind.i64 0), (Value.int IntKind.i64 0), (Value.int IntKind.i64 0)] := by kernel_rfl
theorem eqT_31 : eqT prog 6 31 = some 6 := by kernel_rfl
theorem agg_31 : isAggT prog 31 = true := by kernel_rfl
theorem egt_31 : prog.eqGuardType prog.depth 31 = false := by kernel_rfl
theorem zero_32 : zeroD prog 32 = #[(Value.int IntKind.i64 0), (Value.int IntKind.i64 0), (Value.int IntKind.i64 0), (Value.int IntKind.i64 0), (Value.int IntKind.i64 0), (Value.int IntKind.i64 0)] := by kernel_rfl
theorem eqT_32 : eqT prog 6 32 = some 6 := by kernel_rfl
theorem agg_32 : isAggT prog 32 = true := by kernel_rfl
theorem egt_32 : prog.eqGuardType prog.depth 32 = false := by kernel_rfl
theorem zero_36 : zeroD prog 36 = #[(Value.slice none 0 0)] := by kernel_rfl
theorem und_36 : prog.underlying 36 = some (.slice 32) := by kernel_rfl
theorem te_36 : TE prog 36 32 6 48 := ⟨und_36, ⟨Go.Proofs.Try.t32, (match Go.Proofs.Try.t32.zero with | some z => z | none => undef), by kernel_rfl, by kernel_rfl, by kernel_rfl, by kernel_rfl, by kernel_rfl⟩, by decide⟩
theorem zero_37 : zeroD prog 37 = #[(Value.pointer none)] := by kernel_rfl
theorem zero_41 : zeroD prog 41 = #[(Value.pointer none)] := by kernel_rfl
theorem zero_42 : zeroD prog 42 = #[(Value.pointer none), (Value.int IntKind.i64 0)] := by kernel_rfl
theorem zero_43 : zeroD prog 43 = #[(Value.pointer none), (Value.int IntKind.i64 0)] := by kernel_rfl
theorem zero_47 : zeroD prog 47 = #[(Value.slice none 0 0)] := by kernel_rfl
theorem und_47 : prog.underlying 47 = some (.slice 49) := by kernel_rfl
theorem te_47 : TE prog 47 49 7 56 := ⟨und_47, ⟨Go.Proofs.Try.t49, (match Go.Proofs.Try.t49.zero with | some z => z | none => undef), by kernel_rfl, by kernel_rfl, by kernel_rfl, by kernel_rfl, by kernel_rfl⟩, by decide⟩
theorem zero_48 : zeroD prog 48 = #[(Value.int IntKind.i64 0), (Value.int IntKind.i64 0), (Value.int IntKind.i64 0), (Value.int IntKind.i64 0), (Value.int IntKind.i64 0), (Value.int IntKind.i64 0), (Value.int IntKind.i64 0)] := by kernel_rfl
theorem eqT_48 : eqT prog 6 48 = some 7 := by kernel_rfl
theorem agg_48 : isAggT prog 48 = true := by kernel_rfl
theorem egt_48 : prog.eqGuardType prog.depth 48 = false := by kernel_rfl
theorem zero_49 : zeroD prog 49 = #[(Value.int IntKind.i64 0), (Value.int IntKind.i64 0), (Value.int IntKind.i64 0), (Value.int IntKind.i64 0), (Value.int IntKind.i64 0), (Value.int IntKind.i64 0), (Value.int IntKind.i64 0)] := by kernel_rfl
theorem eqT_49 : eqT prog 6 49 = some 7 := by kernel_rfl
theorem agg_49 : isAggT prog 49 = true := by kernel_rfl
theorem egt_49 : prog.eqGuardType prog.depth 49 = false := by kernel_rfl
theorem zero_53 : zeroD prog 53 = #[(Value.pointer none)] := by kernel_rfl
theorem zero_56 : zeroD prog 56 = #[(Value.slice none 0 0), (Value.slice none 0 0), (Value.slice none 0 0), (Value.slice none 0 0), (Value.slice none 0 0), (Value.slice none 0 0), (Value.slice none 0 0), (Value.slice none 0 0)] := by kernel_rfl
theorem zero_57 : zeroD prog 57 = #[(Value.int IntKind.i64 0), (Value.int IntKind.i64 0), (Value.int IntKind.i64 0), (Value.slice none 0 0), (Value.slice none 0 0), (Value.slice none 0 0), (Value.slice none 0 0), (Value.slice none 0 0), (Value.slice none 0 0), (Value.slice none 0 0), (Value.slice none 0 0)] := by kernel_rfl
theorem zero_58 : zeroD prog 58 = #[(Value.int IntKind.i64 0), (Value.int IntKind.i64 0), (Value.int IntKind.i64 0), (Value.slice none 0 0), (Value.slice none 0 0), (Value.slice none 0 0), (Value.slice none 0 0), (Value.slice none 0 0), (Value.slice none 0 0), (Value.slice none 0 0), (Value.slice none 0 0)] := by kernel_rfl
theorem zero_60 : zeroD prog 60 = #[(Value.pointer none)] := by kernel_rfl
theorem zero_68 : zeroD prog 68 = #[(Value.int IntKind.i64 0), (Value.slice none 0 0)] := by kernel_rfl
theorem zero_69 : zeroD prog 69 = #[(Value.int IntKind.i64 0), (Value.slice none 0 0)] := by kernel_rfl
theorem zero_75 : zeroD prog 75 = #[(Value.map none)] := by kernel_rfl
theorem und_75 : prog.underlying 75 = some (.map 30 3) := by kernel_rfl
theorem mapT_75 : MapT prog 75 30 3 (Value.int IntKind.i64 0) := ⟨und_75, ⟨Go.Proofs.Try.t3, by kernel_rfl, by kernel_rfl⟩⟩
theorem zero_76 : zeroD prog 76 = #[(Value.int IntKind.i64 0), (Value.slice none 0 0), (Value.map none)] := by kernel_rfl
theorem zero_77 : zeroD prog 77 = #[(Value.int IntKind.i64 0), (Value.slice none 0 0), (Value.map none)] := by kernel_rfl
theorem zero_79 : zeroD prog 79 = #[(Value.pointer none)] := by kernel_rfl
theorem zero_80 : zeroD prog 80 = #[(Value.pointer none)] := by kernel_rfl
theorem zero_84 : zeroD prog 84 = #[(Value.int IntKind.u64 0)] := by kernel_rfl
theorem zero_93 : zeroD prog 93 = #[Value.nilIface] := by kernel_rfl
theorem zero_94 : zeroD prog 94 = #[Value.nilIface] := by kernel_rfl
theorem zero_101 : zeroD prog 101 = #[(Value.int IntKind.i64 0)] := by kernel_rfl
theorem zero_108 : zeroD prog 108 = #[(Value.int IntKind.u32 0)] := by kernel_rfl
theorem zero_110 : zeroD prog 110 = #[(Value.int IntKind.u64 0)] := by kernel_rfl
theorem zero_112 : zeroD prog 112 = #[(Value.int IntKind.u64 0)] := by kernel_rfl
theorem zero_116 : zeroD prog 116 = #[(Value.pointer none)] := by kernel_rfl
theorem zero_118 : zeroD prog 118 = #[(Value.pointer none)] := by kernel_rfl
theorem zero_122 : zeroD prog 122 = #[(Value.pointer none), (Value.pointer none), (Value.pointer none), (Value.string { data := #[] })] := by kernel_rfl
theorem zero_123 : zeroD prog 123 = #[(Value.pointer none), (Value.pointer none), (Value.pointer none), (Value.string { data := #[] })] := by kernel_rfl
theorem zero_124 : zeroD prog 124 = #[] := by kernel_rfl
theorem zero_125 : zeroD prog 125 = #[] := by kernel_rfl
theorem zero_126 : zeroD prog 126 = #[] := by kernel_rfl
theorem zero_127 : zeroD prog 127 = #[(Value.int IntKind.u8 0)] := by kernel_rfl
theorem zero_128 : zeroD prog 128 = #[(Value.int IntKind.u8 0)] := by kernel_rfl
theorem zero_130 : zeroD prog 130 = #[(Value.pointer none)] := by kernel_rfl
theorem zero_131 : zeroD prog 131 = #[(Value.int IntKind.i32 0)] := by kernel_rfl
theorem zero_132 : zeroD prog 132 = #[(Value.int IntKind.i32 0)] := by kernel_rfl
theorem zero_133 : zeroD prog 133 = #[(Value.int IntKind.u64 0), (Value.int IntKind.u64 0), (Value.int IntKind.u32 0), (Value.int IntKind.u8 0), (Value.int IntKind.u8 0), (Value.int IntKind.u8 0), (Value.int IntKind.u8 0), Value.nilFunc, (Value.pointer none), (Value.int IntKind.i32 0), (Value.int IntKind.i32 0)] := by kernel_rfl
theorem zero_134 : zeroD prog 134 = #[(Value.int IntKind.u64 0), (Value.int IntKind.u64 0), (Value.int IntKind.u32 0), (Value.int IntKind.u8 0), (Value.int IntKind.u8 0), (Value.int IntKind.u8 0), (Value.int IntKind.u8 0), Value.nilFunc, (Value.pointer none), (Value.int IntKind.i32 0), (Value.int IntKind.i32 0)] := by kernel_rfl
end Go.Proofs.Ytlmakkjbcmhaeaa
