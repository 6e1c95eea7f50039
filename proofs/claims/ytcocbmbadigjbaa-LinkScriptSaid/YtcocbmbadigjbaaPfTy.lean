/- Printed by prt.py: the Go functions of this seat as shallow predicate transformers. Conditions: none. -/
import Derived.Test.YtcocbmbadigjbaaEngO
import Derived.Test.YtcocbmbadigjbaaEngY
import Derived.Test.YtcocbmbadigjbaaPfHead
import Derived.Test.YtcocbmbadigjbaaEngM
import Derived.KernelRfl
namespace Go.Proofs.Ytcocbmbadigjbaa
open Go Go.E
set_option linter.unusedVariables false
set_option maxRecDepth 100000
theorem zero_2 : zeroD prog 2 = #[(Value.int IntKind.i64 0)] := by kernel_rfl
theorem zero_3 : zeroD prog 3 = #[(Value.int IntKind.i64 0)] := by kernel_rfl
theorem zero_4 : zeroD prog 4 = #[(Value.bool false)] := by kernel_rfl
theorem zero_5 : zeroD prog 5 = #[(Value.int IntKind.u8 0)] := by kernel_rfl
theorem zero_6 : zeroD prog 6 = #[(Value.int IntKind.u8 0)] := by kernel_rfl
theorem zero_7 : zeroD prog 7 = #[(Value.int IntKind.i64 0), (Value.int IntKind.i64 0), (Value.bool false), (Value.int IntKind.u8 0)] := by kernel_rfl
theorem zero_8 : zeroD prog 8 = #[(Value.int IntKind.i64 0), (Value.int IntKind.i64 0), (Value.bool false), (Value.int IntKind.u8 0)] := by kernel_rfl
theorem zero_9 : zeroD prog 9 = #[(Value.string { data := #[] })] := by kernel_rfl
theorem zero_10 : zeroD prog 10 = #[(Value.string { data := #[] })] := by kernel_rfl
theorem zero_11 : zeroD prog 11 = #[(Value.string { data := #[] })] := by kernel_rfl
theorem zero_12 : zeroD prog 12 = #[(Value.int IntKind.u64 0)] := by kernel_rfl
theorem zero_13 : zeroD prog 13 = #[(Value.string { data := #[] }), (Value.int IntKind.u64 0)] := by kernel_rfl
theorem zero_14 : zeroD prog 14 = #[(Value.string { data := #[] }), (Value.int IntKind.u64 0)] := by kernel_rfl
theorem zero_15 : zeroD prog 15 = #[(Value.pointer none)] := by kernel_rfl
theorem zero_16 : zeroD prog 16 = #[(Value.pointer none)] := by kernel_rfl
theorem zero_17 : zeroD prog 17 = #[(Value.pointer none)] := by kernel_rfl
theorem zero_18 : zeroD prog 18 = #[(Value.pointer none)] := by kernel_rfl
theorem zero_19 : zeroD prog 19 = #[(Value.pointer none)] := by kernel_rfl
theorem zero_20 : zeroD prog 20 = #[Value.nilIface] := by kernel_rfl
theorem zero_21 : zeroD prog 21 = #[(Value.int IntKind.i32 0)] := by kernel_rfl
theorem zero_22 : zeroD prog 22 = #[(Value.slice none 0 0)] := by kernel_rfl
theorem und_22 : prog.underlying 22 = some (.slice 35) := by kernel_rfl
theorem te_22 : TE prog 22 35 11 88 := ⟨und_22, ⟨Go.Proofs.Try.t35, (match Go.Proofs.Try.t35.zero with | some z => z | none => undef), by kernel_rfl, by kernel_rfl, by kernel_rfl, by kernel_rfl, by kernel_rfl⟩, by decide⟩
theorem zero_23 : zeroD prog 23 = #[(Value.pointer none)] := by kernel_rfl
theorem zero_24 : zeroD prog 24 = #[(Value.int IntKind.i64 0)] := by kernel_rfl
theorem zero_27 : zeroD prog 27 = #[(Value.slice none 0 0)] := by kernel_rfl
theorem und_27 : prog.underlying 27 = some (.slice 33) := by kernel_rfl
theorem te_27 : TE prog 27 33 8 64 := ⟨und_27, ⟨Go.Proofs.Try.t33, (match Go.Proofs.Try.t33.zero with | some z => z | none => undef), by kernel_rfl, by kernel_rfl, by kernel_rfl, by kernel_rfl, by kernel_rfl⟩, by decide⟩
theorem zero_28 : zeroD prog 28 = #[(Value.int IntKind.i64 0), (Value.int IntKind.i64 0), (Value.int IntKind.i64 0)] := by kernel_rfl
theorem eqT_28 : eqT prog 6 28 = some 3 := by kernel_rfl
theorem agg_28 : isAggT prog 28 = true := by kernel_rfl
theorem egt_28 : prog.eqGuardType prog.depth 28 = false := by kernel_rfl
theorem zero_29 : zeroD prog 29 = #[(Value.int IntKind.i64 0), (Value.int IntKind.i64 0), (Value.int IntKind.i64 0)] := by kernel_rfl
theorem eqT_29 : eqT prog 6 29 = some 3 := by kernel_rfl
theorem agg_29 : isAggT prog 29 = true := by kernel_rfl
theorem egt_29 : prog.eqGuardType prog.depth 29 = false := by kernel_rfl
theorem zero_30 : zeroD prog 30 = #[(Value.int IntKind.i64 0), (Value.int IntKind.i64 0), (Value.int IntKind.i64 0), (Value.int IntKind.i64 0), (Value.int IntKind.i64 0), (Value.int IntKind.i64 0)] := by kernel_rfl
theorem eqT_30 : eqT prog 6 30 = some 6 := by kernel_rfl
theorem agg_30 : isAggT prog 30 = true := by kernel_rfl
theorem egt_30 : prog.eqGuardType prog.depth 30 = false := by kernel_rfl
theorem zero_31 : zeroD prog 31 = #[(Value.int IntKind.i64 0), (Value.int IntKind.i64 0), (Value.int IntKind.i64 0), (Value.int IntKind.i64 0), (Value.int IntKind.i64 0), (Value.int IntKind.i64 0)] := by kernel_rfl
theorem eqT_31 : eqT prog 6 31 = some 6 := by kernel_rfl
theorem agg_31 : isAggT prog 31 = true := by kernel_rfl
theorem egt_31 : prog.eqGuardType prog.depth 31 = false := by kernel_rfl
theorem zero_32 : zeroD prog 32 = #[(Value.int IntKind.i64 0), (Value.int IntKind.i64 0), (Value.int IntKind.i64 0), (Value.int IntKind.i64 0), (Value.int IntKind.i64 0), (Value.int IntKind.i64 0), (Value.int IntKind.i64 0), (Value.int IntKind.i64 0)] := by kernel_rfl
theorem eqT_32 : eqT prog 6 32 = some 8 := by kernel_rfl
theorem agg_32 : isAggT prog 32 = true := by kernel_rfl
theorem egt_32 : prog.eqGuardType prog.depth 32 = false := by kernel_rfl
theorem zero_33 : zeroD prog 33 = #[(Value.int IntKind.i64 0), (Value.int IntKind.i64 0), (Value.int IntKind.i64 0), (Value.int IntKind.i64 0), (Value.int IntKind.i64 0), (Value.int IntKind.i64 0), (Value.int IntKind.i64 0), (Value.int IntKind.i64 0)] := by kernel_rfl
theorem eqT_33 : eqT prog 6 33 = some 8 := by kernel_rfl
theorem agg_33 : isAggT prog 33 = true := by kernel_rfl
theorem egt_33 : prog.eqGuardType prog.depth 33 = false := by kernel_rfl
theorem zero_34 : zeroD prog 34 = #[(Value.int IntKind.i64 0), (Value.int IntKind.i64 0), (Value.int IntKind.i64 0), (Value.int IntKind.i64 0), (Value.int IntKind.i64 0), (Value.int IntKind.i64 0), (Value.int IntKind.i64 0), (Value.int IntKind.i64 0), (Value.int IntKind.i64 0), (Value.int IntKind.i64 0), (Value.int IntKind.i64 0)] := by kernel_rfl
theorem eqT_34 : eqT prog 6 34 = some 11 := by kernel_rfl
theorem agg_34 : isAggT prog 34 = true := by kernel_rfl
theorem egt_34 : prog.eqGuardType prog.depth 34 = false := by kernel_rfl
theorem zero_35 : zeroD prog 35 = #[(Value.int IntKind.i64 0), (Value.int IntKind.i64 0), (Value.int IntKind.i64 0), (Value.int IntKind.i64 0), (Value.int IntKind.i64 0), (Value.int IntKind.i64 0), (Value.int IntKind.i64 0), (Value.int IntKind.i64 0), (Value.int IntKind.i64 0), (Value.int IntKind.i64 0), (Value.int IntKind.i64 0)] := by kernel_rfl
theorem eqT_35 : eqT prog 6 35 = some 11 := by kernel_rfl
theorem agg_35 : isAggT prog 35 = true := by kernel_rfl
theorem egt_35 : prog.eqGuardType prog.depth 35 = false := by kernel_rfl
theorem zero_44 : zeroD prog 44 = #[(Value.pointer none)] := by kernel_rfl
theorem zero_55 : zeroD prog 55 = #[(Value.pointer none)] := by kernel_rfl
theorem zero_57 : zeroD prog 57 = #[(Value.int IntKind.u64 0)] := by kernel_rfl
theorem zero_61 : zeroD prog 61 = #[(Value.slice none 0 0)] := by kernel_rfl
theorem und_61 : prog.underlying 61 = some (.slice 3) := by kernel_rfl
theorem te_61 : TE prog 61 3 1 8 := ⟨und_61, ⟨Go.Proofs.Try.t3, (match Go.Proofs.Try.t3.zero with | some z => z | none => undef), by kernel_rfl, by kernel_rfl, by kernel_rfl, by kernel_rfl, by kernel_rfl⟩, by decide⟩
theorem zero_63 : zeroD prog 63 = #[(Value.slice none 0 0)] := by kernel_rfl
theorem und_63 : prog.underlying 63 = some (.slice 27) := by kernel_rfl
theorem te_63 : TE prog 63 27 1 24 := ⟨und_63, ⟨Go.Proofs.Try.t27, (match Go.Proofs.Try.t27.zero with | some z => z | none => undef), by kernel_rfl, by kernel_rfl, by kernel_rfl, by kernel_rfl, by kernel_rfl⟩, by decide⟩
theorem zero_64 : zeroD prog 64 = #[(Value.int IntKind.i64 0), (Value.int IntKind.i64 0), (Value.slice none 0 0)] := by kernel_rfl
theorem zero_65 : zeroD prog 65 = #[(Value.int IntKind.i64 0), (Value.int IntKind.i64 0), (Value.slice none 0 0)] := by kernel_rfl
theorem zero_69 : zeroD prog 69 = #[(Value.pointer none), (Value.pointer none), (Value.pointer none), (Value.string { data := #[] })] := by kernel_rfl
theorem zero_70 : zeroD prog 70 = #[(Value.pointer none), (Value.pointer none), (Value.pointer none), (Value.string { data := #[] })] := by kernel_rfl
theorem zero_71 : zeroD prog 71 = #[] := by kernel_rfl
theorem zero_72 : zeroD prog 72 = #[] := by kernel_rfl
theorem zero_73 : zeroD prog 73 = #[] := by kernel_rfl
theorem zero_74 : zeroD prog 74 = #[(Value.int IntKind.u32 0)] := by kernel_rfl
theorem zero_75 : zeroD prog 75 = #[(Value.int IntKind.u8 0)] := by kernel_rfl
theorem zero_76 : zeroD prog 76 = #[(Value.int IntKind.u8 0)] := by kernel_rfl
theorem zero_78 : zeroD prog 78 = #[(Value.pointer none)] := by kernel_rfl
theorem zero_79 : zeroD prog 79 = #[(Value.int IntKind.i32 0)] := by kernel_rfl
theorem zero_80 : zeroD prog 80 = #[(Value.int IntKind.i32 0)] := by kernel_rfl
theorem zero_81 : zeroD prog 81 = #[(Value.int IntKind.u64 0), (Value.int IntKind.u64 0), (Value.int IntKind.u32 0), (Value.int IntKind.u8 0), (Value.int IntKind.u8 0), (Value.int IntKind.u8 0), (Value.int IntKind.u8 0), Value.nilFunc, (Value.pointer none), (Value.int IntKind.i32 0), (Value.int IntKind.i32 0)] := by kernel_rfl
theorem zero_82 : zeroD prog 82 = #[(Value.int IntKind.u64 0), (Value.int IntKind.u64 0), (Value.int IntKind.u32 0), (Value.int IntKind.u8 0), (Value.int IntKind.u8 0), (Value.int IntKind.u8 0), (Value.int IntKind.u8 0), Value.nilFunc, (Value.pointer none), (Value.int IntKind.i32 0), (Value.int IntKind.i32 0)] := by kernel_rfl
end Go.Proofs.Ytcocbmbadigjbaa
