/- Printed by prt.py: the Go functions of this seat as shallow predicate transformers. Conditions: none. -/
import Derived.Test.YtfcnjbannejchaaEngO
import Derived.Test.YtfcnjbannejchaaEngZ
import Derived.Test.YtfcnjbannejchaaPfHead
import Derived.Test.YtfcnjbannejchaaEngM
import Derived.KernelRfl
namespace Go.Proofs.Ytfcnjbannejchaa
open Go Go.E
set_option linter.unusedVariables false
set_option maxRecDepth 100000
theorem zero_2 : zeroD prog 2 = #[(Value.int IntKind.i64 0)] := by kernel_rfl
theorem zero_3 : zeroD prog 3 = #[(Value.int IntKind.i64 0)] := by kernel_rfl
theorem zero_4 : zeroD prog 4 = #[(Value.bool false)] := by kernel_rfl
theorem zero_5 : zeroD prog 5 = #[(Value.int IntKind.u8 0)] := by kernel_rfl
theorem zero_6 : zeroD prog 6 = #[(Value.int IntKind.u8 0)] := by kernel_rfl
theorem zero_7 : zeroD prog 7 = #[(Value.int IntKind.i64 0), (Value.int IntKind.i64 0), (Value.bool false), (Value.int IntKind.u8 0)] := by kernel_rfl
theorem zero_8 : zeroD prog 8 = #[(Value.int IntKind.i64 0), (Value.int IntKind.i64 0), (Value.bool false), (Value.int IntKind.u8 0)] := by kernel_rfl
theorem zero_9 : zeroD prog 9 = #[(Value.string { data := #[] })] := by kernel_rfl
theorem zero_10 : zeroD prog 10 = #[(Value.string { data := #[] })] := by kernel_rfl
theorem zero_11 : zeroD prog 11 = #[(Value.string { data := #[] })] := by kernel_rfl
theorem zero_12 : zeroD prog 12 = #[(Value.int IntKind.u64 0)] := by kernel_rfl
theorem zero_13 : zeroD prog 13 = #[(Value.string { data := #[] }), (Value.int IntKind.u64 0)] := by kernel_rfl
theorem zero_14 : zeroD prog 14 = #[(Value.string { data := #[] }), (Value.int IntKind.u64 0)] := by kernel_rfl
theorem zero_15 : zeroD prog 15 = #[(Value.pointer none)] := by kernel_rfl
theorem zero_16 : zeroD prog 16 = #[(Value.pointer none)] := by kernel_rfl
theorem zero_17 : zeroD prog 17 = #[(Value.pointer none)] := by kernel_rfl
theorem zero_18 : zeroD prog 18 = #[(Value.pointer none)] := by kernel_rfl
theorem zero_19 : zeroD prog 19 = #[(Value.pointer none)] := by kernel_rfl
theorem zero_20 : zeroD prog 20 = #[Value.nilIface] := by kernel_rfl
theorem zero_21 : zeroD prog 21 = #[(Value.int IntKind.i32 0)] := by kernel_rfl
theorem zero_22 : zeroD prog 22 = #[(Value.slice none 0 0)] := by kernel_rfl
theorem und_22 : prog.underlying 22 = some (.slice 3) := by kernel_rfl
theorem te_22 : TE prog 22 3 1 8 := ⟨und_22, ⟨Go.Proofs.Try.t3, (match Go.Proofs.Try.t3.zero with | some z => z | none => undef), by kernel_rfl, by kernel_rfl, by kernel_rfl, by kernel_rfl, by kernel_rfl⟩, by decide⟩
theorem zero_23 : zeroD prog 23 = #[(Value.slice none 0 0)] := by kernel_rfl
theorem und_23 : prog.underlying 23 = some (.slice 53) := by kernel_rfl
theorem te_23 : TE prog 23 53 7 120 := ⟨und_23, ⟨Go.Proofs.Try.t53, (match Go.Proofs.Try.t53.zero with | some z => z | none => undef), by kernel_rfl, by kernel_rfl, by kernel_rfl, by kernel_rfl, by kernel_rfl⟩, by decide⟩
theorem zero_24 : zeroD prog 24 = #[(Value.slice none 0 0), (Value.slice none 0 0), (Value.int IntKind.i64 0)] := by kernel_rfl
theorem zero_25 : zeroD prog 25 = #[(Value.slice none 0 0), (Value.slice none 0 0), (Value.int IntKind.i64 0)] := by kernel_rfl
theorem zero_28 : zeroD prog 28 = #[(Value.pointer none)] := by kernel_rfl
theorem zero_29 : zeroD prog 29 = #[(Value.int IntKind.i64 0)] := by kernel_rfl
theorem zero_34 : zeroD prog 34 = #[(Value.int IntKind.i64 0), (Value.int IntKind.i64 0), (Value.int IntKind.i64 0)] := by kernel_rfl
theorem eqT_34 : eqT prog 6 34 = some 3 := by kernel_rfl
theorem agg_34 : isAggT prog 34 = true := by kernel_rfl
theorem egt_34 : prog.eqGuardType prog.depth 34 = false := by kernel_rfl
theorem zero_35 : zeroD prog 35 = #[(Value.int IntKind.i64 0), (Value.int IntKind.i64 0), (Value.int IntKind.i64 0)] := by kernel_rfl
theorem eqT_35 : eqT prog 6 35 = some 3 := by kernel_rfl
theorem agg_35 : isAggT prog 35 = true := by kernel_rfl
theorem egt_35 : prog.eqGuardType prog.depth 35 = false := by kernel_rfl
theorem zero_36 : zeroD prog 36 = #[(Value.int IntKind.i64 0), (Value.int IntKind.i64 0), (Value.int IntKind.i64 0), (Value.int IntKind.i64 0), (Value.int IntKind.i64 0), (Value.int IntKind.i64 0)] := by kernel_rfl
theorem eqT_36 : eqT prog 6 36 = some 6 := by kernel_rfl
theorem agg_36 : isAggT prog 36 = true := by kernel_rfl
theorem egt_36 : prog.eqGuardType prog.depth 36 = false := by kernel_rfl
theorem zero_37 : zeroD prog 37 = #[(Value.int IntKind.i64 0), (Value.int IntKind.i64 0), (Value.int IntKind.i64 0), (Value.int IntKind.i64 0), (Value.int IntKind.i64 0), (Value.int IntKind.i64 0)] := by kernel_rfl
theorem eqT_37 : eqT prog 6 37 = some 6 := by kernel_rfl
theorem agg_37 : isAggT prog 37 = true := by kernel_rfl
theorem egt_37 : prog.eqGuardType prog.depth 37 = false := by kernel_rfl
theorem zero_38 : zeroD prog 38 = #[(Value.int IntKind.i64 0), (Value.int IntKind.i64 0), (Value.int IntKind.i64 0), (Value.int IntKind.i64 0), (Value.int IntKind.i64 0), (Value.int IntKind.i64 0), (Value.int IntKind.i64 0)] := by kernel_rfl
theorem eqT_38 : eqT prog 6 38 = some 7 := by kernel_rfl
theorem agg_38 : isAggT prog 38 = true := by kernel_rfl
theorem egt_38 : prog.eqGuardType prog.depth 38 = false := by kernel_rfl
theorem zero_39 : zeroD prog 39 = #[(Value.int IntKind.i64 0), (Value.int IntKind.i64 0), (Value.int IntKind.i64 0), (Value.int IntKind.i64 0), (Value.int IntKind.i64 0), (Value.int IntKind.i64 0), (Value.int IntKind.i64 0)] := by kernel_rfl
theorem eqT_39 : eqT prog 6 39 = some 7 := by kernel_rfl
theorem agg_39 : isAggT prog 39 = true := by kernel_rfl
theorem egt_39 : prog.eqGuardType prog.depth 39 = false := by kernel_rfl
theorem zero_42 : zeroD prog 42 = #[(Value.slice none 0 0)] := by kernel_rfl
theorem und_42 : prog.underlying 42 = some (.slice 39) := by kernel_rfl
theorem te_42 : TE prog 42 39 7 56 := ⟨und_42, ⟨Go.Proofs.Try.t39, (match Go.Proofs.Try.t39.zero with | some z => z | none => undef), by kernel_rfl, by kernel_rfl, by kernel_rfl, by kernel_rfl, by kernel_rfl⟩, by decide⟩
theorem zero_46 : zeroD prog 46 = #[(Value.pointer none)] := by kernel_rfl
theorem zero_50 : zeroD prog 50 = #[(Value.slice none 0 0)] := by kernel_rfl
theorem und_50 : prog.underlying 50 = some (.slice 55) := by kernel_rfl
theorem te_50 : TE prog 50 55 4 48 := ⟨und_50, ⟨Go.Proofs.Try.t55, (match Go.Proofs.Try.t55.zero with | some z => z | none => undef), by kernel_rfl, by kernel_rfl, by kernel_rfl, by kernel_rfl, by kernel_rfl⟩, by decide⟩
theorem zero_51 : zeroD prog 51 = #[(Value.slice none 0 0)] := by kernel_rfl
theorem und_51 : prog.underlying 51 = some (.slice 63) := by kernel_rfl
theorem te_51 : TE prog 51 63 3 24 := ⟨und_51, ⟨Go.Proofs.Try.t63, (match Go.Proofs.Try.t63.zero with | some z => z | none => undef), by kernel_rfl, by kernel_rfl, by kernel_rfl, by kernel_rfl, by kernel_rfl⟩, by decide⟩
theorem zero_52 : zeroD prog 52 = #[(Value.int IntKind.i64 0), (Value.int IntKind.i64 0), (Value.int IntKind.i64 0), (Value.slice none 0 0), (Value.slice none 0 0), (Value.slice none 0 0), (Value.slice none 0 0)] := by kernel_rfl
theorem zero_53 : zeroD prog 53 = #[(Value.int IntKind.i64 0), (Value.int IntKind.i64 0), (Value.int IntKind.i64 0), (Value.slice none 0 0), (Value.slice none 0 0), (Value.slice none 0 0), (Value.slice none 0 0)] := by kernel_rfl
theorem zero_54 : zeroD prog 54 = #[(Value.int IntKind.i64 0), (Value.int IntKind.i64 0), (Value.int IntKind.i64 0), (Value.slice none 0 0)] := by kernel_rfl
theorem zero_55 : zeroD prog 55 = #[(Value.int IntKind.i64 0), (Value.int IntKind.i64 0), (Value.int IntKind.i64 0), (Value.slice none 0 0)] := by kernel_rfl
theorem zero_56 : zeroD prog 56 = #[(Value.slice none 0 0)] := by kernel_rfl
theorem und_56 : prog.underlying 56 = some (.slice 4) := by kernel_rfl
theorem te_56 : TE prog 56 4 1 1 := ⟨und_56, ⟨Go.Proofs.Try.t4, (match Go.Proofs.Try.t4.zero with | some z => z | none => undef), by kernel_rfl, by kernel_rfl, by kernel_rfl, by kernel_rfl, by kernel_rfl⟩, by decide⟩
theorem zero_58 : zeroD prog 58 = #[(Value.slice none 0 0)] := by kernel_rfl
theorem und_58 : prog.underlying 58 = some (.slice 37) := by kernel_rfl
theorem te_58 : TE prog 58 37 6 48 := ⟨und_58, ⟨Go.Proofs.Try.t37, (match Go.Proofs.Try.t37.zero with | some z => z | none => undef), by kernel_rfl, by kernel_rfl, by kernel_rfl, by kernel_rfl, by kernel_rfl⟩, by decide⟩
theorem zero_62 : zeroD prog 62 = #[(Value.int IntKind.i64 0), (Value.int IntKind.i64 0), (Value.int IntKind.i64 0)] := by kernel_rfl
theorem eqT_62 : eqT prog 6 62 = some 3 := by kernel_rfl
theorem agg_62 : isAggT prog 62 = true := by kernel_rfl
theorem egt_62 : prog.eqGuardType prog.depth 62 = false := by kernel_rfl
theorem zero_63 : zeroD prog 63 = #[(Value.int IntKind.i64 0), (Value.int IntKind.i64 0), (Value.int IntKind.i64 0)] := by kernel_rfl
theorem eqT_63 : eqT prog 6 63 = some 3 := by kernel_rfl
theorem agg_63 : isAggT prog 63 = true := by kernel_rfl
theorem egt_63 : prog.eqGuardType prog.depth 63 = false := by kernel_rfl
theorem zero_65 : zeroD prog 65 = #[(Value.slice none 0 0)] := by kernel_rfl
theorem und_65 : prog.underlying 65 = some (.slice 70) := by kernel_rfl
theorem te_65 : TE prog 65 70 3 40 := ⟨und_65, ⟨Go.Proofs.Try.t70, (match Go.Proofs.Try.t70.zero with | some z => z | none => undef), by kernel_rfl, by kernel_rfl, by kernel_rfl, by kernel_rfl, by kernel_rfl⟩, by decide⟩
theorem zero_66 : zeroD prog 66 = #[(Value.slice none 0 0)] := by kernel_rfl
theorem und_66 : prog.underlying 66 = some (.slice 37) := by kernel_rfl
theorem te_66 : TE prog 66 37 6 48 := ⟨und_66, ⟨Go.Proofs.Try.t37, (match Go.Proofs.Try.t37.zero with | some z => z | none => undef), by kernel_rfl, by kernel_rfl, by kernel_rfl, by kernel_rfl, by kernel_rfl⟩, by decide⟩
theorem zero_67 : zeroD prog 67 = #[(Value.slice none 0 0), (Value.slice none 0 0), (Value.int IntKind.i64 0), (Value.slice none 0 0), (Value.slice none 0 0)] := by kernel_rfl
theorem zero_68 : zeroD prog 68 = #[(Value.slice none 0 0), (Value.slice none 0 0), (Value.int IntKind.i64 0), (Value.slice none 0 0), (Value.slice none 0 0)] := by kernel_rfl
theorem zero_69 : zeroD prog 69 = #[(Value.int IntKind.i64 0), (Value.int IntKind.i64 0), (Value.slice none 0 0)] := by kernel_rfl
theorem zero_70 : zeroD prog 70 = #[(Value.int IntKind.i64 0), (Value.int IntKind.i64 0), (Value.slice none 0 0)] := by kernel_rfl
theorem zero_77 : zeroD prog 77 = #[(Value.pointer none)] := by kernel_rfl
theorem zero_78 : zeroD prog 78 = #[(Value.pointer none)] := by kernel_rfl
theorem zero_83 : zeroD prog 83 = #[(Value.slice none 0 0), (Value.slice none 0 0), (Value.int IntKind.i64 0), (Value.slice none 0 0), (Value.slice none 0 0), (Value.slice none 0 0), (Value.slice none 0 0)] := by kernel_rfl
theorem zero_84 : zeroD prog 84 = #[(Value.slice none 0 0), (Value.slice none 0 0), (Value.int IntKind.i64 0), (Value.slice none 0 0), (Value.slice none 0 0), (Value.slice none 0 0), (Value.slice none 0 0)] := by kernel_rfl
theorem zero_95 : zeroD prog 95 = #[(Value.pointer none)] := by kernel_rfl
theorem zero_101 : zeroD prog 101 = #[Value.nilIface] := by kernel_rfl
theorem zero_102 : zeroD prog 102 = #[Value.nilIface] := by kernel_rfl
theorem zero_113 : zeroD prog 113 = #[(Value.int IntKind.u64 0)] := by kernel_rfl
theorem zero_116 : zeroD prog 116 = #[(Value.slice none 0 0)] := by kernel_rfl
theorem und_116 : prog.underlying 116 = some (.slice 90) := by kernel_rfl
theorem te_116 : TE prog 116 90 1 8 := ⟨und_116, ⟨Go.Proofs.Try.t90, (match Go.Proofs.Try.t90.zero with | some z => z | none => undef), by kernel_rfl, by kernel_rfl, by kernel_rfl, by kernel_rfl, by kernel_rfl⟩, by decide⟩
theorem zero_129 : zeroD prog 129 = #[(Value.int IntKind.i64 0)] := by kernel_rfl
theorem zero_137 : zeroD prog 137 = #[(Value.int IntKind.u32 0)] := by kernel_rfl
theorem zero_139 : zeroD prog 139 = #[(Value.int IntKind.u64 0)] := by kernel_rfl
theorem zero_141 : zeroD prog 141 = #[(Value.map none)] := by kernel_rfl
theorem und_141 : prog.underlying 141 = some (.map 143 4) := by kernel_rfl
theorem mapT_141 : MapT prog 141 143 4 (Value.bool false) := ⟨und_141, ⟨Go.Proofs.Try.t4, by kernel_rfl, by kernel_rfl⟩⟩
theorem zero_142 : zeroD prog 142 = #[(Value.int IntKind.i64 0), (Value.int IntKind.i64 0)] := by kernel_rfl
theorem eqT_142 : eqT prog 6 142 = some 2 := by kernel_rfl
theorem agg_142 : isAggT prog 142 = true := by kernel_rfl
theorem egt_142 : prog.eqGuardType prog.depth 142 = false := by kernel_rfl
theorem zero_143 : zeroD prog 143 = #[(Value.int IntKind.i64 0), (Value.int IntKind.i64 0)] := by kernel_rfl
theorem eqT_143 : eqT prog 6 143 = some 2 := by kernel_rfl
theorem agg_143 : isAggT prog 143 = true := by kernel_rfl
theorem egt_143 : prog.eqGuardType prog.depth 143 = false := by kernel_rfl
theorem zero_150 : zeroD prog 150 = #[(Value.int IntKind.u64 0)] := by kernel_rfl
theorem zero_154 : zeroD prog 154 = #[(Value.pointer none)] := by kernel_rfl
theorem zero_156 : zeroD prog 156 = #[(Value.pointer none)] := by kernel_rfl
theorem zero_160 : zeroD prog 160 = #[(Value.pointer none), (Value.pointer none), (Value.pointer none), (Value.string { data := #[] })] := by kernel_rfl
theorem zero_161 : zeroD prog 161 = #[(Value.pointer none), (Value.pointer none), (Value.pointer none), (Value.string { data := #[] })] := by kernel_rfl
theorem zero_162 : zeroD prog 162 = #[] := by kernel_rfl
theorem zero_163 : zeroD prog 163 = #[] := by kernel_rfl
theorem zero_164 : zeroD prog 164 = #[] := by kernel_rfl
theorem zero_165 : zeroD prog 165 = #[(Value.int IntKind.u8 0)] := by kernel_rfl
theorem zero_166 : zeroD prog 166 = #[(Value.int IntKind.u8 0)] := by kernel_rfl
theorem zero_168 : zeroD prog 168 = #[(Value.pointer none)] := by kernel_rfl
theorem zero_169 : zeroD prog 169 = #[(Value.int IntKind.i32 0)] := by kernel_rfl
theorem zero_170 : zeroD prog 170 = #[(Value.int IntKind.i32 0)] := by kernel_rfl
theorem zero_171 : zeroD prog 171 = #[(Value.int IntKind.u64 0), (Value.int IntKind.u64 0), (Value.int IntKind.u32 0), (Value.int IntKind.u8 0), (Value.int IntKind.u8 0), (Value.int IntKind.u8 0), (Value.int IntKind.u8 0), Value.nilFunc, (Value.pointer none), (Value.int IntKind.i32 0), (Value.int IntKind.i32 0)] := by kernel_rfl
theorem zero_172 : zeroD prog 172 = #[(Value.int IntKind.u64 0), (Value.int IntKind.u64 0), (Value.int IntKind.u32 0), (Value.int IntKind.u8 0), (Value.int IntKind.u8 0), (Value.int IntKind.u8 0), (Value.int IntKind.u8 0), Value.nilFunc, (Value.pointer none), (Value.int IntKind.i32 0), (Value.int IntKind.i32 0)] := by kernel_rfl
end Go.Proofs.Ytfcnjbannejchaa
