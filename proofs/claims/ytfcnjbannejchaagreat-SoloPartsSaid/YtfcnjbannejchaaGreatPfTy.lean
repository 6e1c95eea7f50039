/- Printed by prt.py: the Go functions of this seat as shallow predicate transformers. Conditions: none. -/
import Derived.Test.YtfcnjbannejchaaGreatEngO
import Derived.Test.YtfcnjbannejchaaGreatEngZ
import Derived.Test.YtfcnjbannejchaaGreatPfHead
import Derived.Test.YtfcnjbannejchaaGreatEngM
import Derived.KernelRfl
namespace Go.Proofs.YtfcnjbannejchaaGreat
open Go Go.E
set_option linter.unusedVariables false
set_option maxRecDepth 100000
theorem zero_2 : zeroD prog 2 = #[(Value.int IntKind.i64 0)] := by kernel_rfl
theorem zero_3 : zeroD prog 3 = #[(Value.int IntKind.i64 0)] := by kernel_rfl
theorem zero_4 : zeroD prog 4 = #[(Value.bool false)] := by kernel_rfl
theorem zero_5 : zeroD prog 5 = #[(Value.int IntKind.u8 0)] := by kernel_rfl
theorem zero_6 : zeroD prog 6 = #[(Value.int IntKind.u8 0)] := by kernel_rfl
theorem zero_7 : zeroD prog 7 = #[(Value.int IntKind.i64 0), (Value.int IntKind.i64 0), (Value.bool false), (Value.int IntKind.u8 0)] := by kernel_rfl
theorem zero_8 : zeroD prog 8 = #[(Value.int IntKind.i64 0), (Value.int IntKind.i64 0), (Value.bool false), (Value.int IntKind.u8 0)] := by kernel_rfl
theorem zero_9 : zeroD prog 9 = #[(Value.string { data := #[] })] := by kernel_rfl
theorem zero_10 : zeroD prog 10 = #[(Value.string { data := #[] })] := by kernel_rfl
theorem zero_11 : zeroD prog 11 = #[(Value.string { data := #[] })] := by kernel_rfl
theorem zero_12 : zeroD prog 12 = #[(Value.int IntKind.u64 0)] := by kernel_rfl
theorem zero_13 : zeroD prog 13 = #[(Value.string { data := #[] }), (Value.int IntKind.u64 0)] := by kernel_rfl
theorem zero_14 : zeroD prog 14 = #[(Value.string { data := #[] }), (Value.int IntKind.u64 0)] := by kernel_rfl
theorem zero_15 : zeroD prog 15 = #[(Value.pointer none)] := by kernel_rfl
theorem zero_16 : zeroD prog 16 = #[(Value.pointer none)] := by kernel_rfl
theorem zero_17 : zeroD prog 17 = #[(Value.pointer none)] := by kernel_rfl
theorem zero_18 : zeroD prog 18 = #[(Value.pointer none)] := by kernel_rfl
theorem zero_19 : zeroD prog 19 = #[(Value.pointer none)] := by kernel_rfl
theorem zero_20 : zeroD prog 20 = #[Value.nilIface] := by kernel_rfl
theorem zero_21 : zeroD prog 21 = #[(Value.int IntKind.i32 0)] := by kernel_rfl
theorem zero_22 : zeroD prog 22 = #[(Value.slice none 0 0)] := by kernel_rfl
theorem und_22 : prog.underlying 22 = some (.slice 3) := by kernel_rfl
theorem te_22 : TE prog 22 3 1 8 := ⟨und_22, ⟨Go.Proofs.Tryz.t3, (match Go.Proofs.Tryz.t3.zero with | some z => z | none => undef), by kernel_rfl, by kernel_rfl, by kernel_rfl, by kernel_rfl, by kernel_rfl⟩, by decide⟩
theorem zero_23 : zeroD prog 23 = #[(Value.slice none 0 0)] := by kernel_rfl
theorem und_23 : prog.underlying 23 = some (.slice 56) := by kernel_rfl
theorem te_23 : TE prog 23 56 7 120 := ⟨und_23, ⟨Go.Proofs.Tryz.t56, (match Go.Proofs.Tryz.t56.zero with | some z => z | none => undef), by kernel_rfl, by kernel_rfl, by kernel_rfl, by kernel_rfl, by kernel_rfl⟩, by decide⟩
theorem zero_24 : zeroD prog 24 = #[(Value.slice none 0 0), (Value.slice none 0 0), (Value.int IntKind.i64 0)] := by kernel_rfl
theorem zero_25 : zeroD prog 25 = #[(Value.slice none 0 0), (Value.slice none 0 0), (Value.int IntKind.i64 0)] := by kernel_rfl
theorem zero_28 : zeroD prog 28 = #[(Value.pointer none)] := by kernel_rfl
theorem zero_29 : zeroD prog 29 = #[(Value.int IntKind.i64 0)] := by kernel_rfl
theorem zero_32 : zeroD prog 32 = #[(Value.pointer none)] := by kernel_rfl
theorem zero_35 : zeroD prog 35 = #[(Value.int IntKind.i64 0), (Value.int IntKind.i64 0), (Value.int IntKind.i64 0)] := by kernel_rfl
theorem eqT_35 : eqT prog 6 35 = some 3 := by kernel_rfl
theorem agg_35 : isAggT prog 35 = true := by kernel_rfl
theorem egt_35 : prog.eqGuardType prog.depth 35 = false := by kernel_rfl
theorem zero_36 : zeroD prog 36 = #[(Value.int IntKind.i64 0), (Value.int IntKind.i64 0), (Value.int IntKind.i64 0)] := by kernel_rfl
theorem eqT_36 : eqT prog 6 36 = some 3 := by kernel_rfl
theorem agg_36 : isAggT prog 36 = true := by kernel_rfl
theorem egt_36 : prog.eqGuardType prog.depth 36 = false := by kernel_rfl
theorem zero_37 : zeroD prog 37 = #[(Value.int IntKind.i64 0), (Value.int IntKind.i64 0), (Value.int IntKind.i64 0), (Value.int IntKind.i64 0), (Value.int IntKind.i64 0), (Value.int IntKind.i64 0)] := by kernel_rfl
theorem eqT_37 : eqT prog 6 37 = some 6 := by kernel_rfl
theorem agg_37 : isAggT prog 37 = true := by kernel_rfl
theorem egt_37 : prog.eqGuardType prog.depth 37 = false := by kernel_rfl
theorem zero_38 : zeroD prog 38 = #[(Value.int IntKind.i64 0), (Value.int IntKind.i64 0), (Value.int IntKind.i64 0), (Value.int IntKind.i64 0), (Value.int IntKind.i64 0), (Value.int IntKind.i64 0)] := by kernel_rfl
theorem eqT_38 : eqT prog 6 38 = some 6 := by kernel_rfl
theorem agg_38 : isAggT prog 38 = true := by kernel_rfl
theorem egt_38 : prog.eqGuardType prog.depth 38 = false := by kernel_rfl
theorem zero_39 : zeroD prog 39 = #[(Value.int IntKind.i64 0), (Value.int IntKind.i64 0), (Value.int IntKind.i64 0), (Value.int IntKind.i64 0), (Value.int IntKind.i64 0), (Value.int IntKind.i64 0), (Value.int IntKind.i64 0)] := by kernel_rfl
theorem eqT_39 : eqT prog 6 39 = some 7 := by kernel_rfl
theorem agg_39 : isAggT prog 39 = true := by kernel_rfl
theorem egt_39 : prog.eqGuardType prog.depth 39 = false := by kernel_rfl
theorem zero_40 : zeroD prog 40 = #[(Value.int IntKind.i64 0), (Value.int IntKind.i64 0), (Value.int IntKind.i64 0), (Value.int IntKind.i64 0), (Value.int IntKind.i64 0), (Value.int IntKind.i64 0), (Value.int IntKind.i64 0)] := by kernel_rfl
theorem eqT_40 : eqT prog 6 40 = some 7 := by kernel_rfl
theorem agg_40 : isAggT prog 40 = true := by kernel_rfl
theorem egt_40 : prog.eqGuardType prog.depth 40 = false := by kernel_rfl
theorem zero_45 : zeroD prog 45 = #[(Value.slice none 0 0)] := by kernel_rfl
theorem und_45 : prog.underlying 45 = some (.slice 38) := by kernel_rfl
theorem te_45 : TE prog 45 38 6 48 := ⟨und_45, ⟨Go.Proofs.Tryz.t38, (match Go.Proofs.Tryz.t38.zero with | some z => z | none => undef), by kernel_rfl, by kernel_rfl, by kernel_rfl, by kernel_rfl, by kernel_rfl⟩, by decide⟩
theorem zero_48 : zeroD prog 48 = #[(Value.slice none 0 0)] := by kernel_rfl
theorem und_48 : prog.underlying 48 = some (.slice 40) := by kernel_rfl
theorem te_48 : TE prog 48 40 7 56 := ⟨und_48, ⟨Go.Proofs.Tryz.t40, (match Go.Proofs.Tryz.t40.zero with | some z => z | none => undef), by kernel_rfl, by kernel_rfl, by kernel_rfl, by kernel_rfl, by kernel_rfl⟩, by decide⟩
theorem zero_51 : zeroD prog 51 = #[(Value.slice none 0 0)] := by kernel_rfl
theorem und_51 : prog.underlying 51 = some (.slice 5) := by kernel_rfl
theorem te_51 : TE prog 51 5 1 1 := ⟨und_51, ⟨Go.Proofs.Tryz.t5, (match Go.Proofs.Tryz.t5.zero with | some z => z | none => undef), by kernel_rfl, by kernel_rfl, by kernel_rfl, by kernel_rfl, by kernel_rfl⟩, by decide⟩
theorem zero_53 : zeroD prog 53 = #[(Value.slice none 0 0)] := by kernel_rfl
theorem und_53 : prog.underlying 53 = some (.slice 58) := by kernel_rfl
theorem te_53 : TE prog 53 58 4 48 := ⟨und_53, ⟨Go.Proofs.Tryz.t58, (match Go.Proofs.Tryz.t58.zero with | some z => z | none => undef), by kernel_rfl, by kernel_rfl, by kernel_rfl, by kernel_rfl, by kernel_rfl⟩, by decide⟩
theorem zero_54 : zeroD prog 54 = #[(Value.slice none 0 0)] := by kernel_rfl
theorem und_54 : prog.underlying 54 = some (.slice 60) := by kernel_rfl
theorem te_54 : TE prog 54 60 3 24 := ⟨und_54, ⟨Go.Proofs.Tryz.t60, (match Go.Proofs.Tryz.t60.zero with | some z => z | none => undef), by kernel_rfl, by kernel_rfl, by kernel_rfl, by kernel_rfl, by kernel_rfl⟩, by decide⟩
theorem zero_55 : zeroD prog 55 = #[(Value.int IntKind.i64 0), (Value.int IntKind.i64 0), (Value.int IntKind.i64 0), (Value.slice none 0 0), (Value.slice none 0 0), (Value.slice none 0 0), (Value.slice none 0 0)] := by kernel_rfl
theorem zero_56 : zeroD prog 56 = #[(Value.int IntKind.i64 0), (Value.int IntKind.i64 0), (Value.int IntKind.i64 0), (Value.slice none 0 0), (Value.slice none 0 0), (Value.slice none 0 0), (Value.slice none 0 0)] := by kernel_rfl
theorem zero_57 : zeroD prog 57 = #[(Value.int IntKind.i64 0), (Value.int IntKind.i64 0), (Value.int IntKind.i64 0), (Value.slice none 0 0)] := by kernel_rfl
theorem zero_58 : zeroD prog 58 = #[(Value.int IntKind.i64 0), (Value.int IntKind.i64 0), (Value.int IntKind.i64 0), (Value.slice none 0 0)] := by kernel_rfl
theorem zero_59 : zeroD prog 59 = #[(Value.int IntKind.i64 0), (Value.int IntKind.i64 0), (Value.int IntKind.i64 0)] := by kernel_rfl
theorem eqT_59 : eqT prog 6 59 = some 3 := by kernel_rfl
theorem agg_59 : isAggT prog 59 = true := by kernel_rfl
theorem egt_59 : prog.eqGuardType prog.depth 59 = false := by kernel_rfl
theorem zero_60 : zeroD prog 60 = #[(Value.int IntKind.i64 0), (Value.int IntKind.i64 0), (Value.int IntKind.i64 0)] := by kernel_rfl
theorem eqT_60 : eqT prog 6 60 = some 3 := by kernel_rfl
theorem agg_60 : isAggT prog 60 = true := by kernel_rfl
theorem egt_60 : prog.eqGuardType prog.depth 60 = false := by kernel_rfl
theorem zero_64 : zeroD prog 64 = #[(Value.slice none 0 0)] := by kernel_rfl
theorem und_64 : prog.underlying 64 = some (.slice 69) := by kernel_rfl
theorem te_64 : TE prog 64 69 3 40 := ⟨und_64, ⟨Go.Proofs.Tryz.t69, (match Go.Proofs.Tryz.t69.zero with | some z => z | none => undef), by kernel_rfl, by kernel_rfl, by kernel_rfl, by kernel_rfl, by kernel_rfl⟩, by decide⟩
theorem zero_65 : zeroD prog 65 = #[(Value.slice none 0 0)] := by kernel_rfl
theorem und_65 : prog.underlying 65 = some (.slice 38) := by kernel_rfl
theorem te_65 : TE prog 65 38 6 48 := ⟨und_65, ⟨Go.Proofs.Tryz.t38, (match Go.Proofs.Tryz.t38.zero with | some z => z | none => undef), by kernel_rfl, by kernel_rfl, by kernel_rfl, by kernel_rfl, by kernel_rfl⟩, by decide⟩
theorem zero_66 : zeroD prog 66 = #[(Value.slice none 0 0), (Value.slice none 0 0), (Value.int IntKind.i64 0), (Value.slice none 0 0), (Value.slice none 0 0)] := by kernel_rfl
theorem zero_67 : zeroD prog 67 = #[(Value.slice none 0 0), (Value.slice none 0 0), (Value.int IntKind.i64 0), (Value.slice none 0 0), (Value.slice none 0 0)] := by kernel_rfl
theorem zero_68 : zeroD prog 68 = #[(Value.int IntKind.i64 0), (Value.int IntKind.i64 0), (Value.slice none 0 0)] := by kernel_rfl
theorem zero_69 : zeroD prog 69 = #[(Value.int IntKind.i64 0), (Value.int IntKind.i64 0), (Value.slice none 0 0)] := by kernel_rfl
theorem zero_73 : zeroD prog 73 = #[(Value.slice none 0 0), (Value.slice none 0 0), (Value.int IntKind.i64 0), (Value.slice none 0 0), (Value.slice none 0 0), (Value.slice none 0 0), (Value.slice none 0 0)] := by kernel_rfl
theorem zero_74 : zeroD prog 74 = #[(Value.slice none 0 0), (Value.slice none 0 0), (Value.int IntKind.i64 0), (Value.slice none 0 0), (Value.slice none 0 0), (Value.slice none 0 0), (Value.slice none 0 0)] := by kernel_rfl
theorem zero_77 : zeroD prog 77 = #[(Value.pointer none)] := by kernel_rfl
theorem zero_78 : zeroD prog 78 = #[(Value.pointer none)] := by kernel_rfl
theorem zero_94 : zeroD prog 94 = #[(Value.pointer none)] := by kernel_rfl
theorem zero_99 : zeroD prog 99 = #[Value.nilIface] := by kernel_rfl
theorem zero_100 : zeroD prog 100 = #[Value.nilIface] := by kernel_rfl
theorem zero_110 : zeroD prog 110 = #[(Value.int IntKind.u64 0)] := by kernel_rfl
theorem zero_114 : zeroD prog 114 = #[(Value.slice none 0 0)] := by kernel_rfl
theorem und_114 : prog.underlying 114 = some (.slice 88) := by kernel_rfl
theorem te_114 : TE prog 114 88 1 8 := ⟨und_114, ⟨Go.Proofs.Tryz.t88, (match Go.Proofs.Tryz.t88.zero with | some z => z | none => undef), by kernel_rfl, by kernel_rfl, by kernel_rfl, by kernel_rfl, by kernel_rfl⟩, by decide⟩
theorem zero_130 : zeroD prog 130 = #[(Value.int IntKind.i64 0)] := by kernel_rfl
theorem zero_138 : zeroD prog 138 = #[(Value.int IntKind.u32 0)] := by kernel_rfl
theorem zero_140 : zeroD prog 140 = #[(Value.int IntKind.u64 0)] := by kernel_rfl
theorem zero_142 : zeroD prog 142 = #[(Value.map none)] := by kernel_rfl
theorem und_142 : prog.underlying 142 = some (.map 144 4) := by kernel_rfl
theorem mapT_142 : MapT prog 142 144 4 (Value.bool false) := ⟨und_142, ⟨Go.Proofs.Tryz.t4, by kernel_rfl, by kernel_rfl⟩⟩
theorem zero_143 : zeroD prog 143 = #[(Value.int IntKind.i64 0), (Value.int IntKind.i64 0)] := by kernel_rfl
theorem eqT_143 : eqT prog 6 143 = some 2 := by kernel_rfl
theorem agg_143 : isAggT prog 143 = true := by kernel_rfl
theorem egt_143 : prog.eqGuardType prog.depth 143 = false := by kernel_rfl
theorem zero_144 : zeroD prog 144 = #[(Value.int IntKind.i64 0), (Value.int IntKind.i64 0)] := by kernel_rfl
theorem eqT_144 : eqT prog 6 144 = some 2 := by kernel_rfl
theorem agg_144 : isAggT prog 144 = true := by kernel_rfl
theorem egt_144 : prog.eqGuardType prog.depth 144 = false := by kernel_rfl
theorem zero_150 : zeroD prog 150 = #[(Value.int IntKind.u64 0)] := by kernel_rfl
theorem zero_154 : zeroD prog 154 = #[(Value.pointer none)] := by kernel_rfl
theorem zero_156 : zeroD prog 156 = #[(Value.pointer none)] := by kernel_rfl
theorem zero_160 : zeroD prog 160 = #[(Value.pointer none), (Value.pointer none), (Value.pointer none), (Value.string { data := #[] })] := by kernel_rfl
theorem zero_161 : zeroD prog 161 = #[(Value.pointer none), (Value.pointer none), (Value.pointer none), (Value.string { data := #[] })] := by kernel_rfl
theorem zero_162 : zeroD prog 162 = #[] := by kernel_rfl
theorem zero_163 : zeroD prog 163 = #[] := by kernel_rfl
theorem zero_164 : zeroD prog 164 = #[] := by kernel_rfl
theorem zero_165 : zeroD prog 165 = #[(Value.int IntKind.u8 0)] := by kernel_rfl
theorem zero_166 : zeroD prog 166 = #[(Value.int IntKind.u8 0)] := by kernel_rfl
theorem zero_168 : zeroD prog 168 = #[(Value.pointer none)] := by kernel_rfl
theorem zero_169 : zeroD prog 169 = #[(Value.int IntKind.i32 0)] := by kernel_rfl
theorem zero_170 : zeroD prog 170 = #[(Value.int IntKind.i32 0)] := by kernel_rfl
theorem zero_171 : zeroD prog 171 = #[(Value.int IntKind.u64 0), (Value.int IntKind.u64 0), (Value.int IntKind.u32 0), (Value.int IntKind.u8 0), (Value.int IntKind.u8 0), (Value.int IntKind.u8 0), (Value.int IntKind.u8 0), Value.nilFunc, (Value.pointer none), (Value.int IntKind.i32 0), (Value.int IntKind.i32 0)] := by kernel_rfl
theorem zero_172 : zeroD prog 172 = #[(Value.int IntKind.u64 0), (Value.int IntKind.u64 0), (Value.int IntKind.u32 0), (Value.int IntKind.u8 0), (Value.int IntKind.u8 0), (Value.int IntKind.u8 0), (Value.int IntKind.u8 0), Value.nilFunc, (Value.pointer none), (Value.int IntKind.i32 0), (Value.int IntKind.i32 0)] := by kernel_rfl
end Go.Proofs.YtfcnjbannejchaaGreat
