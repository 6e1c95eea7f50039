/- Printed by prt.py: the Go functions of this seat as shallow predicate transformers. Conditions: none. -/
import Derived.Test.YtenglfaeohgkfaaGreatEngO
import Derived.Test.YtenglfaeohgkfaaGreatEngZ
import Derived.Test.YtenglfaeohgkfaaGreatPfHead
import Derived.Test.YtenglfaeohgkfaaGreatEngM
import Derived.KernelRfl
namespace Go.Proofs.YtenglfaeohgkfaaGreat
open Go Go.E
set_option linter.unusedVariables false
set_option maxRecDepth 100000
theorem zero_2 : zeroD prog 2 = #[(Value.int IntKind.i64 0)] := by kernel_rfl
theorem zero_3 : zeroD prog 3 = #[(Value.int IntKind.i64 0)] := by kernel_rfl
theorem zero_4 : zeroD prog 4 = #[(Value.bool false)] := by kernel_rfl
theorem zero_5 : zeroD prog 5 = #[(Value.int IntKind.u8 0)] := by kernel_rfl
theorem zero_6 : zeroD prog 6 = #[(Value.int IntKind.u8 0)] := by kernel_rfl
theorem zero_7 : zeroD prog 7 = #[(Value.int IntKind.i64 0), (Value.int IntKind.i64 0), (Value.bool false), (Value.int IntKind.u8 0)] := by kernel_rfl
theorem zero_8 : zeroD prog 8 = #[(Value.int IntKind.i64 0), (Value.int IntKind.i64 0), (Value.bool false), (Value.int IntKind.u8 0)] := by kernel_rfl
theorem zero_9 : zeroD prog 9 = #[(Value.string { data := #[] })] := by kernel_rfl
theorem zero_10 : zeroD prog 10 = #[(Value.string { data := #[] })] := by kernel_rfl
theorem zero_11 : zeroD prog 11 = #[(Value.string { data := #[] })] := by kernel_rfl
theorem zero_12 : zeroD prog 12 = #[(Value.int IntKind.u64 0)] := by kernel_rfl
theorem zero_13 : zeroD prog 13 = #[(Value.string { data := #[] }), (Value.int IntKind.u64 0)] := by kernel_rfl
theorem zero_14 : zeroD prog 14 = #[(Value.string { data := #[] }), (Value.int IntKind.u64 0)] := by kernel_rfl
theorem zero_15 : zeroD prog 15 = #[(Value.pointer none)] := by kernel_rfl
theorem zero_16 : zeroD prog 16 = #[(Value.pointer none)] := by kernel_rfl
theorem zero_17 : zeroD prog 17 = #[(Value.pointer none)] := by kernel_rfl
theorem zero_18 : zeroD prog 18 = #[(Value.pointer none)] := by kernel_rfl
theorem zero_19 : zeroD prog 19 = #[(Value.pointer none)] := by kernel_rfl
theorem zero_20 : zeroD prog 20 = #[Value.nilIface] := by kernel_rfl
theorem zero_21 : zeroD prog 21 = #[(Value.int IntKind.i32 0)] := by kernel_rfl
theorem zero_22 : zeroD prog 22 = #[(Value.slice none 0 0)] := by kernel_rfl
theorem und_22 : prog.underlying 22 = some (.slice 30) := by kernel_rfl
theorem te_22 : TE prog 22 30 10 80 := ⟨und_22, ⟨Go.Proofs.Tryz.t30, (match Go.Proofs.Tryz.t30.zero with | some z => z | none => undef), by kernel_rfl, by kernel_rfl, by kernel_rfl, by kernel_rfl, by kernel_rfl⟩, by decide⟩
theorem zero_23 : zeroD prog 23 = #[(Value.int IntKind.i64 0), (Value.int IntKind.i64 0), (Value.int IntKind.i64 0)] := by kernel_rfl
theorem eqT_23 : eqT prog 6 23 = some 3 := by kernel_rfl
theorem agg_23 : isAggT prog 23 = true := by kernel_rfl
theorem egt_23 : prog.eqGuardType prog.depth 23 = false := by kernel_rfl
theorem zero_24 : zeroD prog 24 = #[(Value.int IntKind.i64 0), (Value.int IntKind.i64 0), (Value.int IntKind.i64 0)] := by kernel_rfl
theorem eqT_24 : eqT prog 6 24 = some 3 := by kernel_rfl
theorem agg_24 : isAggT prog 24 = true := by kernel_rfl
theorem egt_24 : prog.eqGuardType prog.depth 24 = false := by kernel_rfl
theorem zero_25 : zeroD prog 25 = #[(Value.int IntKind.i64 0), (Value.int IntKind.i64 0), (Value.int IntKind.i64 0), (Value.int IntKind.i64 0), (Value.int IntKind.i64 0), (Value.int IntKind.i64 0)] := by kernel_rfl
theorem eqT_25 : eqT prog 6 25 = some 6 := by kernel_rfl
theorem agg_25 : isAggT prog 25 = true := by kernel_rfl
theorem egt_25 : prog.eqGuardType prog.depth 25 = false := by kernel_rfl
theorem zero_26 : zeroD prog 26 = #[(Value.int IntKind.i64 0), (Value.int IntKind.i64 0), (Value.int IntKind.i64 0), (Value.int IntKind.i64 0), (Value.int IntKind.i64 0), (Value.int IntKind.i64 0)] := by kernel_rfl
theorem eqT_26 : eqT prog 6 26 = some 6 := by kernel_rfl
theorem agg_26 : isAggT prog 26 = true := by kernel_rfl
theorem egt_26 : prog.eqGuardType prog.depth 26 = false := by kernel_rfl
theorem zero_27 : zeroD prog 27 = #[(Value.int IntKind.i64 0), (Value.int IntKind.i64 0), (Value.int IntKind.i64 0), (Value.int IntKind.i64 0), (Value.int IntKind.i64 0), (Value.int IntKind.i64 0), (Value.int IntKind.i64 0), (Value.int IntKind.i64 0)] := by kernel_rfl
theorem eqT_27 : eqT prog 6 27 = some 8 := by kernel_rfl
theorem agg_27 : isAggT prog 27 = true := by kernel_rfl
theorem egt_27 : prog.eqGuardType prog.depth 27 = false := by kernel_rfl
theorem zero_28 : zeroD prog 28 = #[(Value.int IntKind.i64 0), (Value.int IntKind.i64 0), (Value.int IntKind.i64 0), (Value.int IntKind.i64 0), (Value.int IntKind.i64 0), (Value.int IntKind.i64 0), (Value.int IntKind.i64 0), (Value.int IntKind.i64 0)] := by kernel_rfl
theorem eqT_28 : eqT prog 6 28 = some 8 := by kernel_rfl
theorem agg_28 : isAggT prog 28 = true := by kernel_rfl
theorem egt_28 : prog.eqGuardType prog.depth 28 = false := by kernel_rfl
theorem zero_29 : zeroD prog 29 = #[(Value.int IntKind.i64 0), (Value.int IntKind.i64 0), (Value.int IntKind.i64 0), (Value.int IntKind.i64 0), (Value.int IntKind.i64 0), (Value.int IntKind.i64 0), (Value.int IntKind.i64 0), (Value.int IntKind.i64 0), (Value.int IntKind.i64 0), (Value.int IntKind.i64 0)] := by kernel_rfl
theorem eqT_29 : eqT prog 6 29 = some 10 := by kernel_rfl
theorem agg_29 : isAggT prog 29 = true := by kernel_rfl
theorem egt_29 : prog.eqGuardType prog.depth 29 = false := by kernel_rfl
theorem zero_30 : zeroD prog 30 = #[(Value.int IntKind.i64 0), (Value.int IntKind.i64 0), (Value.int IntKind.i64 0), (Value.int IntKind.i64 0), (Value.int IntKind.i64 0), (Value.int IntKind.i64 0), (Value.int IntKind.i64 0), (Value.int IntKind.i64 0), (Value.int IntKind.i64 0), (Value.int IntKind.i64 0)] := by kernel_rfl
theorem eqT_30 : eqT prog 6 30 = some 10 := by kernel_rfl
theorem agg_30 : isAggT prog 30 = true := by kernel_rfl
theorem egt_30 : prog.eqGuardType prog.depth 30 = false := by kernel_rfl
theorem zero_32 : zeroD prog 32 = #[(Value.pointer none)] := by kernel_rfl
theorem zero_33 : zeroD prog 33 = #[(Value.int IntKind.i64 0)] := by kernel_rfl
theorem zero_36 : zeroD prog 36 = #[(Value.slice none 0 0)] := by kernel_rfl
theorem und_36 : prog.underlying 36 = some (.slice 3) := by kernel_rfl
theorem te_36 : TE prog 36 3 1 8 := ⟨und_36, ⟨Go.Proofs.Tryz.t3, (match Go.Proofs.Tryz.t3.zero with | some z => z | none => undef), by kernel_rfl, by kernel_rfl, by kernel_rfl, by kernel_rfl, by kernel_rfl⟩, by decide⟩
theorem zero_37 : zeroD prog 37 = #[(Value.slice none 0 0)] := by kernel_rfl
theorem und_37 : prog.underlying 37 = some (.slice 72) := by kernel_rfl
theorem te_37 : TE prog 37 72 7 120 := ⟨und_37, ⟨Go.Proofs.Tryz.t72, (match Go.Proofs.Tryz.t72.zero with | some z => z | none => undef), by kernel_rfl, by kernel_rfl, by kernel_rfl, by kernel_rfl, by kernel_rfl⟩, by decide⟩
theorem zero_38 : zeroD prog 38 = #[(Value.slice none 0 0), (Value.slice none 0 0), (Value.int IntKind.i64 0)] := by kernel_rfl
theorem zero_39 : zeroD prog 39 = #[(Value.slice none 0 0), (Value.slice none 0 0), (Value.int IntKind.i64 0)] := by kernel_rfl
theorem zero_41 : zeroD prog 41 = #[(Value.pointer none)] := by kernel_rfl
theorem zero_45 : zeroD prog 45 = #[(Value.int IntKind.i64 0), (Value.int IntKind.i64 0), (Value.int IntKind.i64 0), (Value.int IntKind.i64 0), (Value.int IntKind.i64 0), (Value.int IntKind.i64 0), (Value.int IntKind.i64 0)] := by kernel_rfl
theorem eqT_45 : eqT prog 6 45 = some 7 := by kernel_rfl
theorem agg_45 : isAggT prog 45 = true := by kernel_rfl
theorem egt_45 : prog.eqGuardType prog.depth 45 = false := by kernel_rfl
theorem zero_46 : zeroD prog 46 = #[(Value.int IntKind.i64 0), (Value.int IntKind.i64 0), (Value.int IntKind.i64 0), (Value.int IntKind.i64 0), (Value.int IntKind.i64 0), (Value.int IntKind.i64 0), (Value.int IntKind.i64 0)] := by kernel_rfl
theorem eqT_46 : eqT prog 6 46 = some 7 := by kernel_rfl
theorem agg_46 : isAggT prog 46 = true := by kernel_rfl
theorem egt_46 : prog.eqGuardType prog.depth 46 = false := by kernel_rfl
theorem zero_47 : zeroD prog 47 = #[(Value.slice none 0 0)] := by kernel_rfl
theorem und_47 : prog.underlying 47 = some (.slice 26) := by kernel_rfl
theorem te_47 : TE prog 47 26 6 48 := ⟨und_47, ⟨Go.Proofs.Tryz.t26, (match Go.Proofs.Tryz.t26.zero with | some z => z | none => undef), by kernel_rfl, by kernel_rfl, by kernel_rfl, by kernel_rfl, by kernel_rfl⟩, by decide⟩
theorem zero_51 : zeroD prog 51 = #[(Value.pointer none)] := by kernel_rfl
theorem zero_52 : zeroD prog 52 = #[(Value.pointer none)] := by kernel_rfl
theorem zero_53 : zeroD prog 53 = #[(Value.pointer none)] := by kernel_rfl
theorem zero_54 : zeroD prog 54 = #[(Value.pointer none)] := by kernel_rfl
theorem zero_55 : zeroD prog 55 = #[(Value.slice none 0 0)] := by kernel_rfl
theorem und_55 : prog.underlying 55 = some (.slice 46) := by kernel_rfl
theorem te_55 : TE prog 55 46 7 56 := ⟨und_55, ⟨Go.Proofs.Tryz.t46, (match Go.Proofs.Tryz.t46.zero with | some z => z | none => undef), by kernel_rfl, by kernel_rfl, by kernel_rfl, by kernel_rfl, by kernel_rfl⟩, by decide⟩
theorem zero_56 : zeroD prog 56 = #[(Value.pointer none), (Value.pointer none), (Value.slice none 0 0), (Value.slice none 0 0), (Value.int IntKind.i64 0), (Value.int IntKind.i64 0), (Value.int IntKind.i64 0), (Value.int IntKind.i64 0), (Value.slice none 0 0)] := by kernel_rfl
theorem zero_57 : zeroD prog 57 = #[(Value.pointer none), (Value.pointer none), (Value.slice none 0 0), (Value.slice none 0 0), (Value.int IntKind.i64 0), (Value.int IntKind.i64 0), (Value.int IntKind.i64 0), (Value.int IntKind.i64 0), (Value.slice none 0 0)] := by kernel_rfl
theorem zero_69 : zeroD prog 69 = #[(Value.slice none 0 0)] := by kernel_rfl
theorem und_69 : prog.underlying 69 = some (.slice 80) := by kernel_rfl
theorem te_69 : TE prog 69 80 4 48 := ⟨und_69, ⟨Go.Proofs.Tryz.t80, (match Go.Proofs.Tryz.t80.zero with | some z => z | none => undef), by kernel_rfl, by kernel_rfl, by kernel_rfl, by kernel_rfl, by kernel_rfl⟩, by decide⟩
theorem zero_70 : zeroD prog 70 = #[(Value.slice none 0 0)] := by kernel_rfl
theorem und_70 : prog.underlying 70 = some (.slice 78) := by kernel_rfl
theorem te_70 : TE prog 70 78 3 24 := ⟨und_70, ⟨Go.Proofs.Tryz.t78, (match Go.Proofs.Tryz.t78.zero with | some z => z | none => undef), by kernel_rfl, by kernel_rfl, by kernel_rfl, by kernel_rfl, by kernel_rfl⟩, by decide⟩
theorem zero_71 : zeroD prog 71 = #[(Value.int IntKind.i64 0), (Value.int IntKind.i64 0), (Value.int IntKind.i64 0), (Value.slice none 0 0), (Value.slice none 0 0), (Value.slice none 0 0), (Value.slice none 0 0)] := by kernel_rfl
theorem zero_72 : zeroD prog 72 = #[(Value.int IntKind.i64 0), (Value.int IntKind.i64 0), (Value.int IntKind.i64 0), (Value.slice none 0 0), (Value.slice none 0 0), (Value.slice none 0 0), (Value.slice none 0 0)] := by kernel_rfl
theorem zero_77 : zeroD prog 77 = #[(Value.int IntKind.i64 0), (Value.int IntKind.i64 0), (Value.int IntKind.i64 0)] := by kernel_rfl
theorem eqT_77 : eqT prog 6 77 = some 3 := by kernel_rfl
theorem agg_77 : isAggT prog 77 = true := by kernel_rfl
theorem egt_77 : prog.eqGuardType prog.depth 77 = false := by kernel_rfl
theorem zero_78 : zeroD prog 78 = #[(Value.int IntKind.i64 0), (Value.int IntKind.i64 0), (Value.int IntKind.i64 0)] := by kernel_rfl
theorem eqT_78 : eqT prog 6 78 = some 3 := by kernel_rfl
theorem agg_78 : isAggT prog 78 = true := by kernel_rfl
theorem egt_78 : prog.eqGuardType prog.depth 78 = false := by kernel_rfl
theorem zero_79 : zeroD prog 79 = #[(Value.int IntKind.i64 0), (Value.int IntKind.i64 0), (Value.int IntKind.i64 0), (Value.slice none 0 0)] := by kernel_rfl
theorem zero_80 : zeroD prog 80 = #[(Value.int IntKind.i64 0), (Value.int IntKind.i64 0), (Value.int IntKind.i64 0), (Value.slice none 0 0)] := by kernel_rfl
theorem zero_81 : zeroD prog 81 = #[(Value.pointer none)] := by kernel_rfl
theorem zero_84 : zeroD prog 84 = #[(Value.pointer none)] := by kernel_rfl
theorem zero_86 : zeroD prog 86 = #[(Value.slice none 0 0), (Value.slice none 0 0), (Value.int IntKind.i64 0), (Value.int IntKind.i64 0), (Value.int IntKind.i64 0), (Value.int IntKind.i64 0), (Value.pointer none), (Value.pointer none), (Value.slice none 0 0)] := by kernel_rfl
theorem zero_87 : zeroD prog 87 = #[(Value.slice none 0 0), (Value.slice none 0 0), (Value.int IntKind.i64 0), (Value.int IntKind.i64 0), (Value.int IntKind.i64 0), (Value.int IntKind.i64 0), (Value.pointer none), (Value.pointer none), (Value.slice none 0 0)] := by kernel_rfl
theorem zero_97 : zeroD prog 97 = #[(Value.map none)] := by kernel_rfl
theorem und_97 : prog.underlying 97 = some (.map 3 3) := by kernel_rfl
theorem mapT_97 : MapT prog 97 3 3 (Value.int IntKind.i64 0) := ⟨und_97, ⟨Go.Proofs.Tryz.t3, by kernel_rfl, by kernel_rfl⟩⟩
theorem keyT_97 : KeyT prog 3 (fun n : Int => .int .i64 n) := keyT_int (by kernel_rfl)
theorem zero_98 : zeroD prog 98 = #[(Value.map none), (Value.int IntKind.i64 0)] := by kernel_rfl
theorem zero_99 : zeroD prog 99 = #[(Value.map none), (Value.int IntKind.i64 0)] := by kernel_rfl
theorem zero_108 : zeroD prog 108 = #[(Value.map none)] := by kernel_rfl
theorem und_108 : prog.underlying 108 = some (.map 24 3) := by kernel_rfl
theorem mapT_108 : MapT prog 108 24 3 (Value.int IntKind.i64 0) := ⟨und_108, ⟨Go.Proofs.Tryz.t3, by kernel_rfl, by kernel_rfl⟩⟩
theorem zero_109 : zeroD prog 109 = #[(Value.int IntKind.i64 0), (Value.slice none 0 0), (Value.map none)] := by kernel_rfl
theorem zero_110 : zeroD prog 110 = #[(Value.int IntKind.i64 0), (Value.slice none 0 0), (Value.map none)] := by kernel_rfl
theorem zero_113 : zeroD prog 113 = #[(Value.pointer none)] := by kernel_rfl
theorem zero_116 : zeroD prog 116 = #[(Value.slice none 0 0), (Value.int IntKind.i64 0), (Value.int IntKind.i64 0)] := by kernel_rfl
theorem zero_117 : zeroD prog 117 = #[(Value.slice none 0 0), (Value.int IntKind.i64 0), (Value.int IntKind.i64 0)] := by kernel_rfl
theorem zero_118 : zeroD prog 118 = #[(Value.int IntKind.i64 0), (Value.slice none 0 0)] := by kernel_rfl
theorem zero_119 : zeroD prog 119 = #[(Value.int IntKind.i64 0), (Value.slice none 0 0)] := by kernel_rfl
theorem zero_122 : zeroD prog 122 = #[(Value.pointer none)] := by kernel_rfl
theorem zero_123 : zeroD prog 123 = #[(Value.pointer none)] := by kernel_rfl
theorem zero_137 : zeroD prog 137 = #[(Value.slice none 0 0)] := by kernel_rfl
theorem und_137 : prog.underlying 137 = some (.slice 104) := by kernel_rfl
theorem te_137 : TE prog 137 104 1 8 := ⟨und_137, ⟨Go.Proofs.Tryz.t104, (match Go.Proofs.Tryz.t104.zero with | some z => z | none => undef), by kernel_rfl, by kernel_rfl, by kernel_rfl, by kernel_rfl, by kernel_rfl⟩, by decide⟩
theorem zero_143 : zeroD prog 143 = #[(Value.int IntKind.u64 0)] := by kernel_rfl
theorem zero_144 : zeroD prog 144 = #[Value.nilIface] := by kernel_rfl
theorem zero_145 : zeroD prog 145 = #[Value.nilIface] := by kernel_rfl
theorem zero_160 : zeroD prog 160 = #[(Value.map none)] := by kernel_rfl
theorem und_160 : prog.underlying 160 = some (.map 162 4) := by kernel_rfl
theorem mapT_160 : MapT prog 160 162 4 (Value.bool false) := ⟨und_160, ⟨Go.Proofs.Tryz.t4, by kernel_rfl, by kernel_rfl⟩⟩
theorem zero_161 : zeroD prog 161 = #[(Value.int IntKind.i64 0), (Value.int IntKind.i64 0)] := by kernel_rfl
theorem eqT_161 : eqT prog 6 161 = some 2 := by kernel_rfl
theorem agg_161 : isAggT prog 161 = true := by kernel_rfl
theorem egt_161 : prog.eqGuardType prog.depth 161 = false := by kernel_rfl
theorem zero_162 : zeroD prog 162 = #[(Value.int IntKind.i64 0), (Value.int IntKind.i64 0)] := by kernel_rfl
theorem eqT_162 : eqT prog 6 162 = some 2 := by kernel_rfl
theorem agg_162 : isAggT prog 162 = true := by kernel_rfl
theorem egt_162 : prog.eqGuardType prog.depth 162 = false := by kernel_rfl
theorem zero_170 : zeroD prog 170 = #[(Value.int IntKind.i64 0)] := by kernel_rfl
theorem zero_177 : zeroD prog 177 = #[(Value.int IntKind.u32 0)] := by kernel_rfl
theorem zero_179 : zeroD prog 179 = #[(Value.int IntKind.u64 0)] := by kernel_rfl
theorem zero_180 : zeroD prog 180 = #[(Value.int IntKind.u64 0)] := by kernel_rfl
theorem zero_184 : zeroD prog 184 = #[(Value.pointer none)] := by kernel_rfl
theorem zero_186 : zeroD prog 186 = #[(Value.pointer none)] := by kernel_rfl
theorem zero_190 : zeroD prog 190 = #[(Value.pointer none), (Value.pointer none), (Value.pointer none), (Value.string { data := #[] })] := by kernel_rfl
theorem zero_191 : zeroD prog 191 = #[(Value.pointer none), (Value.pointer none), (Value.pointer none), (Value.string { data := #[] })] := by kernel_rfl
theorem zero_192 : zeroD prog 192 = #[] := by kernel_rfl
theorem zero_193 : zeroD prog 193 = #[] := by kernel_rfl
theorem zero_194 : zeroD prog 194 = #[] := by kernel_rfl
theorem zero_195 : zeroD prog 195 = #[(Value.int IntKind.u8 0)] := by kernel_rfl
theorem zero_196 : zeroD prog 196 = #[(Value.int IntKind.u8 0)] := by kernel_rfl
theorem zero_198 : zeroD prog 198 = #[(Value.pointer none)] := by kernel_rfl
theorem zero_199 : zeroD prog 199 = #[(Value.int IntKind.i32 0)] := by kernel_rfl
theorem zero_200 : zeroD prog 200 = #[(Value.int IntKind.i32 0)] := by kernel_rfl
theorem zero_201 : zeroD prog 201 = #[(Value.int IntKind.u64 0), (Value.int IntKind.u64 0), (Value.int IntKind.u32 0), (Value.int IntKind.u8 0), (Value.int IntKind.u8 0), (Value.int IntKind.u8 0), (Value.int IntKind.u8 0), Value.nilFunc, (Value.pointer none), (Value.int IntKind.i32 0), (Value.int IntKind.i32 0)] := by kernel_rfl
theorem zero_202 : zeroD prog 202 = #[(Value.int IntKind.u64 0), (Value.int IntKind.u64 0), (Value.int IntKind.u32 0), (Value.int IntKind.u8 0), (Value.int IntKind.u8 0), (Value.int IntKind.u8 0), (Value.int IntKind.u8 0), Value.nilFunc, (Value.pointer none), (Value.int IntKind.i32 0), (Value.int IntKind.i32 0)] := by kernel_rfl
end Go.Proofs.YtenglfaeohgkfaaGreat
