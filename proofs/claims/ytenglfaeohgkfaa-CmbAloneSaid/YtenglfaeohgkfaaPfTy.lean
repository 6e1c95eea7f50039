/- Printed by prt.py: the Go functions of this seat as shallow predicate transformers. Conditions: none. -/
import Derived.Test.YtenglfaeohgkfaaEngO
import Derived.Test.YtenglfaeohgkfaaEngZ
import Derived.Test.YtenglfaeohgkfaaPfHead
import Derived.Test.YtenglfaeohgkfaaEngM
import Derived.KernelRfl
namespace Go.Proofs.Ytenglfaeohgkfaa
open Go Go.E
set_option linter.unusedVariables false
set_option maxRecDepth 100000
theorem zero_2 : zeroD prog 2 = #[(Value.int IntKind.i64 0)] := by kernel_rfl
theorem zero_3 : zeroD prog 3 = #[(Value.int IntKind.i64 0)] := by kernel_rfl
theorem zero_4 : zeroD prog 4 = #[(Value.bool false)] := by kernel_rfl
theorem zero_5 : zeroD prog 5 = #[(Value.int IntKind.u8 0)] := by kernel_rfl
theorem zero_6 : zeroD prog 6 = #[(Value.int IntKind.u8 0)] := by kernel_rfl
theorem zero_7 : zeroD prog 7 = #[(Value.int IntKind.i64 0), (Value.int IntKind.i64 0), (Value.bool false), (Value.int IntKind.u8 0)] := by kernel_rfl
theorem zero_8 : zeroD prog 8 = #[(Value.int IntKind.i64 0), (Value.int IntKind.i64 0), (Value.bool false), (Value.int IntKind.u8 0)] := by kernel_rfl
theorem zero_9 : zeroD prog 9 = #[(Value.string { data := #[] })] := by kernel_rfl
theorem zero_10 : zeroD prog 10 = #[(Value.string { data := #[] })] := by kernel_rfl
theorem zero_11 : zeroD prog 11 = #[(Value.string { data := #[] })] := by kernel_rfl
theorem zero_12 : zeroD prog 12 = #[(Value.int IntKind.u64 0)] := by kernel_rfl
theorem zero_13 : zeroD prog 13 = #[(Value.string { data := #[] }), (Value.int IntKind.u64 0)] := by kernel_rfl
theorem zero_14 : zeroD prog 14 = #[(Value.string { data := #[] }), (Value.int IntKind.u64 0)] := by kernel_rfl
theorem zero_15 : zeroD prog 15 = #[(Value.pointer none)] := by kernel_rfl
theorem zero_16 : zeroD prog 16 = #[(Value.pointer none)] := by kernel_rfl
theorem zero_17 : zeroD prog 17 = #[(Value.pointer none)] := by kernel_rfl
theorem zero_18 : zeroD prog 18 = #[(Value.pointer none)] := by kernel_rfl
theorem zero_19 : zeroD prog 19 = #[(Value.pointer none)] := by kernel_rfl
theorem zero_20 : zeroD prog 20 = #[Value.nilIface] := by kernel_rfl
theorem zero_21 : zeroD prog 21 = #[(Value.int IntKind.i32 0)] := by kernel_rfl
theorem zero_22 : zeroD prog 22 = #[(Value.slice none 0 0)] := by kernel_rfl
theorem und_22 : prog.underlying 22 = some (.slice 40) := by kernel_rfl
theorem te_22 : TE prog 22 40 10 80 := ⟨und_22, ⟨Go.Proofs.Try.t40, (match Go.Proofs.Try.t40.zero with | some z => z | none => undef), by kernel_rfl, by kernel_rfl, by kernel_rfl, by kernel_rfl, by kernel_rfl⟩, by decide⟩
theorem zero_24 : zeroD prog 24 = #[(Value.pointer none)] := by kernel_rfl
theorem zero_25 : zeroD prog 25 = #[(Value.int IntKind.i64 0)] := by kernel_rfl
theorem zero_28 : zeroD prog 28 = #[(Value.slice none 0 0)] := by kernel_rfl
theorem und_28 : prog.underlying 28 = some (.slice 3) := by kernel_rfl
theorem te_28 : TE prog 28 3 1 8 := ⟨und_28, ⟨Go.Proofs.Try.t3, (match Go.Proofs.Try.t3.zero with | some z => z | none => undef), by kernel_rfl, by kernel_rfl, by kernel_rfl, by kernel_rfl, by kernel_rfl⟩, by decide⟩
theorem zero_29 : zeroD prog 29 = #[(Value.slice none 0 0)] := by kernel_rfl
theorem und_29 : prog.underlying 29 = some (.slice 69) := by kernel_rfl
theorem te_29 : TE prog 29 69 7 120 := ⟨und_29, ⟨Go.Proofs.Try.t69, (match Go.Proofs.Try.t69.zero with | some z => z | none => undef), by kernel_rfl, by kernel_rfl, by kernel_rfl, by kernel_rfl, by kernel_rfl⟩, by decide⟩
theorem zero_30 : zeroD prog 30 = #[(Value.slice none 0 0), (Value.slice none 0 0), (Value.int IntKind.i64 0)] := by kernel_rfl
theorem zero_31 : zeroD prog 31 = #[(Value.slice none 0 0), (Value.slice none 0 0), (Value.int IntKind.i64 0)] := by kernel_rfl
theorem zero_33 : zeroD prog 33 = #[(Value.int IntKind.i64 0), (Value.int IntKind.i64 0), (Value.int IntKind.i64 0)] := by kernel_rfl
theorem eqT_33 : eqT prog 6 33 = some 3 := by kernel_rfl
theorem agg_33 : isAggT prog 33 = true := by kernel_rfl
theorem egt_33 : prog.eqGuardType prog.depth 33 = false := by kernel_rfl
theorem zero_34 : zeroD prog 34 = #[(Value.int IntKind.i64 0), (Value.int IntKind.i64 0), (Value.int IntKind.i64 0)] := by kernel_rfl
theorem eqT_34 : eqT prog 6 34 = some 3 := by kernel_rfl
theorem agg_34 : isAggT prog 34 = true := by kernel_rfl
theorem egt_34 : prog.eqGuardType prog.depth 34 = false := by kernel_rfl
theorem zero_35 : zeroD prog 35 = #[(Value.int IntKind.i64 0), (Value.int IntKind.i64 0), (Value.int IntKind.i64 0), (Value.int IntKind.i64 0), (Value.int IntKind.i64 0), (Value.int IntKind.i64 0)] := by kernel_rfl
theorem eqT_35 : eqT prog 6 35 = some 6 := by kernel_rfl
theorem agg_35 : isAggT prog 35 = true := by kernel_rfl
theorem egt_35 : prog.eqGuardType prog.depth 35 = false := by kernel_rfl
theorem zero_36 : zeroD prog 36 = #[(Value.int IntKind.i64 0), (Value.int IntKind.i64 0), (Value.int IntKind.i64 0), (Value.int IntKind.i64 0), (Value.int IntKind.i64 0), (Value.int IntKind.i64 0)] := by kernel_rfl
theorem eqT_36 : eqT prog 6 36 = some 6 := by kernel_rfl
theorem agg_36 : isAggT prog 36 = true := by kernel_rfl
theorem egt_36 : prog.eqGuardType prog.depth 36 = false := by kernel_rfl
theorem zero_37 : zeroD prog 37 = #[(Value.int IntKind.i64 0), (Value.int IntKind.i64 0), (Value.int IntKind.i64 0), (Value.int IntKind.i64 0), (Value.int IntKind.i64 0), (Value.int IntKind.i64 0), (Value.int IntKind.i64 0), (Value.int IntKind.i64 0)] := by kernel_rfl
theorem eqT_37 : eqT prog 6 37 = some 8 := by kernel_rfl
theorem agg_37 : isAggT prog 37 = true := by kernel_rfl
theorem egt_37 : prog.eqGuardType prog.depth 37 = false := by kernel_rfl
theorem zero_38 : zeroD prog 38 = #[(Value.int IntKind.i64 0), (Value.int IntKind.i64 0), (Value.int IntKind.i64 0), (Value.int IntKind.i64 0), (Value.int IntKind.i64 0), (Value.int IntKind.i64 0), (Value.int IntKind.i64 0), (Value.int IntKind.i64 0)] := by kernel_rfl
theorem eqT_38 : eqT prog 6 38 = some 8 := by kernel_rfl
theorem agg_38 : isAggT prog 38 = true := by kernel_rfl
theorem egt_38 : prog.eqGuardType prog.depth 38 = false := by kernel_rfl
theorem zero_39 : zeroD prog 39 = #[(Value.int IntKind.i64 0), (Value.int IntKind.i64 0), (Value.int IntKind.i64 0), (Value.int IntKind.i64 0), (Value.int IntKind.i64 0), (Value.int IntKind.i64 0), (Value.int IntKind.i64 0), (Value.int IntKind.i64 0), (Value.int IntKind.i64 0), (Value.int IntKind.i64 0)] := by kernel_rfl
theorem eqT_39 : eqT prog 6 39 = some 10 := by kernel_rfl
theorem agg_39 : isAggT prog 39 = true := by kernel_rfl
theorem egt_39 : prog.eqGuardType prog.depth 39 = false := by kernel_rfl
theorem zero_40 : zeroD prog 40 = #[(Value.int IntKind.i64 0), (Value.int IntKind.i64 0), (Value.int IntKind.i64 0), (Value.int IntKind.i64 0), (Value.int IntKind.i64 0), (Value.int IntKind.i64 0), (Value.int IntKind.i64 0), (Value.int IntKind.i64 0), (Value.int IntKind.i64 0), (Value.int IntKind.i64 0)] := by kernel_rfl
theorem eqT_40 : eqT prog 6 40 = some 10 := by kernel_rfl
theorem agg_40 : isAggT prog 40 = true := by kernel_rfl
theorem egt_40 : prog.eqGuardType prog.depth 40 = false := by kernel_rfl
theorem zero_42 : zeroD prog 42 = #[(Value.pointer none)] := by kernel_rfl
theorem zero_43 : zeroD prog 43 = #[(Value.pointer none)] := by kernel_rfl
theorem zero_44 : zeroD prog 44 = #[(Value.pointer none)] := by kernel_rfl
theorem zero_45 : zeroD prog 45 = #[(Value.pointer none)] := by kernel_rfl
theorem zero_46 : zeroD prog 46 = #[(Value.slice none 0 0)] := by kernel_rfl
theorem und_46 : prog.underlying 46 = some (.slice 51) := by kernel_rfl
theorem te_46 : TE prog 46 51 7 56 := ⟨und_46, ⟨Go.Proofs.Try.t51, (match Go.Proofs.Try.t51.zero with | some z => z | none => undef), by kernel_rfl, by kernel_rfl, by kernel_rfl, by kernel_rfl, by kernel_rfl⟩, by decide⟩
theorem zero_47 : zeroD prog 47 = #[(Value.pointer none), (Value.pointer none), (Value.slice none 0 0), (Value.slice none 0 0), (Value.int IntKind.i64 0), (Value.int IntKind.i64 0), (Value.int IntKind.i64 0), (Value.int IntKind.i64 0), (Value.slice none 0 0)] := by kernel_rfl
theorem zero_48 : zeroD prog 48 = #[(Value.pointer none), (Value.pointer none), (Value.slice none 0 0), (Value.slice none 0 0), (Value.int IntKind.i64 0), (Value.int IntKind.i64 0), (Value.int IntKind.i64 0), (Value.int IntKind.i64 0), (Value.slice none 0 0)] := by kernel_rfl
theorem zero_50 : zeroD prog 50 = #[(Value.int IntKind.i64 0), (Value.int IntKind.i64 0), (Value.int IntKind.i64 0), (Value.int IntKind.i64 0), (Value.int IntKind.i64 0), (Value.int IntKind.i64 0), (Value.int IntKind.i64 0)] := by kernel_rfl
theorem eqT_50 : eqT prog 6 50 = some 7 := by kernel_rfl
theorem agg_50 : isAggT prog 50 = true := by kernel_rfl
theorem egt_50 : prog.eqGuardType prog.depth 50 = false := by kernel_rfl
theorem zero_51 : zeroD prog 51 = #[(Value.int IntKind.i64 0), (Value.int IntKind.i64 0), (Value.int IntKind.i64 0), (Value.int IntKind.i64 0), (Value.int IntKind.i64 0), (Value.int IntKind.i64 0), (Value.int IntKind.i64 0)] := by kernel_rfl
theorem eqT_51 : eqT prog 6 51 = some 7 := by kernel_rfl
theorem agg_51 : isAggT prog 51 = true := by kernel_rfl
theorem egt_51 : prog.eqGuardType prog.depth 51 = false := by kernel_rfl
theorem zero_52 : zeroD prog 52 = #[(Value.slice none 0 0)] := by kernel_rfl
theorem und_52 : prog.underlying 52 = some (.slice 36) := by kernel_rfl
theorem te_52 : TE prog 52 36 6 48 := ⟨und_52, ⟨Go.Proofs.Try.t36, (match Go.Proofs.Try.t36.zero with | some z => z | none => undef), by kernel_rfl, by kernel_rfl, by kernel_rfl, by kernel_rfl, by kernel_rfl⟩, by decide⟩
theorem zero_60 : zeroD prog 60 = #[(Value.slice none 0 0)] := by kernel_rfl
theorem und_60 : prog.underlying 60 = some (.slice 5) := by kernel_rfl
theorem te_60 : TE prog 60 5 1 1 := ⟨und_60, ⟨Go.Proofs.Try.t5, (match Go.Proofs.Try.t5.zero with | some z => z | none => undef), by kernel_rfl, by kernel_rfl, by kernel_rfl, by kernel_rfl, by kernel_rfl⟩, by decide⟩
theorem zero_66 : zeroD prog 66 = #[(Value.slice none 0 0)] := by kernel_rfl
theorem und_66 : prog.underlying 66 = some (.slice 77) := by kernel_rfl
theorem te_66 : TE prog 66 77 4 48 := ⟨und_66, ⟨Go.Proofs.Try.t77, (match Go.Proofs.Try.t77.zero with | some z => z | none => undef), by kernel_rfl, by kernel_rfl, by kernel_rfl, by kernel_rfl, by kernel_rfl⟩, by decide⟩
theorem zero_67 : zeroD prog 67 = #[(Value.slice none 0 0)] := by kernel_rfl
theorem und_67 : prog.underlying 67 = some (.slice 75) := by kernel_rfl
theorem te_67 : TE prog 67 75 3 24 := ⟨und_67, ⟨Go.Proofs.Try.t75, (match Go.Proofs.Try.t75.zero with | some z => z | none => undef), by kernel_rfl, by kernel_rfl, by kernel_rfl, by kernel_rfl, by kernel_rfl⟩, by decide⟩
theorem zero_68 : zeroD prog 68 = #[(Value.int IntKind.i64 0), (Value.int IntKind.i64 0), (Value.int IntKind.i64 0), (Value.slice none 0 0), (Value.slice none 0 0), (Value.slice none 0 0), (Value.slice none 0 0)] := by kernel_rfl
theorem zero_69 : zeroD prog 69 = #[(Value.int IntKind.i64 0), (Value.int IntKind.i64 0), (Value.int IntKind.i64 0), (Value.slice none 0 0), (Value.slice none 0 0), (Value.slice none 0 0), (Value.slice none 0 0)] := by kernel_rfl
theorem zero_74 : zeroD prog 74 = #[(Value.int IntKind.i64 0), (Value.int IntKind.i64 0), (Value.int IntKind.i64 0)] := by kernel_rfl
theorem eqT_74 : eqT prog 6 74 = some 3 := by kernel_rfl
theorem agg_74 : isAggT prog 74 = true := by kernel_rfl
theorem egt_74 : prog.eqGuardType prog.depth 74 = false := by kernel_rfl
theorem zero_75 : zeroD prog 75 = #[(Value.int IntKind.i64 0), (Value.int IntKind.i64 0), (Value.int IntKind.i64 0)] := by kernel_rfl
theorem eqT_75 : eqT prog 6 75 = some 3 := by kernel_rfl
theorem agg_75 : isAggT prog 75 = true := by kernel_rfl
theorem egt_75 : prog.eqGuardType prog.depth 75 = false := by kernel_rfl
theorem zero_76 : zeroD prog 76 = #[(Value.int IntKind.i64 0), (Value.int IntKind.i64 0), (Value.int IntKind.i64 0), (Value.slice none 0 0)] := by kernel_rfl
theorem zero_77 : zeroD prog 77 = #[(Value.int IntKind.i64 0), (Value.int IntKind.i64 0), (Value.int IntKind.i64 0), (Value.slice none 0 0)] := by kernel_rfl
theorem zero_79 : zeroD prog 79 = #[(Value.map none)] := by kernel_rfl
theorem und_79 : prog.underlying 79 = some (.map 3 3) := by kernel_rfl
theorem mapT_79 : MapT prog 79 3 3 (Value.int IntKind.i64 0) := ⟨und_79, ⟨Go.Proofs.Try.t3, by kernel_rfl, by kernel_rfl⟩⟩
theorem keyT_79 : KeyT prog 3 (fun n : Int => .int .i64 n) := keyT_int (by kernel_rfl)
theorem zero_80 : zeroD prog 80 = #[(Value.map none), (Value.int IntKind.i64 0)] := by kernel_rfl
theorem zero_81 : zeroD prog 81 = #[(Value.map none), (Value.int IntKind.i64 0)] := by kernel_rfl
theorem zero_98 : zeroD prog 98 = #[(Value.map none)] := by kernel_rfl
theorem und_98 : prog.underlying 98 = some (.map 34 3) := by kernel_rfl
theorem mapT_98 : MapT prog 98 34 3 (Value.int IntKind.i64 0) := ⟨und_98, ⟨Go.Proofs.Try.t3, by kernel_rfl, by kernel_rfl⟩⟩
theorem zero_99 : zeroD prog 99 = #[(Value.int IntKind.i64 0), (Value.slice none 0 0), (Value.map none)] := by kernel_rfl
theorem zero_100 : zeroD prog 100 = #[(Value.int IntKind.i64 0), (Value.slice none 0 0), (Value.map none)] := by kernel_rfl
theorem zero_103 : zeroD prog 103 = #[(Value.pointer none)] := by kernel_rfl
theorem zero_108 : zeroD prog 108 = #[(Value.pointer none)] := by kernel_rfl
theorem zero_109 : zeroD prog 109 = #[(Value.pointer none)] := by kernel_rfl
theorem zero_119 : zeroD prog 119 = #[(Value.slice none 0 0)] := by kernel_rfl
theorem und_119 : prog.underlying 119 = some (.slice 94) := by kernel_rfl
theorem te_119 : TE prog 119 94 1 8 := ⟨und_119, ⟨Go.Proofs.Try.t94, (match Go.Proofs.Try.t94.zero with | some z => z | none => undef), by kernel_rfl, by kernel_rfl, by kernel_rfl, by kernel_rfl, by kernel_rfl⟩, by decide⟩
theorem zero_125 : zeroD prog 125 = #[(Value.int IntKind.u64 0)] := by kernel_rfl
theorem zero_126 : zeroD prog 126 = #[Value.nilIface] := by kernel_rfl
theorem zero_127 : zeroD prog 127 = #[Value.nilIface] := by kernel_rfl
theorem zero_141 : zeroD prog 141 = #[(Value.map none)] := by kernel_rfl
theorem und_141 : prog.underlying 141 = some (.map 143 4) := by kernel_rfl
theorem mapT_141 : MapT prog 141 143 4 (Value.bool false) := ⟨und_141, ⟨Go.Proofs.Try.t4, by kernel_rfl, by kernel_rfl⟩⟩
theorem zero_142 : zeroD prog 142 = #[(Value.int IntKind.i64 0), (Value.int IntKind.i64 0)] := by kernel_rfl
theorem eqT_142 : eqT prog 6 142 = some 2 := by kernel_rfl
theorem agg_142 : isAggT prog 142 = true := by kernel_rfl
theorem egt_142 : prog.eqGuardType prog.depth 142 = false := by kernel_rfl
theorem zero_143 : zeroD prog 143 = #[(Value.int IntKind.i64 0), (Value.int IntKind.i64 0)] := by kernel_rfl
theorem eqT_143 : eqT prog 6 143 = some 2 := by kernel_rfl
theorem agg_143 : isAggT prog 143 = true := by kernel_rfl
theorem egt_143 : prog.eqGuardType prog.depth 143 = false := by kernel_rfl
theorem zero_151 : zeroD prog 151 = #[(Value.int IntKind.i64 0)] := by kernel_rfl
theorem zero_158 : zeroD prog 158 = #[(Value.int IntKind.u32 0)] := by kernel_rfl
theorem zero_160 : zeroD prog 160 = #[(Value.int IntKind.u64 0)] := by kernel_rfl
theorem zero_161 : zeroD prog 161 = #[(Value.int IntKind.u64 0)] := by kernel_rfl
theorem zero_165 : zeroD prog 165 = #[(Value.pointer none)] := by kernel_rfl
theorem zero_167 : zeroD prog 167 = #[(Value.pointer none)] := by kernel_rfl
theorem zero_171 : zeroD prog 171 = #[(Value.pointer none), (Value.pointer none), (Value.pointer none), (Value.string { data := #[] })] := by kernel_rfl
theorem zero_172 : zeroD prog 172 = #[(Value.pointer none), (Value.pointer none), (Value.pointer none), (Value.string { data := #[] })] := by kernel_rfl
theorem zero_173 : zeroD prog 173 = #[] := by kernel_rfl
theorem zero_174 : zeroD prog 174 = #[] := by kernel_rfl
theorem zero_175 : zeroD prog 175 = #[] := by kernel_rfl
theorem zero_176 : zeroD prog 176 = #[(Value.int IntKind.u8 0)] := by kernel_rfl
theorem zero_177 : zeroD prog 177 = #[(Value.int IntKind.u8 0)] := by kernel_rfl
theorem zero_179 : zeroD prog 179 = #[(Value.pointer none)] := by kernel_rfl
theorem zero_180 : zeroD prog 180 = #[(Value.int IntKind.i32 0)] := by kernel_rfl
theorem zero_181 : zeroD prog 181 = #[(Value.int IntKind.i32 0)] := by kernel_rfl
theorem zero_182 : zeroD prog 182 = #[(Value.int IntKind.u64 0), (Value.int IntKind.u64 0), (Value.int IntKind.u32 0), (Value.int IntKind.u8 0), (Value.int IntKind.u8 0), (Value.int IntKind.u8 0), (Value.int IntKind.u8 0), Value.nilFunc, (Value.pointer none), (Value.int IntKind.i32 0), (Value.int IntKind.i32 0)] := by kernel_rfl
theorem zero_183 : zeroD prog 183 = #[(Value.int IntKind.u64 0), (Value.int IntKind.u64 0), (Value.int IntKind.u32 0), (Value.int IntKind.u8 0), (Value.int IntKind.u8 0), (Value.int IntKind.u8 0), (Value.int IntKind.u8 0), Value.nilFunc, (Value.pointer none), (Value.int IntKind.i32 0), (Value.int IntKind.i32 0)] := by kernel_rfl
end Go.Proofs.Ytenglfaeohgkfaa
