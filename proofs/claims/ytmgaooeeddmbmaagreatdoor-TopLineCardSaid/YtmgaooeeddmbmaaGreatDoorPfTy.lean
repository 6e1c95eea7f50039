/- Printed by prt.py: the Go functions of this seat as shallow predicate transformers. Conditions: none. -/
import Derived.Test.YtmgaooeeddmbmaaGreatDoorEngO
import Derived.Test.YtmgaooeeddmbmaaGreatDoorPfHead
import Derived.Test.YtmgaooeeddmbmaaGreatDoorEngM
import Derived.KernelRfl
namespace Go.Proofs.YtmgaooeeddmbmaaGreatDoor
open Go Go.E
set_option linter.unusedVariables false
set_option maxRecDepth 100000
theorem zero_2 : zeroD prog 2 = #[(Value.int IntKind.i64 0)] := by kernel_rfl
theorem zero_3 : zeroD prog 3 = #[(Value.int IntKind.i64 0)] := by kernel_rfl
theorem zero_4 : zeroD prog 4 = #[(Value.bool false)] := by kernel_rfl
theorem zero_5 : zeroD prog 5 = #[(Value.int IntKind.u8 0)] := by kernel_rfl
theorem zero_6 : zeroD prog 6 = #[(Value.int IntKind.u8 0)] := by kernel_rfl
theorem zero_7 : zeroD prog 7 = #[(Value.int IntKind.i64 0), (Value.int IntKind.i64 0), (Value.bool false), (Value.int IntKind.u8 0)] := by kernel_rfl
theorem zero_8 : zeroD prog 8 = #[(Value.int IntKind.i64 0), (Value.int IntKind.i64 0), (Value.bool false), (Value.int IntKind.u8 0)] := by kernel_rfl
theorem zero_9 : zeroD prog 9 = #[(Value.string { data := #[] })] := by kernel_rfl
theorem zero_10 : zeroD prog 10 = #[(Value.string { data := #[] })] := by kernel_rfl
theorem zero_11 : zeroD prog 11 = #[(Value.string { data := #[] })] := by kernel_rfl
theorem zero_12 : zeroD prog 12 = #[(Value.int IntKind.u64 0)] := by kernel_rfl
theorem zero_13 : zeroD prog 13 = #[(Value.string { data := #[] }), (Value.int IntKind.u64 0)] := by kernel_rfl
theorem zero_14 : zeroD prog 14 = #[(Value.string { data := #[] }), (Value.int IntKind.u64 0)] := by kernel_rfl
theorem zero_15 : zeroD prog 15 = #[(Value.pointer none)] := by kernel_rfl
theorem zero_16 : zeroD prog 16 = #[(Value.pointer none)] := by kernel_rfl
theorem zero_17 : zeroD prog 17 = #[(Value.pointer none)] := by kernel_rfl
theorem zero_18 : zeroD prog 18 = #[(Value.pointer none)] := by kernel_rfl
theorem zero_19 : zeroD prog 19 = #[(Value.pointer none)] := by kernel_rfl
theorem zero_20 : zeroD prog 20 = #[Value.nilIface] := by kernel_rfl
theorem zero_21 : zeroD prog 21 = #[(Value.int IntKind.i32 0)] := by kernel_rfl
theorem zero_22 : zeroD prog 22 = #[(Value.slice none 0 0)] := by kernel_rfl
theorem und_22 : prog.underlying 22 = some (.slice 5) := by kernel_rfl
theorem te_22 : TE prog 22 5 1 1 := ⟨und_22, ⟨Go.Proofs.Tryz.t5, (match Go.Proofs.Tryz.t5.zero with | some z => z | none => undef), by kernel_rfl, by kernel_rfl, by kernel_rfl, by kernel_rfl, by kernel_rfl⟩, by decide⟩
theorem zero_23 : zeroD prog 23 = #[(Value.slice none 0 0)] := by kernel_rfl
theorem und_23 : prog.underlying 23 = some (.slice 3) := by kernel_rfl
theorem te_23 : TE prog 23 3 1 8 := ⟨und_23, ⟨Go.Proofs.Tryz.t3, (match Go.Proofs.Tryz.t3.zero with | some z => z | none => undef), by kernel_rfl, by kernel_rfl, by kernel_rfl, by kernel_rfl, by kernel_rfl⟩, by decide⟩
theorem zero_24 : zeroD prog 24 = #[(Value.pointer none)] := by kernel_rfl
theorem zero_25 : zeroD prog 25 = #[(Value.int IntKind.i64 0)] := by kernel_rfl
theorem zero_34 : zeroD prog 34 = #[(Value.slice none 0 0)] := by kernel_rfl
theorem und_34 : prog.underlying 34 = some (.slice 42) := by kernel_rfl
theorem te_34 : TE prog 34 42 6 48 := ⟨und_34, ⟨Go.Proofs.Tryz.t42, (match Go.Proofs.Tryz.t42.zero with | some z => z | none => undef), by kernel_rfl, by kernel_rfl, by kernel_rfl, by kernel_rfl, by kernel_rfl⟩, by decide⟩
theorem zero_35 : zeroD prog 35 = #[(Value.slice none 0 0), (Value.slice none 0 0), (Value.bool false), (Value.int IntKind.i64 0)] := by kernel_rfl
theorem zero_36 : zeroD prog 36 = #[(Value.slice none 0 0), (Value.slice none 0 0), (Value.bool false), (Value.int IntKind.i64 0)] := by kernel_rfl
theorem zero_39 : zeroD prog 39 = #[(Value.int IntKind.i64 0), (Value.int IntKind.i64 0), (Value.int IntKind.i64 0)] := by kernel_rfl
theorem eqT_39 : eqT prog 6 39 = some 3 := by kernel_rfl
theorem agg_39 : isAggT prog 39 = true := by kernel_rfl
theorem egt_39 : prog.eqGuardType prog.depth 39 = false := by kernel_rfl
theorem zero_40 : zeroD prog 40 = #[(Value.int IntKind.i64 0), (Value.int IntKind.i64 0), (Value.int IntKind.i64 0)] := by kernel_rfl
theorem eqT_40 : eqT prog 6 40 = some 3 := by kernel_rfl
theorem agg_40 : isAggT prog 40 = true := by kernel_rfl
theorem egt_40 : prog.eqGuardType prog.depth 40 = false := by kernel_rfl
theorem zero_41 : zeroD prog 41 = #[(Value.int IntKind.i64 0), (Value.int IntKind.i64 0), (Value.int IntKind.i64 0), (Value.int IntKind.i64 0), (Value.int IntKind.i64 0), (Value.int IntKind.i64 0)] := by kernel_rfl
theorem eqT_41 : eqT prog 6 41 = some 6 := by kernel_rfl
theorem agg_41 : isAggT prog 41 = true := by kernel_rfl
theorem egt_41 : prog.eqGuardType prog.depth 41 = false := by kernel_rfl
theorem zero_42 : zeroD prog 42 = #[(Value.int IntKind.i64 0), (Value.int IntKind.i64 0), (Value.int IntKind.i64 0), (Value.int IntKind.i64 0), (Value.int IntKind.i64 0), (Value.int IntKind.i64 0)] := by kernel_rfl
theorem eqT_42 : eqT prog 6 42 = some 6 := by kernel_rfl
theorem agg_42 : isAggT prog 42 = true := by kernel_rfl
theorem egt_42 : prog.eqGuardType prog.depth 42 = false := by kernel_rfl
theorem zero_45 : zeroD prog 45 = #[(Value.pointer none)] := by kernel_rfl
theorem zero_49 : zeroD prog 49 = #[(Value.pointer none)] := by kernel_rfl
theorem zero_50 : zeroD prog 50 = #[(Value.int IntKind.u32 0)] := by kernel_rfl
theorem zero_51 : zeroD prog 51 = #[(Value.bool false), (Value.bool false), (Value.int IntKind.i64 0), (Value.int IntKind.i64 0), (Value.int IntKind.i64 0), (Value.int IntKind.i64 0), (Value.int IntKind.i64 0), (Value.pointer none), (Value.slice none 0 0), (Value.int IntKind.u32 0)] := by kernel_rfl
theorem zero_52 : zeroD prog 52 = #[(Value.bool false), (Value.bool false), (Value.int IntKind.i64 0), (Value.int IntKind.i64 0), (Value.int IntKind.i64 0), (Value.int IntKind.i64 0), (Value.int IntKind.i64 0), (Value.pointer none), (Value.slice none 0 0), (Value.int IntKind.u32 0)] := by kernel_rfl
theorem zero_57 : zeroD prog 57 = #[Value.nilIface] := by kernel_rfl
theorem zero_58 : zeroD prog 58 = #[Value.nilIface] := by kernel_rfl
theorem zero_60 : zeroD prog 60 = #[(Value.bool false), (Value.int IntKind.i64 0)] := by kernel_rfl
theorem zero_61 : zeroD prog 61 = #[(Value.bool false), (Value.int IntKind.i64 0)] := by kernel_rfl
theorem zero_64 : zeroD prog 64 = #[(Value.pointer none)] := by kernel_rfl
theorem zero_70 : zeroD prog 70 = #[(Value.slice none 0 0)] := by kernel_rfl
theorem und_70 : prog.underlying 70 = some (.slice 101) := by kernel_rfl
theorem te_70 : TE prog 70 101 7 48 := ⟨und_70, ⟨Go.Proofs.Tryz.t101, (match Go.Proofs.Tryz.t101.zero with | some z => z | none => undef), by kernel_rfl, by kernel_rfl, by kernel_rfl, by kernel_rfl, by kernel_rfl⟩, by decide⟩
theorem zero_79 : zeroD prog 79 = #[(Value.slice none 0 0)] := by kernel_rfl
theorem und_79 : prog.underlying 79 = some (.slice 50) := by kernel_rfl
theorem te_79 : TE prog 79 50 1 4 := ⟨und_79, ⟨Go.Proofs.Tryz.t50, (match Go.Proofs.Tryz.t50.zero with | some z => z | none => undef), by kernel_rfl, by kernel_rfl, by kernel_rfl, by kernel_rfl, by kernel_rfl⟩, by decide⟩
theorem zero_80 : zeroD prog 80 = #[(Value.int IntKind.u32 0), (Value.int IntKind.u32 0), (Value.int IntKind.u32 0), (Value.int IntKind.u32 0), (Value.int IntKind.u32 0), (Value.int IntKind.u32 0), (Value.int IntKind.u32 0), (Value.int IntKind.u32 0)] := by kernel_rfl
theorem zero_81 : zeroD prog 81 = #[(Value.slice none 0 0), (Value.int IntKind.u32 0), (Value.int IntKind.u32 0), (Value.int IntKind.u32 0), (Value.int IntKind.u32 0), (Value.int IntKind.u32 0), (Value.int IntKind.u32 0), (Value.int IntKind.u32 0), (Value.int IntKind.u32 0), (Value.int IntKind.u32 0), (Value.int IntKind.u32 0), (Value.int IntKind.u32 0), (Value.int IntKind.u32 0), (Value.int IntKind.u32 0), (Value.int IntKind.u32 0), (Value.int IntKind.u32 0), (Value.int IntKind.u32 0)] := by kernel_rfl
theorem zero_82 : zeroD prog 82 = #[(Value.slice none 0 0), (Value.int IntKind.u32 0), (Value.int IntKind.u32 0), (Value.int IntKind.u32 0), (Value.int IntKind.u32 0), (Value.int IntKind.u32 0), (Value.int IntKind.u32 0), (Value.int IntKind.u32 0), (Value.int IntKind.u32 0), (Value.int IntKind.u32 0), (Value.int IntKind.u32 0), (Value.int IntKind.u32 0), (Value.int IntKind.u32 0), (Value.int IntKind.u32 0), (Value.int IntKind.u32 0), (Value.int IntKind.u32 0), (Value.int IntKind.u32 0)] := by kernel_rfl
theorem zero_83 : zeroD prog 83 = #[(Value.int IntKind.u64 0)] := by kernel_rfl
theorem zero_84 : zeroD prog 84 = #[(Value.map none)] := by kernel_rfl
theorem und_84 : prog.underlying 84 = some (.map 40 3) := by kernel_rfl
theorem mapT_84 : MapT prog 84 40 3 (Value.int IntKind.i64 0) := ⟨und_84, ⟨Go.Proofs.Tryz.t3, by kernel_rfl, by kernel_rfl⟩⟩
theorem zero_85 : zeroD prog 85 = #[(Value.int IntKind.i64 0), (Value.slice none 0 0), (Value.map none)] := by kernel_rfl
theorem zero_86 : zeroD prog 86 = #[(Value.int IntKind.i64 0), (Value.slice none 0 0), (Value.map none)] := by kernel_rfl
theorem zero_87 : zeroD prog 87 = #[(Value.slice none 0 0)] := by kernel_rfl
theorem und_87 : prog.underlying 87 = some (.slice 61) := by kernel_rfl
theorem te_87 : TE prog 87 61 2 16 := ⟨und_87, ⟨Go.Proofs.Tryz.t61, (match Go.Proofs.Tryz.t61.zero with | some z => z | none => undef), by kernel_rfl, by kernel_rfl, by kernel_rfl, by kernel_rfl, by kernel_rfl⟩, by decide⟩
theorem zero_88 : zeroD prog 88 = #[(Value.pointer none)] := by kernel_rfl
theorem zero_89 : zeroD prog 89 = #[(Value.int IntKind.i64 0), Value.nilIface] := by kernel_rfl
theorem zero_90 : zeroD prog 90 = #[(Value.int IntKind.i64 0), Value.nilIface] := by kernel_rfl
theorem zero_92 : zeroD prog 92 = #[(Value.pointer none)] := by kernel_rfl
theorem zero_96 : zeroD prog 96 = #[(Value.pointer none)] := by kernel_rfl
theorem zero_99 : zeroD prog 99 = #[(Value.slice none 0 0)] := by kernel_rfl
theorem und_99 : prog.underlying 99 = some (.slice 4) := by kernel_rfl
theorem te_99 : TE prog 99 4 1 1 := ⟨und_99, ⟨Go.Proofs.Tryz.t4, (match Go.Proofs.Tryz.t4.zero with | some z => z | none => undef), by kernel_rfl, by kernel_rfl, by kernel_rfl, by kernel_rfl, by kernel_rfl⟩, by decide⟩
theorem zero_100 : zeroD prog 100 = #[(Value.bool false), (Value.bool false), (Value.int IntKind.i64 0), (Value.int IntKind.i64 0), (Value.int IntKind.i64 0), (Value.int IntKind.i64 0), (Value.int IntKind.i64 0)] := by kernel_rfl
theorem zero_101 : zeroD prog 101 = #[(Value.bool false), (Value.bool false), (Value.int IntKind.i64 0), (Value.int IntKind.i64 0), (Value.int IntKind.i64 0), (Value.int IntKind.i64 0), (Value.int IntKind.i64 0)] := by kernel_rfl
theorem zero_105 : zeroD prog 105 = #[(Value.pointer none)] := by kernel_rfl
theorem zero_106 : zeroD prog 106 = #[(Value.pointer none)] := by kernel_rfl
theorem zero_115 : zeroD prog 115 = #[(Value.int IntKind.u64 0)] := by kernel_rfl
theorem zero_116 : zeroD prog 116 = #[(Value.pointer none), (Value.pointer none), (Value.int IntKind.u64 0)] := by kernel_rfl
theorem zero_117 : zeroD prog 117 = #[(Value.pointer none), (Value.pointer none), (Value.int IntKind.u64 0)] := by kernel_rfl
theorem zero_119 : zeroD prog 119 = #[Value.nilIface] := by kernel_rfl
theorem zero_120 : zeroD prog 120 = #[Value.nilIface] := by kernel_rfl
theorem zero_122 : zeroD prog 122 = #[(Value.int IntKind.u8 0)] := by kernel_rfl
theorem zero_129 : zeroD prog 129 = #[Value.nilIface] := by kernel_rfl
theorem zero_130 : zeroD prog 130 = #[Value.nilIface] := by kernel_rfl
theorem zero_141 : zeroD prog 141 = #[(Value.pointer none)] := by kernel_rfl
theorem zero_142 : zeroD prog 142 = #[(Value.pointer none)] := by kernel_rfl
theorem zero_143 : zeroD prog 143 = #[(Value.pointer none)] := by kernel_rfl
theorem zero_146 : zeroD prog 146 = #[Value.nilIface] := by kernel_rfl
theorem zero_149 : zeroD prog 149 = #[Value.nilIface] := by kernel_rfl
theorem zero_151 : zeroD prog 151 = #[Value.nilIface] := by kernel_rfl
theorem zero_152 : zeroD prog 152 = #[(Value.slice none 0 0)] := by kernel_rfl
theorem und_152 : prog.underlying 152 = some (.slice 58) := by kernel_rfl
theorem te_152 : TE prog 152 58 1 16 := ⟨und_152, ⟨Go.Proofs.Tryz.t58, (match Go.Proofs.Tryz.t58.zero with | some z => z | none => undef), by kernel_rfl, by kernel_rfl, by kernel_rfl, by kernel_rfl, by kernel_rfl⟩, by decide⟩
theorem zero_154 : zeroD prog 154 = #[Value.nilIface] := by kernel_rfl
theorem zero_158 : zeroD prog 158 = #[(Value.int IntKind.i64 0)] := by kernel_rfl
theorem zero_166 : zeroD prog 166 = #[(Value.int IntKind.u64 0)] := by kernel_rfl
theorem zero_167 : zeroD prog 167 = #[(Value.int IntKind.u64 0)] := by kernel_rfl
theorem zero_171 : zeroD prog 171 = #[(Value.pointer none)] := by kernel_rfl
theorem zero_173 : zeroD prog 173 = #[(Value.pointer none)] := by kernel_rfl
theorem zero_177 : zeroD prog 177 = #[(Value.pointer none), (Value.pointer none), (Value.pointer none), (Value.string { data := #[] })] := by kernel_rfl
theorem zero_178 : zeroD prog 178 = #[(Value.pointer none), (Value.pointer none), (Value.pointer none), (Value.string { data := #[] })] := by kernel_rfl
theorem zero_179 : zeroD prog 179 = #[] := by kernel_rfl
theorem zero_180 : zeroD prog 180 = #[] := by kernel_rfl
theorem zero_181 : zeroD prog 181 = #[] := by kernel_rfl
theorem zero_183 : zeroD prog 183 = #[(Value.int IntKind.u8 0)] := by kernel_rfl
theorem zero_185 : zeroD prog 185 = #[(Value.pointer none)] := by kernel_rfl
theorem zero_186 : zeroD prog 186 = #[(Value.int IntKind.i32 0)] := by kernel_rfl
theorem zero_187 : zeroD prog 187 = #[(Value.int IntKind.i32 0)] := by kernel_rfl
theorem zero_188 : zeroD prog 188 = #[(Value.int IntKind.u64 0), (Value.int IntKind.u64 0), (Value.int IntKind.u32 0), (Value.int IntKind.u8 0), (Value.int IntKind.u8 0), (Value.int IntKind.u8 0), (Value.int IntKind.u8 0), Value.nilFunc, (Value.pointer none), (Value.int IntKind.i32 0), (Value.int IntKind.i32 0)] := by kernel_rfl
theorem zero_189 : zeroD prog 189 = #[(Value.int IntKind.u64 0), (Value.int IntKind.u64 0), (Value.int IntKind.u32 0), (Value.int IntKind.u8 0), (Value.int IntKind.u8 0), (Value.int IntKind.u8 0), (Value.int IntKind.u8 0), Value.nilFunc, (Value.pointer none), (Value.int IntKind.i32 0), (Value.int IntKind.i32 0)] := by kernel_rfl
theorem zero_192 : zeroD prog 192 = #[(Value.string { data := #[] }), (Value.int IntKind.u8 0)] := by kernel_rfl
theorem zero_193 : zeroD prog 193 = #[(Value.string { data := #[] }), (Value.int IntKind.u8 0)] := by kernel_rfl
theorem zero_194 : zeroD prog 194 = #[(Value.pointer none)] := by kernel_rfl
theorem zero_196 : zeroD prog 196 = #[(Value.int IntKind.u16 0)] := by kernel_rfl
theorem zero_197 : zeroD prog 197 = #[(Value.int IntKind.i32 0), (Value.int IntKind.u16 0), (Value.int IntKind.u16 0), (Value.int IntKind.u32 0), (Value.int IntKind.u32 0)] := by kernel_rfl
theorem zero_198 : zeroD prog 198 = #[(Value.int IntKind.i32 0), (Value.int IntKind.u16 0), (Value.int IntKind.u16 0), (Value.int IntKind.u32 0), (Value.int IntKind.u32 0)] := by kernel_rfl
theorem zero_199 : zeroD prog 199 = #[(Value.slice none 0 0)] := by kernel_rfl
theorem und_199 : prog.underlying 199 = some (.slice 202) := by kernel_rfl
theorem te_199 : TE prog 199 202 4 16 := ⟨und_199, ⟨Go.Proofs.Tryz.t202, (match Go.Proofs.Tryz.t202.zero with | some z => z | none => undef), by kernel_rfl, by kernel_rfl, by kernel_rfl, by kernel_rfl, by kernel_rfl⟩, by decide⟩
theorem zero_200 : zeroD prog 200 = #[(Value.int IntKind.i32 0)] := by kernel_rfl
theorem zero_201 : zeroD prog 201 = #[(Value.int IntKind.i32 0), (Value.int IntKind.i32 0), (Value.int IntKind.i32 0), (Value.int IntKind.i32 0)] := by kernel_rfl
theorem zero_202 : zeroD prog 202 = #[(Value.int IntKind.i32 0), (Value.int IntKind.i32 0), (Value.int IntKind.i32 0), (Value.int IntKind.i32 0)] := by kernel_rfl
theorem zero_203 : zeroD prog 203 = #[(Value.pointer none)] := by kernel_rfl
end Go.Proofs.YtmgaooeeddmbmaaGreatDoor
