/- Printed by prt.py: the Go functions of this seat as shallow predicate transformers. Conditions: none. -/
import Derived.Test.YtdiglafiimnfoaaEngO
import Derived.Test.YtdiglafiimnfoaaPfHead
import Derived.Test.YtdiglafiimnfoaaEngM
import Derived.KernelRfl
namespace Go.Proofs.Ytdiglafiimnfoaa
open Go Go.E
set_option linter.unusedVariables false
set_option maxRecDepth 100000
theorem zero_2 : zeroD prog 2 = #[(Value.int IntKind.i64 0)] := by kernel_rfl
theorem zero_3 : zeroD prog 3 = #[(Value.int IntKind.i64 0)] := by kernel_rfl
theorem zero_4 : zeroD prog 4 = #[(Value.bool false)] := by kernel_rfl
theorem zero_5 : zeroD prog 5 = #[(Value.int IntKind.u8 0)] := by kernel_rfl
theorem zero_6 : zeroD prog 6 = #[(Value.int IntKind.u8 0)] := by kernel_rfl
theorem zero_7 : zeroD prog 7 = #[(Value.int IntKind.i64 0), (Value.int IntKind.i64 0), (Value.bool false), (Value.int IntKind.u8 0)] := by kernel_rfl
theorem zero_8 : zeroD prog 8 = #[(Value.int IntKind.i64 0), (Value.int IntKind.i64 0), (Value.bool false), (Value.int IntKind.u8 0)] := by kernel_rfl
theorem zero_9 : zeroD prog 9 = #[(Value.string { data := #[] })] := by kernel_rfl
theorem zero_10 : zeroD prog 10 = #[(Value.string { data := #[] })] := by kernel_rfl
theorem zero_11 : zeroD prog 11 = #[(Value.string { data := #[] })] := by kernel_rfl
theorem zero_12 : zeroD prog 12 = #[(Value.int IntKind.u64 0)] := by kernel_rfl
theorem zero_13 : zeroD prog 13 = #[(Value.string { data := #[] }), (Value.int IntKind.u64 0)] := by kernel_rfl
theorem zero_14 : zeroD prog 14 = #[(Value.string { data := #[] }), (Value.int IntKind.u64 0)] := by kernel_rfl
theorem zero_15 : zeroD prog 15 = #[(Value.pointer none)] := by kernel_rfl
theorem zero_16 : zeroD prog 16 = #[(Value.pointer none)] := by kernel_rfl
theorem zero_17 : zeroD prog 17 = #[(Value.pointer none)] := by kernel_rfl
theorem zero_18 : zeroD prog 18 = #[(Value.pointer none)] := by kernel_rfl
theorem zero_19 : zeroD prog 19 = #[(Value.pointer none)] := by kernel_rfl
theorem zero_20 : zeroD prog 20 = #[Value.nilIface] := by kernel_rfl
theorem zero_21 : zeroD prog 21 = #[(Value.int IntKind.i32 0)] := by kernel_rfl
theorem zero_22 : zeroD prog 22 = #[(Value.slice none 0 0)] := by kernel_rfl
theorem und_22 : prog.underlying 22 = some (.slice 31) := by kernel_rfl
theorem te_22 : TE prog 22 31 3 24 := ⟨und_22, ⟨Go.Proofs.Try.t31, (match Go.Proofs.Try.t31.zero with | some z => z | none => undef), by kernel_rfl, by kernel_rfl, by kernel_rfl, by kernel_rfl, by kernel_rfl⟩, by decide⟩
theorem zero_23 : zeroD prog 23 = #[(Value.pointer none)] := by kernel_rfl
theorem zero_24 : zeroD prog 24 = #[(Value.int IntKind.i64 0)] := by kernel_rfl
theorem zero_27 : zeroD prog 27 = #[(Value.pointer none)] := by kernel_rfl
theorem zero_30 : zeroD prog 30 = #[(Value.int IntKind.i64 0), (Value.int IntKind.i64 0), (Value.int IntKind.i64 0)] := by kernel_rfl
theorem eqT_30 : eqT prog 6 30 = some 3 := by kernel_rfl
theorem agg_30 : isAggT prog 30 = true := by kernel_rfl
theorem egt_30 : prog.eqGuardType prog.depth 30 = false := by kernel_rfl
theorem zero_31 : zeroD prog 31 = #[(Value.int IntKind.i64 0), (Value.int IntKind.i64 0), (Value.int IntKind.i64 0)] := by kernel_rfl
theorem eqT_31 : eqT prog 6 31 = some 3 := by kernel_rfl
theorem agg_31 : isAggT prog 31 = true := by kernel_rfl
theorem egt_31 : prog.eqGuardType prog.depth 31 = false := by kernel_rfl
theorem zero_38 : zeroD prog 38 = #[(Value.slice none 0 0)] := by kernel_rfl
theorem und_38 : prog.underlying 38 = some (.slice 3) := by kernel_rfl
theorem te_38 : TE prog 38 3 1 8 := ⟨und_38, ⟨Go.Proofs.Try.t3, (match Go.Proofs.Try.t3.zero with | some z => z | none => undef), by kernel_rfl, by kernel_rfl, by kernel_rfl, by kernel_rfl, by kernel_rfl⟩, by decide⟩
theorem zero_39 : zeroD prog 39 = #[(Value.slice none 0 0)] := by kernel_rfl
theorem und_39 : prog.underlying 39 = some (.slice 4) := by kernel_rfl
theorem te_39 : TE prog 39 4 1 1 := ⟨und_39, ⟨Go.Proofs.Try.t4, (match Go.Proofs.Try.t4.zero with | some z => z | none => undef), by kernel_rfl, by kernel_rfl, by kernel_rfl, by kernel_rfl, by kernel_rfl⟩, by decide⟩
theorem zero_40 : zeroD prog 40 = #[(Value.int IntKind.i64 0), (Value.int IntKind.i64 0)] := by kernel_rfl
theorem zero_41 : zeroD prog 41 = #[(Value.slice none 0 0), (Value.slice none 0 0), (Value.slice none 0 0), (Value.int IntKind.i64 0), (Value.int IntKind.i64 0), (Value.bool false), (Value.int IntKind.i64 0), (Value.int IntKind.i64 0), (Value.int IntKind.i64 0), (Value.int IntKind.i64 0)] := by kernel_rfl
theorem zero_42 : zeroD prog 42 = #[(Value.slice none 0 0), (Value.slice none 0 0), (Value.slice none 0 0), (Value.int IntKind.i64 0), (Value.int IntKind.i64 0), (Value.bool false), (Value.int IntKind.i64 0), (Value.int IntKind.i64 0), (Value.int IntKind.i64 0), (Value.int IntKind.i64 0)] := by kernel_rfl
theorem zero_46 : zeroD prog 46 = #[(Value.slice none 0 0)] := by kernel_rfl
theorem und_46 : prog.underlying 46 = some (.slice 49) := by kernel_rfl
theorem te_46 : TE prog 46 49 4 32 := ⟨und_46, ⟨Go.Proofs.Try.t49, (match Go.Proofs.Try.t49.zero with | some z => z | none => undef), by kernel_rfl, by kernel_rfl, by kernel_rfl, by kernel_rfl, by kernel_rfl⟩, by decide⟩
theorem zero_47 : zeroD prog 47 = #[(Value.slice none 0 0)] := by kernel_rfl
theorem und_47 : prog.underlying 47 = some (.slice 51) := by kernel_rfl
theorem te_47 : TE prog 47 51 3 24 := ⟨und_47, ⟨Go.Proofs.Try.t51, (match Go.Proofs.Try.t51.zero with | some z => z | none => undef), by kernel_rfl, by kernel_rfl, by kernel_rfl, by kernel_rfl, by kernel_rfl⟩, by decide⟩
theorem zero_48 : zeroD prog 48 = #[(Value.int IntKind.i64 0), (Value.int IntKind.i64 0), (Value.int IntKind.i64 0), (Value.int IntKind.u8 0)] := by kernel_rfl
theorem zero_49 : zeroD prog 49 = #[(Value.int IntKind.i64 0), (Value.int IntKind.i64 0), (Value.int IntKind.i64 0), (Value.int IntKind.u8 0)] := by kernel_rfl
theorem zero_50 : zeroD prog 50 = #[(Value.int IntKind.i64 0), (Value.int IntKind.i64 0), (Value.int IntKind.i64 0)] := by kernel_rfl
theorem eqT_50 : eqT prog 6 50 = some 3 := by kernel_rfl
theorem agg_50 : isAggT prog 50 = true := by kernel_rfl
theorem egt_50 : prog.eqGuardType prog.depth 50 = false := by kernel_rfl
theorem zero_51 : zeroD prog 51 = #[(Value.int IntKind.i64 0), (Value.int IntKind.i64 0), (Value.int IntKind.i64 0)] := by kernel_rfl
theorem eqT_51 : eqT prog 6 51 = some 3 := by kernel_rfl
theorem agg_51 : isAggT prog 51 = true := by kernel_rfl
theorem egt_51 : prog.eqGuardType prog.depth 51 = false := by kernel_rfl
theorem zero_53 : zeroD prog 53 = #[(Value.int IntKind.u16 0)] := by kernel_rfl
theorem zero_55 : zeroD prog 55 = #[(Value.slice none 0 0)] := by kernel_rfl
theorem und_55 : prog.underlying 55 = some (.slice 67) := by kernel_rfl
theorem te_55 : TE prog 55 67 11 88 := ⟨und_55, ⟨Go.Proofs.Try.t67, (match Go.Proofs.Try.t67.zero with | some z => z | none => undef), by kernel_rfl, by kernel_rfl, by kernel_rfl, by kernel_rfl, by kernel_rfl⟩, by decide⟩
theorem zero_56 : zeroD prog 56 = #[(Value.pointer none)] := by kernel_rfl
theorem zero_59 : zeroD prog 59 = #[(Value.slice none 0 0)] := by kernel_rfl
theorem und_59 : prog.underlying 59 = some (.slice 65) := by kernel_rfl
theorem te_59 : TE prog 59 65 8 64 := ⟨und_59, ⟨Go.Proofs.Try.t65, (match Go.Proofs.Try.t65.zero with | some z => z | none => undef), by kernel_rfl, by kernel_rfl, by kernel_rfl, by kernel_rfl, by kernel_rfl⟩, by decide⟩
theorem zero_60 : zeroD prog 60 = #[(Value.int IntKind.i64 0), (Value.int IntKind.i64 0), (Value.int IntKind.i64 0)] := by kernel_rfl
theorem eqT_60 : eqT prog 6 60 = some 3 := by kernel_rfl
theorem agg_60 : isAggT prog 60 = true := by kernel_rfl
theorem egt_60 : prog.eqGuardType prog.depth 60 = false := by kernel_rfl
theorem zero_61 : zeroD prog 61 = #[(Value.int IntKind.i64 0), (Value.int IntKind.i64 0), (Value.int IntKind.i64 0)] := by kernel_rfl
theorem eqT_61 : eqT prog 6 61 = some 3 := by kernel_rfl
theorem agg_61 : isAggT prog 61 = true := by kernel_rfl
theorem egt_61 : prog.eqGuardType prog.depth 61 = false := by kernel_rfl
theorem zero_62 : zeroD prog 62 = #[(Value.int IntKind.i64 0), (Value.int IntKind.i64 0), (Value.int IntKind.i64 0), (Value.int IntKind.i64 0), (Value.int IntKind.i64 0), (Value.int IntKind.i64 0)] := by kernel_rfl
theorem eqT_62 : eqT prog 6 62 = some 6 := by kernel_rfl
theorem agg_62 : isAggT prog 62 = true := by kernel_rfl
theorem egt_62 : prog.eqGuardType prog.depth 62 = false := by kernel_rfl
theorem zero_63 : zeroD prog 63 = #[(Value.int IntKind.i64 0), (Value.int IntKind.i64 0), (Value.int IntKind.i64 0), (Value.int IntKind.i64 0), (Value.int IntKind.i64 0), (Value.int IntKind.i64 0)] := by kernel_rfl
theorem eqT_63 : eqT prog 6 63 = some 6 := by kernel_rfl
theorem agg_63 : isAggT prog 63 = true := by kernel_rfl
theorem egt_63 : prog.eqGuardType prog.depth 63 = false := by kernel_rfl
theorem zero_64 : zeroD prog 64 = #[(Value.int IntKind.i64 0), (Value.int IntKind.i64 0), (Value.int IntKind.i64 0), (Value.int IntKind.i64 0), (Value.int IntKind.i64 0), (Value.int IntKind.i64 0), (Value.int IntKind.i64 0), (Value.int IntKind.i64 0)] := by kernel_rfl
theorem eqT_64 : eqT prog 6 64 = some 8 := by kernel_rfl
theorem agg_64 : isAggT prog 64 = true := by kernel_rfl
theorem egt_64 : prog.eqGuardType prog.depth 64 = false := by kernel_rfl
theorem zero_65 : zeroD prog 65 = #[(Value.int IntKind.i64 0), (Value.int IntKind.i64 0), (Value.int IntKind.i64 0), (Value.int IntKind.i64 0), (Value.int IntKind.i64 0), (Value.int IntKind.i64 0), (Value.int IntKind.i64 0), (Value.int IntKind.i64 0)] := by kernel_rfl
theorem eqT_65 : eqT prog 6 65 = some 8 := by kernel_rfl
theorem agg_65 : isAggT prog 65 = true := by kernel_rfl
theorem egt_65 : prog.eqGuardType prog.depth 65 = false := by kernel_rfl
theorem zero_66 : zeroD prog 66 = #[(Value.int IntKind.i64 0), (Value.int IntKind.i64 0), (Value.int IntKind.i64 0), (Value.int IntKind.i64 0), (Value.int IntKind.i64 0), (Value.int IntKind.i64 0), (Value.int IntKind.i64 0), (Value.int IntKind.i64 0), (Value.int IntKind.i64 0), (Value.int IntKind.i64 0), (Value.int IntKind.i64 0)] := by kernel_rfl
theorem eqT_66 : eqT prog 6 66 = some 11 := by kernel_rfl
theorem agg_66 : isAggT prog 66 = true := by kernel_rfl
theorem egt_66 : prog.eqGuardType prog.depth 66 = false := by kernel_rfl
theorem zero_67 : zeroD prog 67 = #[(Value.int IntKind.i64 0), (Value.int IntKind.i64 0), (Value.int IntKind.i64 0), (Value.int IntKind.i64 0), (Value.int IntKind.i64 0), (Value.int IntKind.i64 0), (Value.int IntKind.i64 0), (Value.int IntKind.i64 0), (Value.int IntKind.i64 0), (Value.int IntKind.i64 0), (Value.int IntKind.i64 0)] := by kernel_rfl
theorem eqT_67 : eqT prog 6 67 = some 11 := by kernel_rfl
theorem agg_67 : isAggT prog 67 = true := by kernel_rfl
theorem egt_67 : prog.eqGuardType prog.depth 67 = false := by kernel_rfl
theorem zero_74 : zeroD prog 74 = #[(Value.pointer none)] := by kernel_rfl
theorem zero_78 : zeroD prog 78 = #[(Value.slice none 0 0)] := by kernel_rfl
theorem und_78 : prog.underlying 78 = some (.slice 63) := by kernel_rfl
theorem te_78 : TE prog 78 63 6 48 := ⟨und_78, ⟨Go.Proofs.Try.t63, (match Go.Proofs.Try.t63.zero with | some z => z | none => undef), by kernel_rfl, by kernel_rfl, by kernel_rfl, by kernel_rfl, by kernel_rfl⟩, by decide⟩
theorem zero_79 : zeroD prog 79 = #[(Value.pointer none)] := by kernel_rfl
theorem zero_81 : zeroD prog 81 = #[(Value.pointer none)] := by kernel_rfl
theorem zero_88 : zeroD prog 88 = #[(Value.slice none 0 0)] := by kernel_rfl
theorem und_88 : prog.underlying 88 = some (.slice 53) := by kernel_rfl
theorem te_88 : TE prog 88 53 1 2 := ⟨und_88, ⟨Go.Proofs.Try.t53, (match Go.Proofs.Try.t53.zero with | some z => z | none => undef), by kernel_rfl, by kernel_rfl, by kernel_rfl, by kernel_rfl, by kernel_rfl⟩, by decide⟩
theorem zero_89 : zeroD prog 89 = #[(Value.pointer none)] := by kernel_rfl
theorem zero_93 : zeroD prog 93 = #[(Value.slice none 0 0)] := by kernel_rfl
theorem und_93 : prog.underlying 93 = some (.slice 5) := by kernel_rfl
theorem te_93 : TE prog 93 5 1 1 := ⟨und_93, ⟨Go.Proofs.Try.t5, (match Go.Proofs.Try.t5.zero with | some z => z | none => undef), by kernel_rfl, by kernel_rfl, by kernel_rfl, by kernel_rfl, by kernel_rfl⟩, by decide⟩
theorem zero_94 : zeroD prog 94 = #[(Value.pointer none)] := by kernel_rfl
theorem zero_102 : zeroD prog 102 = #[(Value.slice none 0 0)] := by kernel_rfl
theorem und_102 : prog.underlying 102 = some (.slice 104) := by kernel_rfl
theorem te_102 : TE prog 102 104 10 80 := ⟨und_102, ⟨Go.Proofs.Try.t104, (match Go.Proofs.Try.t104.zero with | some z => z | none => undef), by kernel_rfl, by kernel_rfl, by kernel_rfl, by kernel_rfl, by kernel_rfl⟩, by decide⟩
theorem zero_103 : zeroD prog 103 = #[(Value.int IntKind.i64 0), (Value.int IntKind.i64 0), (Value.int IntKind.i64 0), (Value.int IntKind.i64 0), (Value.int IntKind.i64 0), (Value.int IntKind.i64 0), (Value.int IntKind.i64 0), (Value.int IntKind.i64 0), (Value.int IntKind.i64 0), (Value.int IntKind.i64 0)] := by kernel_rfl
theorem eqT_103 : eqT prog 6 103 = some 10 := by kernel_rfl
theorem agg_103 : isAggT prog 103 = true := by kernel_rfl
theorem egt_103 : prog.eqGuardType prog.depth 103 = false := by kernel_rfl
theorem zero_104 : zeroD prog 104 = #[(Value.int IntKind.i64 0), (Value.int IntKind.i64 0), (Value.int IntKind.i64 0), (Value.int IntKind.i64 0), (Value.int IntKind.i64 0), (Value.int IntKind.i64 0), (Value.int IntKind.i64 0), (Value.int IntKind.i64 0), (Value.int IntKind.i64 0), (Value.int IntKind.i64 0)] := by kernel_rfl
theorem eqT_104 : eqT prog 6 104 = some 10 := by kernel_rfl
theorem agg_104 : isAggT prog 104 = true := by kernel_rfl
theorem egt_104 : prog.eqGuardType prog.depth 104 = false := by kernel_rfl
theorem zero_108 : zeroD prog 108 = #[(Value.pointer none)] := by kernel_rfl
theorem zero_110 : zeroD prog 110 = #[(Value.slice none 0 0)] := by kernel_rfl
theorem und_110 : prog.underlying 110 = some (.slice 170) := by kernel_rfl
theorem te_110 : TE prog 110 170 9 72 := ⟨und_110, ⟨Go.Proofs.Try.t170, (match Go.Proofs.Try.t170.zero with | some z => z | none => undef), by kernel_rfl, by kernel_rfl, by kernel_rfl, by kernel_rfl, by kernel_rfl⟩, by decide⟩
theorem zero_111 : zeroD prog 111 = #[(Value.int IntKind.i64 0), (Value.slice none 0 0)] := by kernel_rfl
theorem zero_112 : zeroD prog 112 = #[(Value.int IntKind.i64 0), (Value.slice none 0 0)] := by kernel_rfl
theorem zero_113 : zeroD prog 113 = #[(Value.int IntKind.i64 0), (Value.int IntKind.i64 0)] := by kernel_rfl
theorem eqT_113 : eqT prog 6 113 = some 2 := by kernel_rfl
theorem agg_113 : isAggT prog 113 = true := by kernel_rfl
theorem egt_113 : prog.eqGuardType prog.depth 113 = false := by kernel_rfl
theorem zero_114 : zeroD prog 114 = #[(Value.int IntKind.i64 0), (Value.int IntKind.i64 0)] := by kernel_rfl
theorem eqT_114 : eqT prog 6 114 = some 2 := by kernel_rfl
theorem agg_114 : isAggT prog 114 = true := by kernel_rfl
theorem egt_114 : prog.eqGuardType prog.depth 114 = false := by kernel_rfl
theorem zero_115 : zeroD prog 115 = #[(Value.int IntKind.i64 0), (Value.int IntKind.i64 0), (Value.int IntKind.i64 0), (Value.int IntKind.i64 0), (Value.int IntKind.i64 0), (Value.int IntKind.i64 0), (Value.int IntKind.i64 0), (Value.int IntKind.i64 0), (Value.int IntKind.i64 0), (Value.int IntKind.i64 0), (Value.int IntKind.i64 0), (Value.int IntKind.i64 0), (Value.int IntKind.i64 0), (Value.int IntKind.i64 0), (Value.int IntKind.i64 0), (Value.int IntKind.i64 0)] := by kernel_rfl
theorem zero_116 : zeroD prog 116 = #[(Value.int IntKind.i64 0), (Value.int IntKind.i64 0), (Value.int IntKind.i64 0), (Value.int IntKind.i64 0), (Value.int IntKind.i64 0), (Value.int IntKind.i64 0), (Value.int IntKind.i64 0), (Value.int IntKind.i64 0), (Value.int IntKind.i64 0), (Value.int IntKind.i64 0), (Value.int IntKind.i64 0), (Value.int IntKind.i64 0), (Value.int IntKind.i64 0), (Value.int IntKind.i64 0), (Value.int IntKind.i64 0), (Value.int IntKind.i64 0), (Value.int IntKind.i64 0), (Value.int IntKind.i64 0), (Value.int IntKind.i64 0), (Value.int IntKind.i64 0), (Value.int IntKind.i64 0), (Value.int IntKind.i64 0), (Value.int IntKind.i64 0)] := by kernel_rfl
theorem zero_117 : zeroD prog 117 = #[(Value.int IntKind.i64 0), (Value.int IntKind.i64 0), (Value.int IntKind.i64 0), (Value.int IntKind.i64 0), (Value.int IntKind.i64 0), (Value.int IntKind.i64 0), (Value.int IntKind.i64 0), (Value.int IntKind.i64 0), (Value.int IntKind.i64 0), (Value.int IntKind.i64 0), (Value.int IntKind.i64 0), (Value.int IntKind.i64 0), (Value.int IntKind.i64 0), (Value.int IntKind.i64 0), (Value.int IntKind.i64 0), (Value.int IntKind.i64 0), (Value.int IntKind.i64 0), (Value.int IntKind.i64 0), (Value.int IntKind.i64 0), (Value.int IntKind.i64 0), (Value.int IntKind.i64 0), (Value.int IntKind.i64 0), (Value.int IntKind.i64 0)] := by kernel_rfl
theorem zero_119 : zeroD prog 119 = #[(Value.int IntKind.u64 0)] := by kernel_rfl
theorem zero_130 : zeroD prog 130 = #[(Value.pointer none)] := by kernel_rfl
theorem zero_136 : zeroD prog 136 = #[(Value.slice none 0 0)] := by kernel_rfl
theorem und_136 : prog.underlying 136 = some (.slice 59) := by kernel_rfl
theorem te_136 : TE prog 136 59 1 24 := ⟨und_136, ⟨Go.Proofs.Try.t59, (match Go.Proofs.Try.t59.zero with | some z => z | none => undef), by kernel_rfl, by kernel_rfl, by kernel_rfl, by kernel_rfl, by kernel_rfl⟩, by decide⟩
theorem zero_137 : zeroD prog 137 = #[(Value.int IntKind.i64 0), (Value.int IntKind.i64 0), (Value.slice none 0 0)] := by kernel_rfl
theorem zero_138 : zeroD prog 138 = #[(Value.int IntKind.i64 0), (Value.int IntKind.i64 0), (Value.slice none 0 0)] := by kernel_rfl
theorem zero_140 : zeroD prog 140 = #[(Value.map none)] := by kernel_rfl
theorem und_140 : prog.underlying 140 = some (.map 61 3) := by kernel_rfl
theorem mapT_140 : MapT prog 140 61 3 (Value.int IntKind.i64 0) := ⟨und_140, ⟨Go.Proofs.Try.t3, by kernel_rfl, by kernel_rfl⟩⟩
theorem zero_141 : zeroD prog 141 = #[(Value.int IntKind.i64 0), (Value.slice none 0 0), (Value.map none)] := by kernel_rfl
theorem zero_142 : zeroD prog 142 = #[(Value.int IntKind.i64 0), (Value.slice none 0 0), (Value.map none)] := by kernel_rfl
theorem zero_143 : zeroD prog 143 = #[(Value.int IntKind.i64 0), (Value.slice none 0 0)] := by kernel_rfl
theorem zero_144 : zeroD prog 144 = #[(Value.int IntKind.i64 0), (Value.slice none 0 0)] := by kernel_rfl
theorem zero_147 : zeroD prog 147 = #[(Value.pointer none)] := by kernel_rfl
theorem zero_148 : zeroD prog 148 = #[(Value.pointer none)] := by kernel_rfl
theorem zero_152 : zeroD prog 152 = #[(Value.slice none 0 0), (Value.slice none 0 0), (Value.slice none 0 0), (Value.slice none 0 0), (Value.slice none 0 0), (Value.slice none 0 0), (Value.slice none 0 0), (Value.slice none 0 0)] := by kernel_rfl
theorem zero_153 : zeroD prog 153 = #[(Value.int IntKind.i64 0), (Value.int IntKind.i64 0), (Value.int IntKind.i64 0), (Value.slice none 0 0), (Value.slice none 0 0), (Value.slice none 0 0), (Value.slice none 0 0), (Value.slice none 0 0), (Value.slice none 0 0), (Value.slice none 0 0), (Value.slice none 0 0)] := by kernel_rfl
theorem zero_154 : zeroD prog 154 = #[(Value.int IntKind.i64 0), (Value.int IntKind.i64 0), (Value.int IntKind.i64 0), (Value.slice none 0 0), (Value.slice none 0 0), (Value.slice none 0 0), (Value.slice none 0 0), (Value.slice none 0 0), (Value.slice none 0 0), (Value.slice none 0 0), (Value.slice none 0 0)] := by kernel_rfl
theorem zero_155 : zeroD prog 155 = #[(Value.pointer none)] := by kernel_rfl
theorem zero_159 : zeroD prog 159 = #[(Value.slice none 0 0)] := by kernel_rfl
theorem und_159 : prog.underlying 159 = some (.slice 163) := by kernel_rfl
theorem te_159 : TE prog 159 163 9 72 := ⟨und_159, ⟨Go.Proofs.Try.t163, (match Go.Proofs.Try.t163.zero with | some z => z | none => undef), by kernel_rfl, by kernel_rfl, by kernel_rfl, by kernel_rfl, by kernel_rfl⟩, by decide⟩
theorem zero_160 : zeroD prog 160 = #[(Value.int IntKind.i64 0), (Value.slice none 0 0)] := by kernel_rfl
theorem zero_161 : zeroD prog 161 = #[(Value.int IntKind.i64 0), (Value.slice none 0 0)] := by kernel_rfl
theorem zero_162 : zeroD prog 162 = #[(Value.int IntKind.i64 0), (Value.int IntKind.i64 0), (Value.int IntKind.i64 0), (Value.int IntKind.i64 0), (Value.int IntKind.i64 0), (Value.int IntKind.i64 0), (Value.int IntKind.i64 0), (Value.int IntKind.i64 0), (Value.int IntKind.i64 0)] := by kernel_rfl
theorem eqT_162 : eqT prog 6 162 = some 9 := by kernel_rfl
theorem agg_162 : isAggT prog 162 = true := by kernel_rfl
theorem egt_162 : prog.eqGuardType prog.depth 162 = false := by kernel_rfl
theorem zero_163 : zeroD prog 163 = #[(Value.int IntKind.i64 0), (Value.int IntKind.i64 0), (Value.int IntKind.i64 0), (Value.int IntKind.i64 0), (Value.int IntKind.i64 0), (Value.int IntKind.i64 0), (Value.int IntKind.i64 0), (Value.int IntKind.i64 0), (Value.int IntKind.i64 0)] := by kernel_rfl
theorem eqT_163 : eqT prog 6 163 = some 9 := by kernel_rfl
theorem agg_163 : isAggT prog 163 = true := by kernel_rfl
theorem egt_163 : prog.eqGuardType prog.depth 163 = false := by kernel_rfl
theorem zero_169 : zeroD prog 169 = #[(Value.int IntKind.i64 0), (Value.int IntKind.i64 0), (Value.int IntKind.i64 0), (Value.int IntKind.i64 0), (Value.int IntKind.i64 0), (Value.int IntKind.i64 0), (Value.int IntKind.i64 0), (Value.int IntKind.i64 0), (Value.int IntKind.i64 0)] := by kernel_rfl
theorem eqT_169 : eqT prog 6 169 = some 9 := by kernel_rfl
theorem agg_169 : isAggT prog 169 = true := by kernel_rfl
theorem egt_169 : prog.eqGuardType prog.depth 169 = false := by kernel_rfl
theorem zero_170 : zeroD prog 170 = #[(Value.int IntKind.i64 0), (Value.int IntKind.i64 0), (Value.int IntKind.i64 0), (Value.int IntKind.i64 0), (Value.int IntKind.i64 0), (Value.int IntKind.i64 0), (Value.int IntKind.i64 0), (Value.int IntKind.i64 0), (Value.int IntKind.i64 0)] := by kernel_rfl
theorem eqT_170 : eqT prog 6 170 = some 9 := by kernel_rfl
theorem agg_170 : isAggT prog 170 = true := by kernel_rfl
theorem egt_170 : prog.eqGuardType prog.depth 170 = false := by kernel_rfl
theorem zero_171 : zeroD prog 171 = #[(Value.slice none 0 0)] := by kernel_rfl
theorem und_171 : prog.underlying 171 = some (.slice 114) := by kernel_rfl
theorem te_171 : TE prog 171 114 2 16 := ⟨und_171, ⟨Go.Proofs.Try.t114, (match Go.Proofs.Try.t114.zero with | some z => z | none => undef), by kernel_rfl, by kernel_rfl, by kernel_rfl, by kernel_rfl, by kernel_rfl⟩, by decide⟩
theorem zero_173 : zeroD prog 173 = #[Value.nilIface] := by kernel_rfl
theorem zero_174 : zeroD prog 174 = #[Value.nilIface] := by kernel_rfl
theorem zero_189 : zeroD prog 189 = #[(Value.pointer none), (Value.pointer none), (Value.pointer none), (Value.string { data := #[] })] := by kernel_rfl
theorem zero_190 : zeroD prog 190 = #[(Value.pointer none), (Value.pointer none), (Value.pointer none), (Value.string { data := #[] })] := by kernel_rfl
theorem zero_191 : zeroD prog 191 = #[] := by kernel_rfl
theorem zero_192 : zeroD prog 192 = #[] := by kernel_rfl
theorem zero_193 : zeroD prog 193 = #[] := by kernel_rfl
theorem zero_194 : zeroD prog 194 = #[(Value.int IntKind.u32 0)] := by kernel_rfl
theorem zero_195 : zeroD prog 195 = #[(Value.int IntKind.u8 0)] := by kernel_rfl
theorem zero_196 : zeroD prog 196 = #[(Value.int IntKind.u8 0)] := by kernel_rfl
theorem zero_198 : zeroD prog 198 = #[(Value.pointer none)] := by kernel_rfl
theorem zero_199 : zeroD prog 199 = #[(Value.int IntKind.i32 0)] := by kernel_rfl
theorem zero_200 : zeroD prog 200 = #[(Value.int IntKind.i32 0)] := by kernel_rfl
theorem zero_201 : zeroD prog 201 = #[(Value.int IntKind.u64 0), (Value.int IntKind.u64 0), (Value.int IntKind.u32 0), (Value.int IntKind.u8 0), (Value.int IntKind.u8 0), (Value.int IntKind.u8 0), (Value.int IntKind.u8 0), Value.nilFunc, (Value.pointer none), (Value.int IntKind.i32 0), (Value.int IntKind.i32 0)] := by kernel_rfl
theorem zero_202 : zeroD prog 202 = #[(Value.int IntKind.u64 0), (Value.int IntKind.u64 0), (Value.int IntKind.u32 0), (Value.int IntKind.u8 0), (Value.int IntKind.u8 0), (Value.int IntKind.u8 0), (Value.int IntKind.u8 0), Value.nilFunc, (Value.pointer none), (Value.int IntKind.i32 0), (Value.int IntKind.i32 0)] := by kernel_rfl
end Go.Proofs.Ytdiglafiimnfoaa
