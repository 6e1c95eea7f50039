/- Printed by prt.py: the Go functions of this seat as shallow predicate transformers. Conditions: none. -/
import Derived.Test.YtiiekfcfledkhaaEngO
import Derived.Test.YtiiekfcfledkhaaPfHead
import Derived.Test.YtiiekfcfledkhaaEngM
import Derived.KernelRfl
namespace Go.Proofs.Ytiiekfcfledkhaa
open Go Go.E
theorem zero_2 : zeroD prog 2 = #[(Value.int IntKind.i64 0)] := by kernel_rfl
theorem zero_3 : zeroD prog 3 = #[(Value.int IntKind.i64 0)] := by kernel_rfl
theorem zero_4 : zeroD prog 4 = #[(Value.bool false)] := by kernel_rfl
theorem zero_5 : zeroD prog 5 = #[(Value.int IntKind.u8 0)] := by kernel_rfl
theorem zero_6 : zeroD prog 6 = #[(Value.int IntKind.u8 0)] := by kernel_rfl
theorem zero_7 : zeroD prog 7 = #[(Value.int IntKind.i64 0), (Value.int IntKind.i64 0), (Value.bool false), (Value.int IntKind.u8 0)] := by kernel_rfl
theorem zero_8 : zeroD prog 8 = #[(Value.int IntKind.i64 0), (Value.int IntKind.i64 0), (Value.bool false), (Value.int IntKind.u8 0)] := by kernel_rfl
theorem zero_9 : zeroD prog 9 = #[(Value.string { data := #[] })] := by kernel_rfl
theorem zero_10 : zeroD prog 10 = #[(Value.string { data := #[] })] := by kernel_rfl
theorem zero_11 : zeroD prog 11 = #[(Value.string { data := #[] })] := by kernel_rfl
theorem zero_12 : zeroD prog 12 = #[(Value.int IntKind.u64 0)] := by kernel_rfl
theorem zero_13 : zeroD prog 13 = #[(Value.string { data := #[] }), (Value.int IntKind.u64 0)] := by kernel_rfl
theorem zero_14 : zeroD prog 14 = #[(Value.string { data := #[] }), (Value.int IntKind.u64 0)] := by kernel_rfl
theorem zero_15 : zeroD prog 15 = #[(Value.pointer none)] := by kernel_rfl
theorem zero_16 : zeroD prog 16 = #[(Value.pointer none)] := by kernel_rfl
theorem zero_17 : zeroD prog 17 = #[(Value.pointer none)] := by kernel_rfl
theorem zero_18 : zeroD prog 18 = #[(Value.pointer none)] := by kernel_rfl
theorem zero_19 : zeroD prog 19 = #[(Value.pointer none)] := by kernel_rfl
theorem zero_20 : zeroD prog 20 = #[Value.nilIface] := by kernel_rfl
theorem zero_21 : zeroD prog 21 = #[(Value.int IntKind.i32 0)] := by kernel_rfl
theorem zero_22 : zeroD prog 22 = #[(Value.slice none 0 0)] := by kernel_rfl
theorem und_22 : prog.underlying 22 = some (.slice 30) := by kernel_rfl
theorem te_22 : TE prog 22 30 10 80 := ⟨und_22, ⟨Go.Proofs.Try.t30, (match Go.Proofs.Try.t30.zero with | some z => z | none => undef), by kernel_rfl, by kernel_rfl, by kernel_rfl, by kernel_rfl, by kernel_rfl⟩, by decide⟩
theorem zero_23 : zeroD prog 23 = #[(Value.int IntKind.i64 0), (Value.int IntKind.i64 0), (Value.int IntKind.i64 0)] := by kernel_rfl
theorem eqT_23 : eqT prog 6 23 = some 3 := by kernel_rfl
theorem agg_23 : isAggT prog 23 = true := by kernel_rfl
theorem egt_23 : prog.eqGuardType prog.depth 23 = false := by kernel_rfl
theorem zero_24 : zeroD prog 24 = #[(Value.int IntKind.i64 0), (Value.int IntKind.i64 0), (Value.int IntKind.i64 0)] := by kernel_rfl
theorem eqT_24 : eqT prog 6 24 = some 3 := by kernel_rfl
theorem agg_24 : isAggT prog 24 = true := by kernel_rfl
theorem egt_24 : prog.eqGuardType prog.depth 24 = false := by kernel_rfl
theorem zero_25 : zeroD prog 25 = #[(Value.pointer none)] := by kernel_rfl
theorem zero_27 : zeroD prog 27 = #[(Value.int IntKind.i64 0), (Value.int IntKind.i64 0), (Value.int IntKind.i64 0), (Value.int IntKind.i64 0), (Value.int IntKind.i64 0), (Value.int IntKind.i64 0)] := by kernel_rfl
theorem eqT_27 : eqT prog 6 27 = some 6 := by kernel_rfl
theorem agg_27 : isAggT prog 27 = true := by kernel_rfl
theorem egt_27 : prog.eqGuardType prog.depth 27 = false := by kernel_rfl
theorem zero_28 : zeroD prog 28 = #[(Value.int IntKind.i64 0), (Value.int IntKind.i64 0), (Value.int IntKind.i64 0), (Value.int IntKind.i64 0), (Value.int IntKind.i64 0), (Value.int IntKind.i64 0)] := by kernel_rfl
theorem eqT_28 : eqT prog 6 28 = some 6 := by kernel_rfl
theorem agg_28 : isAggT prog 28 = true := by kernel_rfl
theorem egt_28 : prog.eqGuardType prog.depth 28 = false := by kernel_rfl
theorem zero_29 : zeroD prog 29 = #[(Value.int IntKind.i64 0), (Value.int IntKind.i64 0), (Value.int IntKind.i64 0), (Value.int IntKind.i64 0), (Value.int IntKind.i64 0), (Value.int IntKind.i64 0), (Value.int IntKind.i64 0), (Value.int IntKind.i64 0), (Value.int IntKind.i64 0), (Value.int IntKind.i64 0)] := by kernel_rfl
theorem eqT_29 : eqT prog 6 29 = some 10 := by kernel_rfl
theorem agg_29 : isAggT prog 29 = true := by kernel_rfl
theorem egt_29 : prog.eqGuardType prog.depth 29 = false := by kernel_rfl
theorem zero_30 : zeroD prog 30 = #[(Value.int IntKind.i64 0), (Value.int IntKind.i64 0), (Value.int IntKind.i64 0), (Value.int IntKind.i64 0), (Value.int IntKind.i64 0), (Value.int IntKind.i64 0), (Value.int IntKind.i64 0), (Value.int IntKind.i64 0), (Value.int IntKind.i64 0), (Value.int IntKind.i64 0)] := by kernel_rfl
theorem eqT_30 : eqT prog 6 30 = some 10 := by kernel_rfl
theorem agg_30 : isAggT prog 30 = true := by kernel_rfl
theorem egt_30 : prog.eqGuardType prog.depth 30 = false := by kernel_rfl
theorem zero_31 : zeroD prog 31 = #[(Value.int IntKind.i64 0)] := by kernel_rfl
theorem zero_33 : zeroD prog 33 = #[(Value.slice none 0 0)] := by kernel_rfl
theorem und_33 : prog.underlying 33 = some (.slice 28) := by kernel_rfl
theorem te_33 : TE prog 33 28 6 48 := ⟨und_33, ⟨Go.Proofs.Try.t28, (match Go.Proofs.Try.t28.zero with | some z => z | none => undef), by kernel_rfl, by kernel_rfl, by kernel_rfl, by kernel_rfl, by kernel_rfl⟩, by decide⟩
theorem zero_39 : zeroD prog 39 = #[(Value.slice none 0 0)] := by kernel_rfl
theorem und_39 : prog.underlying 39 = some (.slice 44) := by kernel_rfl
theorem te_39 : TE prog 39 44 3 24 := ⟨und_39, ⟨Go.Proofs.Try.t44, (match Go.Proofs.Try.t44.zero with | some z => z | none => undef), by kernel_rfl, by kernel_rfl, by kernel_rfl, by kernel_rfl, by kernel_rfl⟩, by decide⟩
theorem zero_40 : zeroD prog 40 = #[(Value.pointer none)] := by kernel_rfl
theorem zero_43 : zeroD prog 43 = #[(Value.int IntKind.i64 0), (Value.int IntKind.i64 0), (Value.int IntKind.i64 0)] := by kernel_rfl
theorem eqT_43 : eqT prog 6 43 = some 3 := by kernel_rfl
theorem agg_43 : isAggT prog 43 = true := by kernel_rfl
theorem egt_43 : prog.eqGuardType prog.depth 43 = false := by kernel_rfl
theorem zero_44 : zeroD prog 44 = #[(Value.int IntKind.i64 0), (Value.int IntKind.i64 0), (Value.int IntKind.i64 0)] := by kernel_rfl
theorem eqT_44 : eqT prog 6 44 = some 3 := by kernel_rfl
theorem agg_44 : isAggT prog 44 = true := by kernel_rfl
theorem egt_44 : prog.eqGuardType prog.depth 44 = false := by kernel_rfl
theorem zero_49 : zeroD prog 49 = #[(Value.slice none 0 0)] := by kernel_rfl
theorem und_49 : prog.underlying 49 = some (.slice 57) := by kernel_rfl
theorem te_49 : TE prog 49 57 11 88 := ⟨und_49, ⟨Go.Proofs.Try.t57, (match Go.Proofs.Try.t57.zero with | some z => z | none => undef), by kernel_rfl, by kernel_rfl, by kernel_rfl, by kernel_rfl, by kernel_rfl⟩, by decide⟩
theorem zero_50 : zeroD prog 50 = #[(Value.pointer none)] := by kernel_rfl
theorem zero_53 : zeroD prog 53 = #[(Value.slice none 0 0)] := by kernel_rfl
theorem und_53 : prog.underlying 53 = some (.slice 55) := by kernel_rfl
theorem te_53 : TE prog 53 55 8 64 := ⟨und_53, ⟨Go.Proofs.Try.t55, (match Go.Proofs.Try.t55.zero with | some z => z | none => undef), by kernel_rfl, by kernel_rfl, by kernel_rfl, by kernel_rfl, by kernel_rfl⟩, by decide⟩
theorem zero_54 : zeroD prog 54 = #[(Value.int IntKind.i64 0), (Value.int IntKind.i64 0), (Value.int IntKind.i64 0), (Value.int IntKind.i64 0), (Value.int IntKind.i64 0), (Value.int IntKind.i64 0), (Value.int IntKind.i64 0), (Value.int IntKind.i64 0)] := by kernel_rfl
theorem eqT_54 : eqT prog 6 54 = some 8 := by kernel_rfl
theorem agg_54 : isAggT prog 54 = true := by kernel_rfl
theorem egt_54 : prog.eqGuardType prog.depth 54 = false := by kernel_rfl
theorem zero_55 : zeroD prog 55 = #[(Value.int IntKind.i64 0), (Value.int IntKind.i64 0), (Value.int IntKind.i64 0), (Value.int IntKind.i64 0), (Value.int IntKind.i64 0), (Value.int IntKind.i64 0), (Value.int IntKind.i64 0), (Value.int IntKind.i64 0)] := by kernel_rfl
theorem eqT_55 : eqT prog 6 55 = some 8 := by kernel_rfl
theorem agg_55 : isAggT prog 55 = true := by kernel_rfl
theorem egt_55 : prog.eqGuardType prog.depth 55 = false := by kernel_rfl
theorem zero_56 : zeroD prog 56 = #[(Value.int IntKind.i64 0), (Value.int IntKind.i64 0), (Value.int IntKind.i64 0), (Value.int IntKind.i64 0), (Value.int IntKind.i64 0), (Value.int IntKind.i64 0), (Value.int IntKind.i64 0), (Value.int IntKind.i64 0), (Value.int IntKind.i64 0), (Value.int IntKind.i64 0), (Value.int IntKind.i64 0)] := by kernel_rfl
theorem eqT_56 : eqT prog 6 56 = some 11 := by kernel_rfl
theorem agg_56 : isAggT prog 56 = true := by kernel_rfl
theorem egt_56 : prog.eqGuardType prog.depth 56 = false := by kernel_rfl
theorem zero_57 : zeroD prog 57 = #[(Value.int IntKind.i64 0), (Value.int IntKind.i64 0), (Value.int IntKind.i64 0), (Value.int IntKind.i64 0), (Value.int IntKind.i64 0), (Value.int IntKind.i64 0), (Value.int IntKind.i64 0), (Value.int IntKind.i64 0), (Value.int IntKind.i64 0), (Value.int IntKind.i64 0), (Value.int IntKind.i64 0)] := by kernel_rfl
theorem eqT_57 : eqT prog 6 57 = some 11 := by kernel_rfl
theorem agg_57 : isAggT prog 57 = true := by kernel_rfl
theorem egt_57 : prog.eqGuardType prog.depth 57 = false := by kernel_rfl
theorem zero_63 : zeroD prog 63 = #[(Value.slice none 0 0)] := by kernel_rfl
theorem und_63 : prog.underlying 63 = some (.slice 5) := by kernel_rfl
theorem te_63 : TE prog 63 5 1 1 := ⟨und_63, ⟨Go.Proofs.Try.t5, (match Go.Proofs.Try.t5.zero with | some z => z | none => undef), by kernel_rfl, by kernel_rfl, by kernel_rfl, by kernel_rfl, by kernel_rfl⟩, by decide⟩
theorem zero_64 : zeroD prog 64 = #[(Value.slice none 0 0)] := by kernel_rfl
theorem und_64 : prog.underlying 64 = some (.slice 40) := by kernel_rfl
theorem te_64 : TE prog 64 40 1 8 := ⟨und_64, ⟨Go.Proofs.Try.t40, (match Go.Proofs.Try.t40.zero with | some z => z | none => undef), by kernel_rfl, by kernel_rfl, by kernel_rfl, by kernel_rfl, by kernel_rfl⟩, by decide⟩
theorem zero_65 : zeroD prog 65 = #[(Value.slice none 0 0)] := by kernel_rfl
theorem und_65 : prog.underlying 65 = some (.slice 3) := by kernel_rfl
theorem te_65 : TE prog 65 3 1 8 := ⟨und_65, ⟨Go.Proofs.Try.t3, (match Go.Proofs.Try.t3.zero with | some z => z | none => undef), by kernel_rfl, by kernel_rfl, by kernel_rfl, by kernel_rfl, by kernel_rfl⟩, by decide⟩
theorem zero_69 : zeroD prog 69 = #[(Value.slice none 0 0)] := by kernel_rfl
theorem und_69 : prog.underlying 69 = some (.slice 70) := by kernel_rfl
theorem te_69 : TE prog 69 70 1 2 := ⟨und_69, ⟨Go.Proofs.Try.t70, (match Go.Proofs.Try.t70.zero with | some z => z | none => undef), by kernel_rfl, by kernel_rfl, by kernel_rfl, by kernel_rfl, by kernel_rfl⟩, by decide⟩
theorem zero_70 : zeroD prog 70 = #[(Value.int IntKind.u16 0)] := by kernel_rfl
theorem zero_72 : zeroD prog 72 = #[(Value.pointer none)] := by kernel_rfl
theorem zero_76 : zeroD prog 76 = #[(Value.slice none 0 0)] := by kernel_rfl
theorem und_76 : prog.underlying 76 = some (.slice 4) := by kernel_rfl
theorem te_76 : TE prog 76 4 1 1 := ⟨und_76, ⟨Go.Proofs.Try.t4, (match Go.Proofs.Try.t4.zero with | some z => z | none => undef), by kernel_rfl, by kernel_rfl, by kernel_rfl, by kernel_rfl, by kernel_rfl⟩, by decide⟩
theorem zero_80 : zeroD prog 80 = #[(Value.pointer none)] := by kernel_rfl
theorem zero_86 : zeroD prog 86 = #[(Value.pointer none)] := by kernel_rfl
theorem zero_92 : zeroD prog 92 = #[(Value.slice none 0 0)] := by kernel_rfl
theorem und_92 : prog.underlying 92 = some (.slice 96) := by kernel_rfl
theorem te_92 : TE prog 92 96 9 72 := ⟨und_92, ⟨Go.Proofs.Try.t96, (match Go.Proofs.Try.t96.zero with | some z => z | none => undef), by kernel_rfl, by kernel_rfl, by kernel_rfl, by kernel_rfl, by kernel_rfl⟩, by decide⟩
theorem zero_93 : zeroD prog 93 = #[(Value.int IntKind.i64 0), (Value.slice none 0 0)] := by kernel_rfl
theorem zero_94 : zeroD prog 94 = #[(Value.int IntKind.i64 0), (Value.slice none 0 0)] := by kernel_rfl
theorem zero_95 : zeroD prog 95 = #[(Value.int IntKind.i64 0), (Value.int IntKind.i64 0), (Value.int IntKind.i64 0), (Value.int IntKind.i64 0), (Value.int IntKind.i64 0), (Value.int IntKind.i64 0), (Value.int IntKind.i64 0), (Value.int IntKind.i64 0), (Value.int IntKind.i64 0)] := by kernel_rfl
theorem eqT_95 : eqT prog 6 95 = some 9 := by kernel_rfl
theorem agg_95 : isAggT prog 95 = true := by kernel_rfl
theorem egt_95 : prog.eqGuardType prog.depth 95 = false := by kernel_rfl
theorem zero_96 : zeroD prog 96 = #[(Value.int IntKind.i64 0), (Value.int IntKind.i64 0), (Value.int IntKind.i64 0), (Value.int IntKind.i64 0), (Value.int IntKind.i64 0), (Value.int IntKind.i64 0), (Value.int IntKind.i64 0), (Value.int IntKind.i64 0), (Value.int IntKind.i64 0)] := by kernel_rfl
theorem eqT_96 : eqT prog 6 96 = some 9 := by kernel_rfl
theorem agg_96 : isAggT prog 96 = true := by kernel_rfl
theorem egt_96 : prog.eqGuardType prog.depth 96 = false := by kernel_rfl
theorem zero_100 : zeroD prog 100 = #[(Value.map none)] := by kernel_rfl
theorem und_100 : prog.underlying 100 = some (.map 3 3) := by kernel_rfl
theorem mapT_100 : MapT prog 100 3 3 (Value.int IntKind.i64 0) := ⟨und_100, ⟨Go.Proofs.Try.t3, by kernel_rfl, by kernel_rfl⟩⟩
theorem keyT_100 : KeyT prog 3 (fun n : Int => .int .i64 n) := keyT_int (by kernel_rfl)
theorem zero_101 : zeroD prog 101 = #[(Value.map none), (Value.int IntKind.i64 0)] := by kernel_rfl
theorem zero_102 : zeroD prog 102 = #[(Value.map none), (Value.int IntKind.i64 0)] := by kernel_rfl
theorem zero_112 : zeroD prog 112 = #[(Value.pointer none)] := by kernel_rfl
theorem zero_114 : zeroD prog 114 = #[(Value.int IntKind.u64 0)] := by kernel_rfl
theorem zero_116 : zeroD prog 116 = #[(Value.int IntKind.i64 0), (Value.int IntKind.i64 0)] := by kernel_rfl
theorem eqT_116 : eqT prog 6 116 = some 2 := by kernel_rfl
theorem agg_116 : isAggT prog 116 = true := by kernel_rfl
theorem egt_116 : prog.eqGuardType prog.depth 116 = false := by kernel_rfl
theorem zero_117 : zeroD prog 117 = #[(Value.int IntKind.i64 0), (Value.int IntKind.i64 0)] := by kernel_rfl
theorem eqT_117 : eqT prog 6 117 = some 2 := by kernel_rfl
theorem agg_117 : isAggT prog 117 = true := by kernel_rfl
theorem egt_117 : prog.eqGuardType prog.depth 117 = false := by kernel_rfl
theorem zero_118 : zeroD prog 118 = #[(Value.int IntKind.i64 0), (Value.int IntKind.i64 0), (Value.int IntKind.i64 0), (Value.int IntKind.i64 0), (Value.int IntKind.i64 0), (Value.int IntKind.i64 0), (Value.int IntKind.i64 0), (Value.int IntKind.i64 0), (Value.int IntKind.i64 0), (Value.int IntKind.i64 0), (Value.int IntKind.i64 0), (Value.int IntKind.i64 0), (Value.int IntKind.i64 0), (Value.int IntKind.i64 0), (Value.int IntKind.i64 0), (Value.int IntKind.i64 0)] := by kernel_rfl
theorem zero_119 : zeroD prog 119 = #[(Value.int IntKind.i64 0), (Value.int IntKind.i64 0)] := by kernel_rfl
theorem zero_120 : zeroD prog 120 = #[(Value.int IntKind.i64 0), (Value.int IntKind.i64 0), (Value.int IntKind.i64 0), (Value.int IntKind.i64 0), (Value.int IntKind.i64 0), (Value.int IntKind.i64 0), (Value.int IntKind.i64 0), (Value.int IntKind.i64 0), (Value.int IntKind.i64 0), (Value.int IntKind.i64 0), (Value.int IntKind.i64 0), (Value.int IntKind.i64 0), (Value.int IntKind.i64 0), (Value.int IntKind.i64 0), (Value.int IntKind.i64 0), (Value.int IntKind.i64 0), (Value.int IntKind.i64 0), (Value.int IntKind.i64 0), (Value.int IntKind.i64 0), (Value.int IntKind.i64 0), (Value.int IntKind.i64 0), (Value.int IntKind.i64 0), (Value.int IntKind.i64 0)] := by kernel_rfl
theorem zero_121 : zeroD prog 121 = #[(Value.int IntKind.i64 0), (Value.int IntKind.i64 0), (Value.int IntKind.i64 0), (Value.int IntKind.i64 0), (Value.int IntKind.i64 0), (Value.int IntKind.i64 0), (Value.int IntKind.i64 0), (Value.int IntKind.i64 0), (Value.int IntKind.i64 0), (Value.int IntKind.i64 0), (Value.int IntKind.i64 0), (Value.int IntKind.i64 0), (Value.int IntKind.i64 0), (Value.int IntKind.i64 0), (Value.int IntKind.i64 0), (Value.int IntKind.i64 0), (Value.int IntKind.i64 0), (Value.int IntKind.i64 0), (Value.int IntKind.i64 0), (Value.int IntKind.i64 0), (Value.int IntKind.i64 0), (Value.int IntKind.i64 0), (Value.int IntKind.i64 0)] := by kernel_rfl
theorem zero_124 : zeroD prog 124 = #[(Value.slice none 0 0), (Value.int IntKind.i64 0), (Value.int IntKind.i64 0)] := by kernel_rfl
theorem zero_125 : zeroD prog 125 = #[(Value.slice none 0 0), (Value.int IntKind.i64 0), (Value.int IntKind.i64 0)] := by kernel_rfl
theorem zero_127 : zeroD prog 127 = #[(Value.map none)] := by kernel_rfl
theorem und_127 : prog.underlying 127 = some (.map 24 3) := by kernel_rfl
theorem mapT_127 : MapT prog 127 24 3 (Value.int IntKind.i64 0) := ⟨und_127, ⟨Go.Proofs.Try.t3, by kernel_rfl, by kernel_rfl⟩⟩
theorem zero_128 : zeroD prog 128 = #[(Value.int IntKind.i64 0), (Value.slice none 0 0), (Value.map none)] := by kernel_rfl
theorem zero_129 : zeroD prog 129 = #[(Value.int IntKind.i64 0), (Value.slice none 0 0), (Value.map none)] := by kernel_rfl
theorem zero_131 : zeroD prog 131 = #[(Value.pointer none)] := by kernel_rfl
theorem zero_132 : zeroD prog 132 = #[(Value.pointer none)] := by kernel_rfl
theorem zero_133 : zeroD prog 133 = #[(Value.slice none 0 0)] := by kernel_rfl
theorem und_133 : prog.underlying 133 = some (.slice 117) := by kernel_rfl
theorem te_133 : TE prog 133 117 2 16 := ⟨und_133, ⟨Go.Proofs.Try.t117, (match Go.Proofs.Try.t117.zero with | some z => z | none => undef), by kernel_rfl, by kernel_rfl, by kernel_rfl, by kernel_rfl, by kernel_rfl⟩, by decide⟩
theorem zero_135 : zeroD prog 135 = #[Value.nilIface] := by kernel_rfl
theorem zero_136 : zeroD prog 136 = #[Value.nilIface] := by kernel_rfl
theorem zero_142 : zeroD prog 142 = #[(Value.pointer none), (Value.pointer none), (Value.pointer none), (Value.string { data := #[] })] := by kernel_rfl
theorem zero_143 : zeroD prog 143 = #[(Value.pointer none), (Value.pointer none), (Value.pointer none), (Value.string { data := #[] })] := by kernel_rfl
theorem zero_144 : zeroD prog 144 = #[] := by kernel_rfl
theorem zero_145 : zeroD prog 145 = #[] := by kernel_rfl
theorem zero_146 : zeroD prog 146 = #[] := by kernel_rfl
theorem zero_147 : zeroD prog 147 = #[(Value.int IntKind.u32 0)] := by kernel_rfl
theorem zero_148 : zeroD prog 148 = #[(Value.int IntKind.u8 0)] := by kernel_rfl
theorem zero_149 : zeroD prog 149 = #[(Value.int IntKind.u8 0)] := by kernel_rfl
theorem zero_151 : zeroD prog 151 = #[(Value.pointer none)] := by kernel_rfl
theorem zero_152 : zeroD prog 152 = #[(Value.int IntKind.i32 0)] := by kernel_rfl
theorem zero_153 : zeroD prog 153 = #[(Value.int IntKind.i32 0)] := by kernel_rfl
theorem zero_154 : zeroD prog 154 = #[(Value.int IntKind.u64 0), (Value.int IntKind.u64 0), (Value.int IntKind.u32 0), (Value.int IntKind.u8 0), (Value.int IntKind.u8 0), (Value.int IntKind.u8 0), (Value.int IntKind.u8 0), Value.nilFunc, (Value.pointer none), (Value.int IntKind.i32 0), (Value.int IntKind.i32 0)] := by kernel_rfl
theorem zero_155 : zeroD prog 155 = #[(Value.int IntKind.u64 0), (Value.int IntKind.u64 0), (Value.int IntKind.u32 0), (Value.int IntKind.u8 0), (Value.int IntKind.u8 0), (Value.int IntKind.u8 0), (Value.int IntKind.u8 0), Value.nilFunc, (Value.pointer none), (Value.int IntKind.i32 0), (Value.int IntKind.i32 0)] := by kernel_rfl
end Go.Proofs.Ytiiekfcfledkhaa
