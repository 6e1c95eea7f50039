/- Printed by prt.py: the Go functions of this seat as shallow predicate transformers. Conditions: none. -/
import Derived.Test.YtmgaooeeddmbmaaGreatDoorEngO
import Derived.Test.YtmgaooeeddmbmaaGreatDoorProg
import Derived.KernelRfl
namespace Go.Proofs.YtmgaooeeddmbmaaGreatDoor
open Go Go.E
set_option linter.unusedVariables false
set_option maxRecDepth 100000
noncomputable abbrev prog : Program := Go.Proofs.Tryz.prog
theorem mixed : prog.follows .mixedOrders = true := by kernel_rfl
noncomputable abbrev fn3 : Func := Go.Proofs.Tryz.f3
theorem fnAt3 : prog.funcs[3]? = some fn3 := Go.Proofs.Tryz.func3
noncomputable abbrev fn4 : Func := Go.Proofs.Tryz.f4
theorem fnAt4 : prog.funcs[4]? = some fn4 := Go.Proofs.Tryz.func4
noncomputable abbrev fn5 : Func := Go.Proofs.Tryz.f5
theorem fnAt5 : prog.funcs[5]? = some fn5 := Go.Proofs.Tryz.func5
noncomputable abbrev fn6 : Func := Go.Proofs.Tryz.f6
theorem fnAt6 : prog.funcs[6]? = some fn6 := Go.Proofs.Tryz.func6
noncomputable abbrev fn7 : Func := Go.Proofs.Tryz.f7
theorem fnAt7 : prog.funcs[7]? = some fn7 := Go.Proofs.Tryz.func7
noncomputable abbrev fn8 : Func := Go.Proofs.Tryz.f8
theorem fnAt8 : prog.funcs[8]? = some fn8 := Go.Proofs.Tryz.func8
noncomputable abbrev fn9 : Func := Go.Proofs.Tryz.f9
theorem fnAt9 : prog.funcs[9]? = some fn9 := Go.Proofs.Tryz.func9
noncomputable abbrev fn10 : Func := Go.Proofs.Tryz.f10
theorem fnAt10 : prog.funcs[10]? = some fn10 := Go.Proofs.Tryz.func10
noncomputable abbrev fn11 : Func := Go.Proofs.Tryz.f11
theorem fnAt11 : prog.funcs[11]? = some fn11 := Go.Proofs.Tryz.func11
noncomputable abbrev fn12 : Func := Go.Proofs.Tryz.f12
theorem fnAt12 : prog.funcs[12]? = some fn12 := Go.Proofs.Tryz.func12
noncomputable abbrev fn13 : Func := Go.Proofs.Tryz.f13
theorem fnAt13 : prog.funcs[13]? = some fn13 := Go.Proofs.Tryz.func13
noncomputable abbrev fn14 : Func := Go.Proofs.Tryz.f14
theorem fnAt14 : prog.funcs[14]? = some fn14 := Go.Proofs.Tryz.func14
noncomputable abbrev fn15 : Func := Go.Proofs.Tryz.f15
theorem fnAt15 : prog.funcs[15]? = some fn15 := Go.Proofs.Tryz.func15
noncomputable abbrev fn16 : Func := Go.Proofs.Tryz.f16
theorem fnAt16 : prog.funcs[16]? = some fn16 := Go.Proofs.Tryz.func16
noncomputable abbrev fn17 : Func := Go.Proofs.Tryz.f17
theorem fnAt17 : prog.funcs[17]? = some fn17 := Go.Proofs.Tryz.func17
noncomputable abbrev fn19 : Func := Go.Proofs.Tryz.f19
theorem fnAt19 : prog.funcs[19]? = some fn19 := Go.Proofs.Tryz.func19
noncomputable abbrev fn20 : Func := Go.Proofs.Tryz.f20
theorem fnAt20 : prog.funcs[20]? = some fn20 := Go.Proofs.Tryz.func20
noncomputable abbrev fn21 : Func := Go.Proofs.Tryz.f21
theorem fnAt21 : prog.funcs[21]? = some fn21 := Go.Proofs.Tryz.func21
noncomputable abbrev fn22 : Func := Go.Proofs.Tryz.f22
theorem fnAt22 : prog.funcs[22]? = some fn22 := Go.Proofs.Tryz.func22
noncomputable abbrev fn23 : Func := Go.Proofs.Tryz.f23
theorem fnAt23 : prog.funcs[23]? = some fn23 := Go.Proofs.Tryz.func23
noncomputable abbrev fn24 : Func := Go.Proofs.Tryz.f24
theorem fnAt24 : prog.funcs[24]? = some fn24 := Go.Proofs.Tryz.func24
noncomputable abbrev fn25 : Func := Go.Proofs.Tryz.f25
theorem fnAt25 : prog.funcs[25]? = some fn25 := Go.Proofs.Tryz.func25
noncomputable abbrev fn26 : Func := Go.Proofs.Tryz.f26
theorem fnAt26 : prog.funcs[26]? = some fn26 := Go.Proofs.Tryz.func26
noncomputable abbrev fn27 : Func := Go.Proofs.Tryz.f27
theorem fnAt27 : prog.funcs[27]? = some fn27 := Go.Proofs.Tryz.func27
noncomputable abbrev fn28 : Func := Go.Proofs.Tryz.f28
theorem fnAt28 : prog.funcs[28]? = some fn28 := Go.Proofs.Tryz.func28
noncomputable abbrev fn29 : Func := Go.Proofs.Tryz.f29
theorem fnAt29 : prog.funcs[29]? = some fn29 := Go.Proofs.Tryz.func29
noncomputable abbrev fn30 : Func := Go.Proofs.Tryz.f30
theorem fnAt30 : prog.funcs[30]? = some fn30 := Go.Proofs.Tryz.func30
noncomputable abbrev fn31 : Func := Go.Proofs.Tryz.f31
theorem fnAt31 : prog.funcs[31]? = some fn31 := Go.Proofs.Tryz.func31
noncomputable abbrev fn32 : Func := Go.Proofs.Tryz.f32
theorem fnAt32 : prog.funcs[32]? = some fn32 := Go.Proofs.Tryz.func32
noncomputable abbrev fn35 : Func := Go.Proofs.Tryz.f35
theorem fnAt35 : prog.funcs[35]? = some fn35 := Go.Proofs.Tryz.func35
noncomputable abbrev fn36 : Func := Go.Proofs.Tryz.f36
theorem fnAt36 : prog.funcs[36]? = some fn36 := Go.Proofs.Tryz.func36
noncomputable abbrev fn37 : Func := Go.Proofs.Tryz.f37
theorem fnAt37 : prog.funcs[37]? = some fn37 := Go.Proofs.Tryz.func37
noncomputable abbrev fn38 : Func := Go.Proofs.Tryz.f38
theorem fnAt38 : prog.funcs[38]? = some fn38 := Go.Proofs.Tryz.func38
noncomputable abbrev fn39 : Func := Go.Proofs.Tryz.f39
theorem fnAt39 : prog.funcs[39]? = some fn39 := Go.Proofs.Tryz.func39
noncomputable abbrev fn40 : Func := Go.Proofs.Tryz.f40
theorem fnAt40 : prog.funcs[40]? = some fn40 := Go.Proofs.Tryz.func40
noncomputable abbrev fn41 : Func := Go.Proofs.Tryz.f41
theorem fnAt41 : prog.funcs[41]? = some fn41 := Go.Proofs.Tryz.func41
noncomputable abbrev fn42 : Func := Go.Proofs.Tryz.f42
theorem fnAt42 : prog.funcs[42]? = some fn42 := Go.Proofs.Tryz.func42
noncomputable abbrev fn43 : Func := Go.Proofs.Tryz.f43
theorem fnAt43 : prog.funcs[43]? = some fn43 := Go.Proofs.Tryz.func43
noncomputable abbrev fn44 : Func := Go.Proofs.Tryz.f44
theorem fnAt44 : prog.funcs[44]? = some fn44 := Go.Proofs.Tryz.func44
noncomputable abbrev fn45 : Func := Go.Proofs.Tryz.f45
theorem fnAt45 : prog.funcs[45]? = some fn45 := Go.Proofs.Tryz.func45
noncomputable abbrev fn46 : Func := Go.Proofs.Tryz.f46
theorem fnAt46 : prog.funcs[46]? = some fn46 := Go.Proofs.Tryz.func46
noncomputable abbrev fn47 : Func := Go.Proofs.Tryz.f47
theorem fnAt47 : prog.funcs[47]? = some fn47 := Go.Proofs.Tryz.func47
noncomputable abbrev fn48 : Func := Go.Proofs.Tryz.f48
theorem fnAt48 : prog.funcs[48]? = some fn48 := Go.Proofs.Tryz.func48
noncomputable abbrev fn49 : Func := Go.Proofs.Tryz.f49
theorem fnAt49 : prog.funcs[49]? = some fn49 := Go.Proofs.Tryz.func49
noncomputable abbrev fn50 : Func := Go.Proofs.Tryz.f50
theorem fnAt50 : prog.funcs[50]? = some fn50 := Go.Proofs.Tryz.func50
noncomputable abbrev fn51 : Func := Go.Proofs.Tryz.f51
theorem fnAt51 : prog.funcs[51]? = some fn51 := Go.Proofs.Tryz.func51
noncomputable abbrev fn52 : Func := Go.Proofs.Tryz.f52
theorem fnAt52 : prog.funcs[52]? = some fn52 := Go.Proofs.Tryz.func52
noncomputable abbrev fn53 : Func := Go.Proofs.Tryz.f53
theorem fnAt53 : prog.funcs[53]? = some fn53 := Go.Proofs.Tryz.func53
noncomputable abbrev fn60 : Func := Go.Proofs.Tryz.f60
theorem fnAt60 : prog.funcs[60]? = some fn60 := Go.Proofs.Tryz.func60
noncomputable abbrev fn61 : Func := Go.Proofs.Tryz.f61
theorem fnAt61 : prog.funcs[61]? = some fn61 := Go.Proofs.Tryz.func61
noncomputable abbrev fn62 : Func := Go.Proofs.Tryz.f62
theorem fnAt62 : prog.funcs[62]? = some fn62 := Go.Proofs.Tryz.func62
noncomputable abbrev fn63 : Func := Go.Proofs.Tryz.f63
theorem fnAt63 : prog.funcs[63]? = some fn63 := Go.Proofs.Tryz.func63
noncomputable abbrev fn64 : Func := Go.Proofs.Tryz.f64
theorem fnAt64 : prog.funcs[64]? = some fn64 := Go.Proofs.Tryz.func64
noncomputable abbrev fn65 : Func := Go.Proofs.Tryz.f65
theorem fnAt65 : prog.funcs[65]? = some fn65 := Go.Proofs.Tryz.func65
noncomputable abbrev fn66 : Func := Go.Proofs.Tryz.f66
theorem fnAt66 : prog.funcs[66]? = some fn66 := Go.Proofs.Tryz.func66
noncomputable abbrev fn67 : Func := Go.Proofs.Tryz.f67
theorem fnAt67 : prog.funcs[67]? = some fn67 := Go.Proofs.Tryz.func67
noncomputable abbrev fn68 : Func := Go.Proofs.Tryz.f68
theorem fnAt68 : prog.funcs[68]? = some fn68 := Go.Proofs.Tryz.func68
noncomputable abbrev fn69 : Func := Go.Proofs.Tryz.f69
theorem fnAt69 : prog.funcs[69]? = some fn69 := Go.Proofs.Tryz.func69
noncomputable abbrev fn72 : Func := Go.Proofs.Tryz.f72
theorem fnAt72 : prog.funcs[72]? = some fn72 := Go.Proofs.Tryz.func72
noncomputable abbrev fn81 : Func := Go.Proofs.Tryz.f81
theorem fnAt81 : prog.funcs[81]? = some fn81 := Go.Proofs.Tryz.func81
noncomputable abbrev fn82 : Func := Go.Proofs.Tryz.f82
theorem fnAt82 : prog.funcs[82]? = some fn82 := Go.Proofs.Tryz.func82
noncomputable abbrev fn112 : Func := Go.Proofs.Tryz.f112
theorem fnAt112 : prog.funcs[112]? = some fn112 := Go.Proofs.Tryz.func112
noncomputable abbrev fn113 : Func := Go.Proofs.Tryz.f113
theorem fnAt113 : prog.funcs[113]? = some fn113 := Go.Proofs.Tryz.func113
noncomputable abbrev fn114 : Func := Go.Proofs.Tryz.f114
theorem fnAt114 : prog.funcs[114]? = some fn114 := Go.Proofs.Tryz.func114
noncomputable abbrev fn115 : Func := Go.Proofs.Tryz.f115
theorem fnAt115 : prog.funcs[115]? = some fn115 := Go.Proofs.Tryz.func115
noncomputable abbrev fn116 : Func := Go.Proofs.Tryz.f116
theorem fnAt116 : prog.funcs[116]? = some fn116 := Go.Proofs.Tryz.func116
end Go.Proofs.YtmgaooeeddmbmaaGreatDoor
