/- Printed by prt.py: the Go functions of this seat as shallow predicate transformers. Conditions: none. -/
import Derived.Test.YtenglfaeohgkfaaEngO
import Derived.Test.YtenglfaeohgkfaaEngZ
import Derived.Test.YtenglfaeohgkfaaProg
import Derived.KernelRfl
namespace Go.Proofs.Ytenglfaeohgkfaa
open Go Go.E
set_option linter.unusedVariables false
set_option maxRecDepth 100000
noncomputable abbrev prog : Program := Go.Proofs.Try.prog
theorem mixed : prog.follows .mixedOrders = true := by kernel_rfl
noncomputable abbrev fn3 : Func := Go.Proofs.Try.f3
theorem fnAt3 : prog.funcs[3]? = some fn3 := Go.Proofs.Try.func3
noncomputable abbrev fn4 : Func := Go.Proofs.Try.f4
theorem fnAt4 : prog.funcs[4]? = some fn4 := Go.Proofs.Try.func4
noncomputable abbrev fn5 : Func := Go.Proofs.Try.f5
theorem fnAt5 : prog.funcs[5]? = some fn5 := Go.Proofs.Try.func5
noncomputable abbrev fn6 : Func := Go.Proofs.Try.f6
theorem fnAt6 : prog.funcs[6]? = some fn6 := Go.Proofs.Try.func6
noncomputable abbrev fn7 : Func := Go.Proofs.Try.f7
theorem fnAt7 : prog.funcs[7]? = some fn7 := Go.Proofs.Try.func7
noncomputable abbrev fn8 : Func := Go.Proofs.Try.f8
theorem fnAt8 : prog.funcs[8]? = some fn8 := Go.Proofs.Try.func8
noncomputable abbrev fn9 : Func := Go.Proofs.Try.f9
theorem fnAt9 : prog.funcs[9]? = some fn9 := Go.Proofs.Try.func9
noncomputable abbrev fn10 : Func := Go.Proofs.Try.f10
theorem fnAt10 : prog.funcs[10]? = some fn10 := Go.Proofs.Try.func10
noncomputable abbrev fn11 : Func := Go.Proofs.Try.f11
theorem fnAt11 : prog.funcs[11]? = some fn11 := Go.Proofs.Try.func11
noncomputable abbrev fn12 : Func := Go.Proofs.Try.f12
theorem fnAt12 : prog.funcs[12]? = some fn12 := Go.Proofs.Try.func12
noncomputable abbrev fn13 : Func := Go.Proofs.Try.f13
theorem fnAt13 : prog.funcs[13]? = some fn13 := Go.Proofs.Try.func13
noncomputable abbrev fn14 : Func := Go.Proofs.Try.f14
theorem fnAt14 : prog.funcs[14]? = some fn14 := Go.Proofs.Try.func14
noncomputable abbrev fn15 : Func := Go.Proofs.Try.f15
theorem fnAt15 : prog.funcs[15]? = some fn15 := Go.Proofs.Try.func15
noncomputable abbrev fn16 : Func := Go.Proofs.Try.f16
theorem fnAt16 : prog.funcs[16]? = some fn16 := Go.Proofs.Try.func16
noncomputable abbrev fn17 : Func := Go.Proofs.Try.f17
theorem fnAt17 : prog.funcs[17]? = some fn17 := Go.Proofs.Try.func17
noncomputable abbrev fn18 : Func := Go.Proofs.Try.f18
theorem fnAt18 : prog.funcs[18]? = some fn18 := Go.Proofs.Try.func18
noncomputable abbrev fn19 : Func := Go.Proofs.Try.f19
theorem fnAt19 : prog.funcs[19]? = some fn19 := Go.Proofs.Try.func19
noncomputable abbrev fn20 : Func := Go.Proofs.Try.f20
theorem fnAt20 : prog.funcs[20]? = some fn20 := Go.Proofs.Try.func20
noncomputable abbrev fn21 : Func := Go.Proofs.Try.f21
theorem fnAt21 : prog.funcs[21]? = some fn21 := Go.Proofs.Try.func21
noncomputable abbrev fn22 : Func := Go.Proofs.Try.f22
theorem fnAt22 : prog.funcs[22]? = some fn22 := Go.Proofs.Try.func22
noncomputable abbrev fn23 : Func := Go.Proofs.Try.f23
theorem fnAt23 : prog.funcs[23]? = some fn23 := Go.Proofs.Try.func23
noncomputable abbrev fn24 : Func := Go.Proofs.Try.f24
theorem fnAt24 : prog.funcs[24]? = some fn24 := Go.Proofs.Try.func24
noncomputable abbrev fn25 : Func := Go.Proofs.Try.f25
theorem fnAt25 : prog.funcs[25]? = some fn25 := Go.Proofs.Try.func25
noncomputable abbrev fn26 : Func := Go.Proofs.Try.f26
theorem fnAt26 : prog.funcs[26]? = some fn26 := Go.Proofs.Try.func26
noncomputable abbrev fn27 : Func := Go.Proofs.Try.f27
theorem fnAt27 : prog.funcs[27]? = some fn27 := Go.Proofs.Try.func27
noncomputable abbrev fn28 : Func := Go.Proofs.Try.f28
theorem fnAt28 : prog.funcs[28]? = some fn28 := Go.Proofs.Try.func28
noncomputable abbrev fn29 : Func := Go.Proofs.Try.f29
theorem fnAt29 : prog.funcs[29]? = some fn29 := Go.Proofs.Try.func29
noncomputable abbrev fn30 : Func := Go.Proofs.Try.f30
theorem fnAt30 : prog.funcs[30]? = some fn30 := Go.Proofs.Try.func30
noncomputable abbrev fn31 : Func := Go.Proofs.Try.f31
theorem fnAt31 : prog.funcs[31]? = some fn31 := Go.Proofs.Try.func31
noncomputable abbrev fn32 : Func := Go.Proofs.Try.f32
theorem fnAt32 : prog.funcs[32]? = some fn32 := Go.Proofs.Try.func32
noncomputable abbrev fn33 : Func := Go.Proofs.Try.f33
theorem fnAt33 : prog.funcs[33]? = some fn33 := Go.Proofs.Try.func33
noncomputable abbrev fn34 : Func := Go.Proofs.Try.f34
theorem fnAt34 : prog.funcs[34]? = some fn34 := Go.Proofs.Try.func34
noncomputable abbrev fn35 : Func := Go.Proofs.Try.f35
theorem fnAt35 : prog.funcs[35]? = some fn35 := Go.Proofs.Try.func35
noncomputable abbrev fn36 : Func := Go.Proofs.Try.f36
theorem fnAt36 : prog.funcs[36]? = some fn36 := Go.Proofs.Try.func36
noncomputable abbrev fn37 : Func := Go.Proofs.Try.f37
theorem fnAt37 : prog.funcs[37]? = some fn37 := Go.Proofs.Try.func37
noncomputable abbrev fn38 : Func := Go.Proofs.Try.f38
theorem fnAt38 : prog.funcs[38]? = some fn38 := Go.Proofs.Try.func38
noncomputable abbrev fn39 : Func := Go.Proofs.Try.f39
theorem fnAt39 : prog.funcs[39]? = some fn39 := Go.Proofs.Try.func39
noncomputable abbrev fn40 : Func := Go.Proofs.Try.f40
theorem fnAt40 : prog.funcs[40]? = some fn40 := Go.Proofs.Try.func40
noncomputable abbrev fn41 : Func := Go.Proofs.Try.f41
theorem fnAt41 : prog.funcs[41]? = some fn41 := Go.Proofs.Try.func41
noncomputable abbrev fn42 : Func := Go.Proofs.Try.f42
theorem fnAt42 : prog.funcs[42]? = some fn42 := Go.Proofs.Try.func42
noncomputable abbrev fn43 : Func := Go.Proofs.Try.f43
theorem fnAt43 : prog.funcs[43]? = some fn43 := Go.Proofs.Try.func43
noncomputable abbrev fn44 : Func := Go.Proofs.Try.f44
theorem fnAt44 : prog.funcs[44]? = some fn44 := Go.Proofs.Try.func44
noncomputable abbrev fn45 : Func := Go.Proofs.Try.f45
theorem fnAt45 : prog.funcs[45]? = some fn45 := Go.Proofs.Try.func45
noncomputable abbrev fn46 : Func := Go.Proofs.Try.f46
theorem fnAt46 : prog.funcs[46]? = some fn46 := Go.Proofs.Try.func46
noncomputable abbrev fn47 : Func := Go.Proofs.Try.f47
theorem fnAt47 : prog.funcs[47]? = some fn47 := Go.Proofs.Try.func47
noncomputable abbrev fn48 : Func := Go.Proofs.Try.f48
theorem fnAt48 : prog.funcs[48]? = some fn48 := Go.Proofs.Try.func48
noncomputable abbrev fn49 : Func := Go.Proofs.Try.f49
theorem fnAt49 : prog.funcs[49]? = some fn49 := Go.Proofs.Try.func49
noncomputable abbrev fn50 : Func := Go.Proofs.Try.f50
theorem fnAt50 : prog.funcs[50]? = some fn50 := Go.Proofs.Try.func50
noncomputable abbrev fn51 : Func := Go.Proofs.Try.f51
theorem fnAt51 : prog.funcs[51]? = some fn51 := Go.Proofs.Try.func51
noncomputable abbrev fn52 : Func := Go.Proofs.Try.f52
theorem fnAt52 : prog.funcs[52]? = some fn52 := Go.Proofs.Try.func52
noncomputable abbrev fn54 : Func := Go.Proofs.Try.f54
theorem fnAt54 : prog.funcs[54]? = some fn54 := Go.Proofs.Try.func54
noncomputable abbrev fn55 : Func := Go.Proofs.Try.f55
theorem fnAt55 : prog.funcs[55]? = some fn55 := Go.Proofs.Try.func55
noncomputable abbrev fn56 : Func := Go.Proofs.Try.f56
theorem fnAt56 : prog.funcs[56]? = some fn56 := Go.Proofs.Try.func56
noncomputable abbrev fn57 : Func := Go.Proofs.Try.f57
theorem fnAt57 : prog.funcs[57]? = some fn57 := Go.Proofs.Try.func57
noncomputable abbrev fn58 : Func := Go.Proofs.Try.f58
theorem fnAt58 : prog.funcs[58]? = some fn58 := Go.Proofs.Try.func58
noncomputable abbrev fn59 : Func := Go.Proofs.Try.f59
theorem fnAt59 : prog.funcs[59]? = some fn59 := Go.Proofs.Try.func59
noncomputable abbrev fn60 : Func := Go.Proofs.Try.f60
theorem fnAt60 : prog.funcs[60]? = some fn60 := Go.Proofs.Try.func60
noncomputable abbrev fn61 : Func := Go.Proofs.Try.f61
theorem fnAt61 : prog.funcs[61]? = some fn61 := Go.Proofs.Try.func61
noncomputable abbrev fn62 : Func := Go.Proofs.Try.f62
theorem fnAt62 : prog.funcs[62]? = some fn62 := Go.Proofs.Try.func62
noncomputable abbrev fn63 : Func := Go.Proofs.Try.f63
theorem fnAt63 : prog.funcs[63]? = some fn63 := Go.Proofs.Try.func63
noncomputable abbrev fn64 : Func := Go.Proofs.Try.f64
theorem fnAt64 : prog.funcs[64]? = some fn64 := Go.Proofs.Try.func64
noncomputable abbrev fn65 : Func := Go.Proofs.Try.f65
theorem fnAt65 : prog.funcs[65]? = some fn65 := Go.Proofs.Try.func65
noncomputable abbrev fn66 : Func := Go.Proofs.Try.f66
theorem fnAt66 : prog.funcs[66]? = some fn66 := Go.Proofs.Try.func66
noncomputable abbrev fn67 : Func := Go.Proofs.Try.f67
theorem fnAt67 : prog.funcs[67]? = some fn67 := Go.Proofs.Try.func67
noncomputable abbrev fn68 : Func := Go.Proofs.Try.f68
theorem fnAt68 : prog.funcs[68]? = some fn68 := Go.Proofs.Try.func68
noncomputable abbrev fn69 : Func := Go.Proofs.Try.f69
theorem fnAt69 : prog.funcs[69]? = some fn69 := Go.Proofs.Try.func69
noncomputable abbrev fn70 : Func := Go.Proofs.Try.f70
theorem fnAt70 : prog.funcs[70]? = some fn70 := Go.Proofs.Try.func70
noncomputable abbrev fn71 : Func := Go.Proofs.Try.f71
theorem fnAt71 : prog.funcs[71]? = some fn71 := Go.Proofs.Try.func71
noncomputable abbrev fn72 : Func := Go.Proofs.Try.f72
theorem fnAt72 : prog.funcs[72]? = some fn72 := Go.Proofs.Try.func72
noncomputable abbrev fn75 : Func := Go.Proofs.Try.f75
theorem fnAt75 : prog.funcs[75]? = some fn75 := Go.Proofs.Try.func75
noncomputable abbrev fn76 : Func := Go.Proofs.Try.f76
theorem fnAt76 : prog.funcs[76]? = some fn76 := Go.Proofs.Try.func76
noncomputable abbrev fn77 : Func := Go.Proofs.Try.f77
theorem fnAt77 : prog.funcs[77]? = some fn77 := Go.Proofs.Try.func77
noncomputable abbrev fn78 : Func := Go.Proofs.Try.f78
theorem fnAt78 : prog.funcs[78]? = some fn78 := Go.Proofs.Try.func78
noncomputable abbrev fn79 : Func := Go.Proofs.Try.f79
theorem fnAt79 : prog.funcs[79]? = some fn79 := Go.Proofs.Try.func79
noncomputable abbrev fn80 : Func := Go.Proofs.Try.f80
theorem fnAt80 : prog.funcs[80]? = some fn80 := Go.Proofs.Try.func80
noncomputable abbrev fn81 : Func := Go.Proofs.Try.f81
theorem fnAt81 : prog.funcs[81]? = some fn81 := Go.Proofs.Try.func81
noncomputable abbrev fn82 : Func := Go.Proofs.Try.f82
theorem fnAt82 : prog.funcs[82]? = some fn82 := Go.Proofs.Try.func82
noncomputable abbrev fn93 : Func := Go.Proofs.Try.f93
theorem fnAt93 : prog.funcs[93]? = some fn93 := Go.Proofs.Try.func93
noncomputable abbrev fn94 : Func := Go.Proofs.Try.f94
theorem fnAt94 : prog.funcs[94]? = some fn94 := Go.Proofs.Try.func94
noncomputable abbrev fn118 : Func := Go.Proofs.Try.f118
theorem fnAt118 : prog.funcs[118]? = some fn118 := Go.Proofs.Try.func118
noncomputable abbrev fn119 : Func := Go.Proofs.Try.f119
theorem fnAt119 : prog.funcs[119]? = some fn119 := Go.Proofs.Try.func119
noncomputable abbrev fn120 : Func := Go.Proofs.Try.f120
theorem fnAt120 : prog.funcs[120]? = some fn120 := Go.Proofs.Try.func120
noncomputable abbrev fn121 : Func := Go.Proofs.Try.f121
theorem fnAt121 : prog.funcs[121]? = some fn121 := Go.Proofs.Try.func121
noncomputable abbrev fn122 : Func := Go.Proofs.Try.f122
theorem fnAt122 : prog.funcs[122]? = some fn122 := Go.Proofs.Try.func122
noncomputable abbrev fn123 : Func := Go.Proofs.Try.f123
theorem fnAt123 : prog.funcs[123]? = some fn123 := Go.Proofs.Try.func123
end Go.Proofs.Ytenglfaeohgkfaa
