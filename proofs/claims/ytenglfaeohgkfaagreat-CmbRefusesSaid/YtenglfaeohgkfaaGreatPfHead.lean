/- Printed by prt.py: the Go functions of this seat as shallow predicate transformers. Conditions: none. -/
import Derived.Test.YtenglfaeohgkfaaGreatEngO
import Derived.Test.YtenglfaeohgkfaaGreatEngZ
import Derived.Test.YtenglfaeohgkfaaGreatProg
import Derived.KernelRfl
namespace Go.Proofs.YtenglfaeohgkfaaGreat
open Go Go.E
set_option linter.unusedVariables false
set_option maxRecDepth 100000
noncomputable abbrev prog : Program := Go.Proofs.Tryz.prog
theorem mixed : prog.follows .mixedOrders = true := by kernel_rfl
noncomputable abbrev fn3 : Func := Go.Proofs.Tryz.f3
theorem fnAt3 : prog.funcs[3]? = some fn3 := Go.Proofs.Tryz.func3
noncomputable abbrev fn4 : Func := Go.Proofs.Tryz.f4
theorem fnAt4 : prog.funcs[4]? = some fn4 := Go.Proofs.Tryz.func4
noncomputable abbrev fn5 : Func := Go.Proofs.Tryz.f5
theorem fnAt5 : prog.funcs[5]? = some fn5 := Go.Proofs.Tryz.func5
noncomputable abbrev fn6 : Func := Go.Proofs.Tryz.f6
theorem fnAt6 : prog.funcs[6]? = some fn6 := Go.Proofs.Tryz.func6
noncomputable abbrev fn7 : Func := Go.Proofs.Tryz.f7
theorem fnAt7 : prog.funcs[7]? = some fn7 := Go.Proofs.Tryz.func7
noncomputable abbrev fn8 : Func := Go.Proofs.Tryz.f8
theorem fnAt8 : prog.funcs[8]? = some fn8 := Go.Proofs.Tryz.func8
noncomputable abbrev fn9 : Func := Go.Proofs.Tryz.f9
theorem fnAt9 : prog.funcs[9]? = some fn9 := Go.Proofs.Tryz.func9
noncomputable abbrev fn10 : Func := Go.Proofs.Tryz.f10
theorem fnAt10 : prog.funcs[10]? = some fn10 := Go.Proofs.Tryz.func10
noncomputable abbrev fn11 : Func := Go.Proofs.Tryz.f11
theorem fnAt11 : prog.funcs[11]? = some fn11 := Go.Proofs.Tryz.func11
noncomputable abbrev fn12 : Func := Go.Proofs.Tryz.f12
theorem fnAt12 : prog.funcs[12]? = some fn12 := Go.Proofs.Tryz.func12
noncomputable abbrev fn13 : Func := Go.Proofs.Tryz.f13
theorem fnAt13 : prog.funcs[13]? = some fn13 := Go.Proofs.Tryz.func13
noncomputable abbrev fn14 : Func := Go.Proofs.Tryz.f14
theorem fnAt14 : prog.funcs[14]? = some fn14 := Go.Proofs.Tryz.func14
noncomputable abbrev fn15 : Func := Go.Proofs.Tryz.f15
theorem fnAt15 : prog.funcs[15]? = some fn15 := Go.Proofs.Tryz.func15
noncomputable abbrev fn16 : Func := Go.Proofs.Tryz.f16
theorem fnAt16 : prog.funcs[16]? = some fn16 := Go.Proofs.Tryz.func16
noncomputable abbrev fn17 : Func := Go.Proofs.Tryz.f17
theorem fnAt17 : prog.funcs[17]? = some fn17 := Go.Proofs.Tryz.func17
noncomputable abbrev fn18 : Func := Go.Proofs.Tryz.f18
theorem fnAt18 : prog.funcs[18]? = some fn18 := Go.Proofs.Tryz.func18
noncomputable abbrev fn19 : Func := Go.Proofs.Tryz.f19
theorem fnAt19 : prog.funcs[19]? = some fn19 := Go.Proofs.Tryz.func19
noncomputable abbrev fn20 : Func := Go.Proofs.Tryz.f20
theorem fnAt20 : prog.funcs[20]? = some fn20 := Go.Proofs.Tryz.func20
noncomputable abbrev fn21 : Func := Go.Proofs.Tryz.f21
theorem fnAt21 : prog.funcs[21]? = some fn21 := Go.Proofs.Tryz.func21
noncomputable abbrev fn22 : Func := Go.Proofs.Tryz.f22
theorem fnAt22 : prog.funcs[22]? = some fn22 := Go.Proofs.Tryz.func22
noncomputable abbrev fn23 : Func := Go.Proofs.Tryz.f23
theorem fnAt23 : prog.funcs[23]? = some fn23 := Go.Proofs.Tryz.func23
noncomputable abbrev fn24 : Func := Go.Proofs.Tryz.f24
theorem fnAt24 : prog.funcs[24]? = some fn24 := Go.Proofs.Tryz.func24
noncomputable abbrev fn25 : Func := Go.Proofs.Tryz.f25
theorem fnAt25 : prog.funcs[25]? = some fn25 := Go.Proofs.Tryz.func25
noncomputable abbrev fn26 : Func := Go.Proofs.Tryz.f26
theorem fnAt26 : prog.funcs[26]? = some fn26 := Go.Proofs.Tryz.func26
noncomputable abbrev fn27 : Func := Go.Proofs.Tryz.f27
theorem fnAt27 : prog.funcs[27]? = some fn27 := Go.Proofs.Tryz.func27
noncomputable abbrev fn28 : Func := Go.Proofs.Tryz.f28
theorem fnAt28 : prog.funcs[28]? = some fn28 := Go.Proofs.Tryz.func28
noncomputable abbrev fn29 : Func := Go.Proofs.Tryz.f29
theorem fnAt29 : prog.funcs[29]? = some fn29 := Go.Proofs.Tryz.func29
noncomputable abbrev fn30 : Func := Go.Proofs.Tryz.f30
theorem fnAt30 : prog.funcs[30]? = some fn30 := Go.Proofs.Tryz.func30
noncomputable abbrev fn31 : Func := Go.Proofs.Tryz.f31
theorem fnAt31 : prog.funcs[31]? = some fn31 := Go.Proofs.Tryz.func31
noncomputable abbrev fn32 : Func := Go.Proofs.Tryz.f32
theorem fnAt32 : prog.funcs[32]? = some fn32 := Go.Proofs.Tryz.func32
noncomputable abbrev fn33 : Func := Go.Proofs.Tryz.f33
theorem fnAt33 : prog.funcs[33]? = some fn33 := Go.Proofs.Tryz.func33
noncomputable abbrev fn34 : Func := Go.Proofs.Tryz.f34
theorem fnAt34 : prog.funcs[34]? = some fn34 := Go.Proofs.Tryz.func34
noncomputable abbrev fn35 : Func := Go.Proofs.Tryz.f35
theorem fnAt35 : prog.funcs[35]? = some fn35 := Go.Proofs.Tryz.func35
noncomputable abbrev fn36 : Func := Go.Proofs.Tryz.f36
theorem fnAt36 : prog.funcs[36]? = some fn36 := Go.Proofs.Tryz.func36
noncomputable abbrev fn37 : Func := Go.Proofs.Tryz.f37
theorem fnAt37 : prog.funcs[37]? = some fn37 := Go.Proofs.Tryz.func37
noncomputable abbrev fn38 : Func := Go.Proofs.Tryz.f38
theorem fnAt38 : prog.funcs[38]? = some fn38 := Go.Proofs.Tryz.func38
noncomputable abbrev fn39 : Func := Go.Proofs.Tryz.f39
theorem fnAt39 : prog.funcs[39]? = some fn39 := Go.Proofs.Tryz.func39
noncomputable abbrev fn40 : Func := Go.Proofs.Tryz.f40
theorem fnAt40 : prog.funcs[40]? = some fn40 := Go.Proofs.Tryz.func40
noncomputable abbrev fn41 : Func := Go.Proofs.Tryz.f41
theorem fnAt41 : prog.funcs[41]? = some fn41 := Go.Proofs.Tryz.func41
noncomputable abbrev fn42 : Func := Go.Proofs.Tryz.f42
theorem fnAt42 : prog.funcs[42]? = some fn42 := Go.Proofs.Tryz.func42
noncomputable abbrev fn43 : Func := Go.Proofs.Tryz.f43
theorem fnAt43 : prog.funcs[43]? = some fn43 := Go.Proofs.Tryz.func43
noncomputable abbrev fn44 : Func := Go.Proofs.Tryz.f44
theorem fnAt44 : prog.funcs[44]? = some fn44 := Go.Proofs.Tryz.func44
noncomputable abbrev fn45 : Func := Go.Proofs.Tryz.f45
theorem fnAt45 : prog.funcs[45]? = some fn45 := Go.Proofs.Tryz.func45
noncomputable abbrev fn46 : Func := Go.Proofs.Tryz.f46
theorem fnAt46 : prog.funcs[46]? = some fn46 := Go.Proofs.Tryz.func46
noncomputable abbrev fn47 : Func := Go.Proofs.Tryz.f47
theorem fnAt47 : prog.funcs[47]? = some fn47 := Go.Proofs.Tryz.func47
noncomputable abbrev fn48 : Func := Go.Proofs.Tryz.f48
theorem fnAt48 : prog.funcs[48]? = some fn48 := Go.Proofs.Tryz.func48
noncomputable abbrev fn49 : Func := Go.Proofs.Tryz.f49
theorem fnAt49 : prog.funcs[49]? = some fn49 := Go.Proofs.Tryz.func49
noncomputable abbrev fn50 : Func := Go.Proofs.Tryz.f50
theorem fnAt50 : prog.funcs[50]? = some fn50 := Go.Proofs.Tryz.func50
noncomputable abbrev fn51 : Func := Go.Proofs.Tryz.f51
theorem fnAt51 : prog.funcs[51]? = some fn51 := Go.Proofs.Tryz.func51
noncomputable abbrev fn52 : Func := Go.Proofs.Tryz.f52
theorem fnAt52 : prog.funcs[52]? = some fn52 := Go.Proofs.Tryz.func52
noncomputable abbrev fn53 : Func := Go.Proofs.Tryz.f53
theorem fnAt53 : prog.funcs[53]? = some fn53 := Go.Proofs.Tryz.func53
noncomputable abbrev fn54 : Func := Go.Proofs.Tryz.f54
theorem fnAt54 : prog.funcs[54]? = some fn54 := Go.Proofs.Tryz.func54
noncomputable abbrev fn55 : Func := Go.Proofs.Tryz.f55
theorem fnAt55 : prog.funcs[55]? = some fn55 := Go.Proofs.Tryz.func55
noncomputable abbrev fn56 : Func := Go.Proofs.Tryz.f56
theorem fnAt56 : prog.funcs[56]? = some fn56 := Go.Proofs.Tryz.func56
noncomputable abbrev fn57 : Func := Go.Proofs.Tryz.f57
theorem fnAt57 : prog.funcs[57]? = some fn57 := Go.Proofs.Tryz.func57
noncomputable abbrev fn58 : Func := Go.Proofs.Tryz.f58
theorem fnAt58 : prog.funcs[58]? = some fn58 := Go.Proofs.Tryz.func58
noncomputable abbrev fn59 : Func := Go.Proofs.Tryz.f59
theorem fnAt59 : prog.funcs[59]? = some fn59 := Go.Proofs.Tryz.func59
noncomputable abbrev fn60 : Func := Go.Proofs.Tryz.f60
theorem fnAt60 : prog.funcs[60]? = some fn60 := Go.Proofs.Tryz.func60
noncomputable abbrev fn61 : Func := Go.Proofs.Tryz.f61
theorem fnAt61 : prog.funcs[61]? = some fn61 := Go.Proofs.Tryz.func61
noncomputable abbrev fn62 : Func := Go.Proofs.Tryz.f62
theorem fnAt62 : prog.funcs[62]? = some fn62 := Go.Proofs.Tryz.func62
noncomputable abbrev fn63 : Func := Go.Proofs.Tryz.f63
theorem fnAt63 : prog.funcs[63]? = some fn63 := Go.Proofs.Tryz.func63
noncomputable abbrev fn64 : Func := Go.Proofs.Tryz.f64
theorem fnAt64 : prog.funcs[64]? = some fn64 := Go.Proofs.Tryz.func64
noncomputable abbrev fn65 : Func := Go.Proofs.Tryz.f65
theorem fnAt65 : prog.funcs[65]? = some fn65 := Go.Proofs.Tryz.func65
noncomputable abbrev fn66 : Func := Go.Proofs.Tryz.f66
theorem fnAt66 : prog.funcs[66]? = some fn66 := Go.Proofs.Tryz.func66
noncomputable abbrev fn67 : Func := Go.Proofs.Tryz.f67
theorem fnAt67 : prog.funcs[67]? = some fn67 := Go.Proofs.Tryz.func67
noncomputable abbrev fn68 : Func := Go.Proofs.Tryz.f68
theorem fnAt68 : prog.funcs[68]? = some fn68 := Go.Proofs.Tryz.func68
noncomputable abbrev fn69 : Func := Go.Proofs.Tryz.f69
theorem fnAt69 : prog.funcs[69]? = some fn69 := Go.Proofs.Tryz.func69
noncomputable abbrev fn70 : Func := Go.Proofs.Tryz.f70
theorem fnAt70 : prog.funcs[70]? = some fn70 := Go.Proofs.Tryz.func70
noncomputable abbrev fn71 : Func := Go.Proofs.Tryz.f71
theorem fnAt71 : prog.funcs[71]? = some fn71 := Go.Proofs.Tryz.func71
noncomputable abbrev fn72 : Func := Go.Proofs.Tryz.f72
theorem fnAt72 : prog.funcs[72]? = some fn72 := Go.Proofs.Tryz.func72
noncomputable abbrev fn73 : Func := Go.Proofs.Tryz.f73
theorem fnAt73 : prog.funcs[73]? = some fn73 := Go.Proofs.Tryz.func73
noncomputable abbrev fn74 : Func := Go.Proofs.Tryz.f74
theorem fnAt74 : prog.funcs[74]? = some fn74 := Go.Proofs.Tryz.func74
noncomputable abbrev fn75 : Func := Go.Proofs.Tryz.f75
theorem fnAt75 : prog.funcs[75]? = some fn75 := Go.Proofs.Tryz.func75
noncomputable abbrev fn76 : Func := Go.Proofs.Tryz.f76
theorem fnAt76 : prog.funcs[76]? = some fn76 := Go.Proofs.Tryz.func76
noncomputable abbrev fn77 : Func := Go.Proofs.Tryz.f77
theorem fnAt77 : prog.funcs[77]? = some fn77 := Go.Proofs.Tryz.func77
noncomputable abbrev fn78 : Func := Go.Proofs.Tryz.f78
theorem fnAt78 : prog.funcs[78]? = some fn78 := Go.Proofs.Tryz.func78
noncomputable abbrev fn79 : Func := Go.Proofs.Tryz.f79
theorem fnAt79 : prog.funcs[79]? = some fn79 := Go.Proofs.Tryz.func79
noncomputable abbrev fn80 : Func := Go.Proofs.Tryz.f80
theorem fnAt80 : prog.funcs[80]? = some fn80 := Go.Proofs.Tryz.func80
noncomputable abbrev fn81 : Func := Go.Proofs.Tryz.f81
theorem fnAt81 : prog.funcs[81]? = some fn81 := Go.Proofs.Tryz.func81
noncomputable abbrev fn83 : Func := Go.Proofs.Tryz.f83
theorem fnAt83 : prog.funcs[83]? = some fn83 := Go.Proofs.Tryz.func83
noncomputable abbrev fn84 : Func := Go.Proofs.Tryz.f84
theorem fnAt84 : prog.funcs[84]? = some fn84 := Go.Proofs.Tryz.func84
noncomputable abbrev fn85 : Func := Go.Proofs.Tryz.f85
theorem fnAt85 : prog.funcs[85]? = some fn85 := Go.Proofs.Tryz.func85
noncomputable abbrev fn86 : Func := Go.Proofs.Tryz.f86
theorem fnAt86 : prog.funcs[86]? = some fn86 := Go.Proofs.Tryz.func86
noncomputable abbrev fn87 : Func := Go.Proofs.Tryz.f87
theorem fnAt87 : prog.funcs[87]? = some fn87 := Go.Proofs.Tryz.func87
noncomputable abbrev fn88 : Func := Go.Proofs.Tryz.f88
theorem fnAt88 : prog.funcs[88]? = some fn88 := Go.Proofs.Tryz.func88
noncomputable abbrev fn89 : Func := Go.Proofs.Tryz.f89
theorem fnAt89 : prog.funcs[89]? = some fn89 := Go.Proofs.Tryz.func89
noncomputable abbrev fn90 : Func := Go.Proofs.Tryz.f90
theorem fnAt90 : prog.funcs[90]? = some fn90 := Go.Proofs.Tryz.func90
noncomputable abbrev fn91 : Func := Go.Proofs.Tryz.f91
theorem fnAt91 : prog.funcs[91]? = some fn91 := Go.Proofs.Tryz.func91
noncomputable abbrev fn92 : Func := Go.Proofs.Tryz.f92
theorem fnAt92 : prog.funcs[92]? = some fn92 := Go.Proofs.Tryz.func92
noncomputable abbrev fn93 : Func := Go.Proofs.Tryz.f93
theorem fnAt93 : prog.funcs[93]? = some fn93 := Go.Proofs.Tryz.func93
noncomputable abbrev fn94 : Func := Go.Proofs.Tryz.f94
theorem fnAt94 : prog.funcs[94]? = some fn94 := Go.Proofs.Tryz.func94
noncomputable abbrev fn95 : Func := Go.Proofs.Tryz.f95
theorem fnAt95 : prog.funcs[95]? = some fn95 := Go.Proofs.Tryz.func95
noncomputable abbrev fn96 : Func := Go.Proofs.Tryz.f96
theorem fnAt96 : prog.funcs[96]? = some fn96 := Go.Proofs.Tryz.func96
noncomputable abbrev fn97 : Func := Go.Proofs.Tryz.f97
theorem fnAt97 : prog.funcs[97]? = some fn97 := Go.Proofs.Tryz.func97
noncomputable abbrev fn98 : Func := Go.Proofs.Tryz.f98
theorem fnAt98 : prog.funcs[98]? = some fn98 := Go.Proofs.Tryz.func98
noncomputable abbrev fn99 : Func := Go.Proofs.Tryz.f99
theorem fnAt99 : prog.funcs[99]? = some fn99 := Go.Proofs.Tryz.func99
noncomputable abbrev fn100 : Func := Go.Proofs.Tryz.f100
theorem fnAt100 : prog.funcs[100]? = some fn100 := Go.Proofs.Tryz.func100
noncomputable abbrev fn101 : Func := Go.Proofs.Tryz.f101
theorem fnAt101 : prog.funcs[101]? = some fn101 := Go.Proofs.Tryz.func101
noncomputable abbrev fn102 : Func := Go.Proofs.Tryz.f102
theorem fnAt102 : prog.funcs[102]? = some fn102 := Go.Proofs.Tryz.func102
noncomputable abbrev fn103 : Func := Go.Proofs.Tryz.f103
theorem fnAt103 : prog.funcs[103]? = some fn103 := Go.Proofs.Tryz.func103
noncomputable abbrev fn104 : Func := Go.Proofs.Tryz.f104
theorem fnAt104 : prog.funcs[104]? = some fn104 := Go.Proofs.Tryz.func104
noncomputable abbrev fn105 : Func := Go.Proofs.Tryz.f105
theorem fnAt105 : prog.funcs[105]? = some fn105 := Go.Proofs.Tryz.func105
noncomputable abbrev fn106 : Func := Go.Proofs.Tryz.f106
theorem fnAt106 : prog.funcs[106]? = some fn106 := Go.Proofs.Tryz.func106
noncomputable abbrev fn107 : Func := Go.Proofs.Tryz.f107
theorem fnAt107 : prog.funcs[107]? = some fn107 := Go.Proofs.Tryz.func107
noncomputable abbrev fn108 : Func := Go.Proofs.Tryz.f108
theorem fnAt108 : prog.funcs[108]? = some fn108 := Go.Proofs.Tryz.func108
noncomputable abbrev fn109 : Func := Go.Proofs.Tryz.f109
theorem fnAt109 : prog.funcs[109]? = some fn109 := Go.Proofs.Tryz.func109
noncomputable abbrev fn110 : Func := Go.Proofs.Tryz.f110
theorem fnAt110 : prog.funcs[110]? = some fn110 := Go.Proofs.Tryz.func110
noncomputable abbrev fn113 : Func := Go.Proofs.Tryz.f113
theorem fnAt113 : prog.funcs[113]? = some fn113 := Go.Proofs.Tryz.func113
noncomputable abbrev fn114 : Func := Go.Proofs.Tryz.f114
theorem fnAt114 : prog.funcs[114]? = some fn114 := Go.Proofs.Tryz.func114
noncomputable abbrev fn115 : Func := Go.Proofs.Tryz.f115
theorem fnAt115 : prog.funcs[115]? = some fn115 := Go.Proofs.Tryz.func115
noncomputable abbrev fn116 : Func := Go.Proofs.Tryz.f116
theorem fnAt116 : prog.funcs[116]? = some fn116 := Go.Proofs.Tryz.func116
noncomputable abbrev fn117 : Func := Go.Proofs.Tryz.f117
theorem fnAt117 : prog.funcs[117]? = some fn117 := Go.Proofs.Tryz.func117
noncomputable abbrev fn118 : Func := Go.Proofs.Tryz.f118
theorem fnAt118 : prog.funcs[118]? = some fn118 := Go.Proofs.Tryz.func118
noncomputable abbrev fn119 : Func := Go.Proofs.Tryz.f119
theorem fnAt119 : prog.funcs[119]? = some fn119 := Go.Proofs.Tryz.func119
noncomputable abbrev fn120 : Func := Go.Proofs.Tryz.f120
theorem fnAt120 : prog.funcs[120]? = some fn120 := Go.Proofs.Tryz.func120
noncomputable abbrev fn121 : Func := Go.Proofs.Tryz.f121
theorem fnAt121 : prog.funcs[121]? = some fn121 := Go.Proofs.Tryz.func121
noncomputable abbrev fn122 : Func := Go.Proofs.Tryz.f122
theorem fnAt122 : prog.funcs[122]? = some fn122 := Go.Proofs.Tryz.func122
noncomputable abbrev fn123 : Func := Go.Proofs.Tryz.f123
theorem fnAt123 : prog.funcs[123]? = some fn123 := Go.Proofs.Tryz.func123
noncomputable abbrev fn134 : Func := Go.Proofs.Tryz.f134
theorem fnAt134 : prog.funcs[134]? = some fn134 := Go.Proofs.Tryz.func134
noncomputable abbrev fn135 : Func := Go.Proofs.Tryz.f135
theorem fnAt135 : prog.funcs[135]? = some fn135 := Go.Proofs.Tryz.func135
noncomputable abbrev fn136 : Func := Go.Proofs.Tryz.f136
theorem fnAt136 : prog.funcs[136]? = some fn136 := Go.Proofs.Tryz.func136
noncomputable abbrev fn160 : Func := Go.Proofs.Tryz.f160
theorem fnAt160 : prog.funcs[160]? = some fn160 := Go.Proofs.Tryz.func160
noncomputable abbrev fn161 : Func := Go.Proofs.Tryz.f161
theorem fnAt161 : prog.funcs[161]? = some fn161 := Go.Proofs.Tryz.func161
noncomputable abbrev fn162 : Func := Go.Proofs.Tryz.f162
theorem fnAt162 : prog.funcs[162]? = some fn162 := Go.Proofs.Tryz.func162
noncomputable abbrev fn163 : Func := Go.Proofs.Tryz.f163
theorem fnAt163 : prog.funcs[163]? = some fn163 := Go.Proofs.Tryz.func163
noncomputable abbrev fn164 : Func := Go.Proofs.Tryz.f164
theorem fnAt164 : prog.funcs[164]? = some fn164 := Go.Proofs.Tryz.func164
noncomputable abbrev fn165 : Func := Go.Proofs.Tryz.f165
theorem fnAt165 : prog.funcs[165]? = some fn165 := Go.Proofs.Tryz.func165
noncomputable abbrev fn166 : Func := Go.Proofs.Tryz.f166
theorem fnAt166 : prog.funcs[166]? = some fn166 := Go.Proofs.Tryz.func166
end Go.Proofs.YtenglfaeohgkfaaGreat
