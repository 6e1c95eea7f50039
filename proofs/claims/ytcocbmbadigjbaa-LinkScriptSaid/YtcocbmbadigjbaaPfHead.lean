/- Printed by prt.py: the Go functions of this seat as shallow predicate transformers. Conditions: none. -/
import Derived.Test.YtcocbmbadigjbaaEngO
import Derived.Test.YtcocbmbadigjbaaEngY
import Derived.Test.YtcocbmbadigjbaaProg
import Derived.KernelRfl
namespace Go.Proofs.Ytcocbmbadigjbaa
open Go Go.E
set_option linter.unusedVariables false
set_option maxRecDepth 100000
noncomputable abbrev prog : Program := Go.Proofs.Try.prog
theorem mixed : prog.follows .mixedOrders = true := by kernel_rfl
noncomputable abbrev fn3 : Func := Go.Proofs.Try.f3
theorem fnAt3 : prog.funcs[3]? = some fn3 := Go.Proofs.Try.func3
noncomputable abbrev fn4 : Func := Go.Proofs.Try.f4
theorem fnAt4 : prog.funcs[4]? = some fn4 := Go.Proofs.Try.func4
noncomputable abbrev fn5 : Func := Go.Proofs.Try.f5
theorem fnAt5 : prog.funcs[5]? = some fn5 := Go.Proofs.Try.func5
noncomputable abbrev fn6 : Func := Go.Proofs.Try.f6
theorem fnAt6 : prog.funcs[6]? = some fn6 := Go.Proofs.Try.func6
noncomputable abbrev fn7 : Func := Go.Proofs.Try.f7
theorem fnAt7 : prog.funcs[7]? = some fn7 := Go.Proofs.Try.func7
noncomputable abbrev fn8 : Func := Go.Proofs.Try.f8
theorem fnAt8 : prog.funcs[8]? = some fn8 := Go.Proofs.Try.func8
noncomputable abbrev fn9 : Func := Go.Proofs.Try.f9
theorem fnAt9 : prog.funcs[9]? = some fn9 := Go.Proofs.Try.func9
noncomputable abbrev fn10 : Func := Go.Proofs.Try.f10
theorem fnAt10 : prog.funcs[10]? = some fn10 := Go.Proofs.Try.func10
noncomputable abbrev fn11 : Func := Go.Proofs.Try.f11
theorem fnAt11 : prog.funcs[11]? = some fn11 := Go.Proofs.Try.func11
noncomputable abbrev fn12 : Func := Go.Proofs.Try.f12
theorem fnAt12 : prog.funcs[12]? = some fn12 := Go.Proofs.Try.func12
noncomputable abbrev fn13 : Func := Go.Proofs.Try.f13
theorem fnAt13 : prog.funcs[13]? = some fn13 := Go.Proofs.Try.func13
noncomputable abbrev fn14 : Func := Go.Proofs.Try.f14
theorem fnAt14 : prog.funcs[14]? = some fn14 := Go.Proofs.Try.func14
noncomputable abbrev fn15 : Func := Go.Proofs.Try.f15
theorem fnAt15 : prog.funcs[15]? = some fn15 := Go.Proofs.Try.func15
noncomputable abbrev fn16 : Func := Go.Proofs.Try.f16
theorem fnAt16 : prog.funcs[16]? = some fn16 := Go.Proofs.Try.func16
noncomputable abbrev fn17 : Func := Go.Proofs.Try.f17
theorem fnAt17 : prog.funcs[17]? = some fn17 := Go.Proofs.Try.func17
noncomputable abbrev fn18 : Func := Go.Proofs.Try.f18
theorem fnAt18 : prog.funcs[18]? = some fn18 := Go.Proofs.Try.func18
noncomputable abbrev fn19 : Func := Go.Proofs.Try.f19
theorem fnAt19 : prog.funcs[19]? = some fn19 := Go.Proofs.Try.func19
noncomputable abbrev fn20 : Func := Go.Proofs.Try.f20
theorem fnAt20 : prog.funcs[20]? = some fn20 := Go.Proofs.Try.func20
noncomputable abbrev fn21 : Func := Go.Proofs.Try.f21
theorem fnAt21 : prog.funcs[21]? = some fn21 := Go.Proofs.Try.func21
noncomputable abbrev fn22 : Func := Go.Proofs.Try.f22
theorem fnAt22 : prog.funcs[22]? = some fn22 := Go.Proofs.Try.func22
noncomputable abbrev fn23 : Func := Go.Proofs.Try.f23
theorem fnAt23 : prog.funcs[23]? = some fn23 := Go.Proofs.Try.func23
noncomputable abbrev fn24 : Func := Go.Proofs.Try.f24
theorem fnAt24 : prog.funcs[24]? = some fn24 := Go.Proofs.Try.func24
noncomputable abbrev fn25 : Func := Go.Proofs.Try.f25
theorem fnAt25 : prog.funcs[25]? = some fn25 := Go.Proofs.Try.func25
noncomputable abbrev fn26 : Func := Go.Proofs.Try.f26
theorem fnAt26 : prog.funcs[26]? = some fn26 := Go.Proofs.Try.func26
noncomputable abbrev fn27 : Func := Go.Proofs.Try.f27
theorem fnAt27 : prog.funcs[27]? = some fn27 := Go.Proofs.Try.func27
noncomputable abbrev fn28 : Func := Go.Proofs.Try.f28
theorem fnAt28 : prog.funcs[28]? = some fn28 := Go.Proofs.Try.func28
noncomputable abbrev fn29 : Func := Go.Proofs.Try.f29
theorem fnAt29 : prog.funcs[29]? = some fn29 := Go.Proofs.Try.func29
noncomputable abbrev fn30 : Func := Go.Proofs.Try.f30
theorem fnAt30 : prog.funcs[30]? = some fn30 := Go.Proofs.Try.func30
noncomputable abbrev fn31 : Func := Go.Proofs.Try.f31
theorem fnAt31 : prog.funcs[31]? = some fn31 := Go.Proofs.Try.func31
end Go.Proofs.Ytcocbmbadigjbaa
