/- Texts of the proof, joined. Conditions: none. -/
import Derived.Test.YtnhaekgogppbiaaGreatP1
import Derived.KernelRfl
import Derived.DeepKeys3
section
namespace Go.Proofs.YtnhaekgogppbiaaGreat
open Go Go.E
variable {t0 t1 t2 t3 t4 t5 t6 t7 t8 t9 t10 t11 t12 t13 t14 t15 t16 t17 t18 t19 t20 t21 t22 t23 t24 t25 t26 t27 t28 t29:Value} {w:World} {K:KV}
set_option linter.unusedVariables false
set_option maxRecDepth 100000
def Zko (t0 t1:Value) (w:World) (K:KV):Prop:=
 al (Value.cells t0) 102 w λt2 w=>
 fld 4 t1 w λt4 w=>
 ld1 t4 w λt5 w=>
 fld 0 t2 w λt6 w=>
 ld1 t6 w λt7 w=>
 Cl prog 80 #[t5,t7] w λt8 w=>
 Zb3 t8 w λt9 w=>
 gd t9 false (λk=>fld 1 t2 w k) w λt11 w=>
 gd t9 false (λk=>ld1 t11 w k) w λt12 w=>
 gd t9 false (λk=>Cl prog 44 #[t12,(Iw 0),(Iw 1099511627776)] w k) w λt13 w=>
 gd t9 false (λk=>Zb3 t13 w k) w λt14 w=>
 pk t9 (Value.bool true) t14 w λt15 w=>
 gd t15 false (λk=>fld 2 t2 w k) w λt17 w=>
 gd t15 false (λk=>ld1 t17 w k) w λt18 w=>
 gd t15 false (λk=>Cl prog 44 #[t18,(Iw 0),(Iw 999)] w k) w λt19 w=>
 gd t15 false (λk=>Zb3 t19 w k) w λt20 w=>
 pk t15 (Value.bool true) t20 w λt21 w=>
 K t21 w
theorem Zja (h:Zko t0 t1 w K):Cl prog 81 #[t0,t1] w K:=
 ZML 22 [3] Tryz.func81 h
def ZkH (t0:Value) (w:World) (K:KV):Prop:=
 fld 3 t0 w λt2 w=>
 ld1 t2 w λt3 w=>
 Cl prog 83 #[t3] w λt4 w=>
 K t4 w
theorem Zjd (h:ZkH t0 w K):Cl prog 82 #[t0] w K:=
 ZML 5 [1] Tryz.func82 h
def Zmi (t0:Value) (w:World) (K:KV):Prop:=
 lnS t0 w λt9 w=>
 bi .gtr .i64 t9 (Iw 32) w λt10 w=>
 Zr t10
 (K (Iw 70) w)
 (ZlQ w λt11 w=>
 lnS t0 w λt13 w=>
 lp [(Iw 0)] w (b1 λt14 w g1=>
 bi .lss .i64 t14 t13 w λt15 w=>
 Zr t15
 (ixS 4 t0 t14 w λt16 w=>
 ldN 4 t16 w λt17 w=>
 al (Zl prog 48) 48 w λt5 w=>
 stN 4 t5 t17 w λ_ w=>
 fld 0 t5 w λt18 w=>
 ld1 t18 w λt19 w=>
 fld 1 t5 w λt20 w=>
 ld1 t20 w λt21 w=>
 bld (Zl prog 209) #[(0,1),(1,1)] [(0,t19),(1,t21)] w λt22 w=>
 al (Zl prog 209) 209 w λt6 w=>
 stN 2 t6 t22 w λ_ w=>
 ldN 2 t6 w λt24 w=>
 lkM prog 207 t11 t24 false w λt25 w=>
 gd t25 false (λk=>fld 0 t5 w k) w λt27 w=>
 gd t25 false (λk=>ld1 t27 w k) w λt28 w=>
 gd t25 false (λk=>Cl prog 109 #[t28,(Iw 8)] w k) w λt29 w=>
 gd t25 false (λk=>Zb3 t29 w k) w λt30 w=>
 pk t25 (Value.bool true) t30 w λt31 w=>
 gd t31 false (λk=>fld 2 t5 w k) w λt33 w=>
 gd t31 false (λk=>ld1 t33 w k) w λt34 w=>
 gd t31 false (λk=>Cl prog 109 #[t34,(Iw 8)] w k) w λt35 w=>
 gd t31 false (λk=>Zb3 t35 w k) w λt36 w=>
 pk t31 (Value.bool true) t36 w λt37 w=>
 gd t37 false (λk=>fld 1 t5 w k) w λt39 w=>
 gd t37 false (λk=>ld1 t39 w k) w λt40 w=>
 gd t37 false (λk=>Cl prog 109 #[t40,(Iw 16)] w k) w λt41 w=>
 gd t37 false (λk=>Zb3 t41 w k) w λt42 w=>
 pk t37 (Value.bool true) t42 w λt43 w=>
 gd t43 false (λk=>fld 3 t5 w k) w λt45 w=>
 gd t43 false (λk=>ld1 t45 w k) w λt46 w=>
 gd t43 false (λk=>lnS t46 w k) w λt47 w=>
 gd t43 false (λk=>bi .gtr .i64 t47 (Iw 3) w k) w λt48 w=>
 pk t43 (Value.bool true) t48 w λt49 w=>
 gd t49 false (λk=>fld 3 t5 w k) w λt51 w=>
 gd t49 false (λk=>ld1 t51 w k) w λt52 w=>
 gd t49 false (λk=>k (Value.func (.func 108) #[] #[]) w) w λt53 w=>
 gd t49 false (λk=>Cl prog 84 #[t52,t53] w k) w λt54 w=>
 pk t49 (Value.bool true) t54 w λt55 w=>
 Zr t55
 (K (Iw 70) w)
 (ldN 2 t6 w λt57 w=>
 upM prog 207 t11 t57 (Value.bool true) w λ_ w=>
 bi .add .i64 t14 (Iw 1) w λt58 w=>
 g1 [t58] w))
 (K (Iw 0) w)))
theorem ZjH (h:Zmi t0 w K):Cl prog 83 #[t0] w K:=
 ZML 59 [2] Tryz.func83 h
def ZaA (t0 t1:Value) (w:World) (K:KV):Prop:=
 Cl prog 110 #[t0,t1] w λt7 w=>
 bi .geq .i64 t7 (Iw 0) w λt8 w=>
 K t8 w
theorem Zbh (h:ZaA t0 t1 w K):Cl prog 84 #[t0,t1] w K:=
 ZML 9 [4] Tryz.func84 h
def ZcL (t0:Value) (w:World) (K:KV):Prop:=
 bO prog .eql 22 (Operand.tmp 3) (Operand.const (Value.slice none 0 0)) t0 (Value.slice none 0 0) w λt4 w=>
 Zr t4
 (K (Value.slice none 0 0) w)
 (bsl 3 1 0 #[] [] w λt5 w=>
 apS prog #[22,22] 22 t5 t0 w λt7 w=>
 K t7 w)
theorem Zdc (h:ZcL t0 w K):Cl prog 85 #[t0] w K:=
 ZML 8 [2] Tryz.func85 h
def Zbk (t0:Value) (w:World) (K:KV):Prop:=
 bO prog .eql 23 (Operand.tmp 3) (Operand.const (Value.slice none 0 0)) t0 (Value.slice none 0 0) w λt4 w=>
 Zr t4
 (K (Value.slice none 0 0) w)
 (bsl 46 7 0 #[] [] w λt5 w=>
 apS prog #[23,23] 23 t5 t0 w λt7 w=>
 K t7 w)
theorem Zb1 (h:Zbk t0 w K):Cl prog 86 #[t0] w K:=
 ZML 8 [2] Tryz.func86 h
def Zbm (t0:Value) (w:World) (K:KV):Prop:=
 bO prog .eql 44 (Operand.tmp 3) (Operand.const (Value.slice none 0 0)) t0 (Value.slice none 0 0) w λt4 w=>
 Zr t4
 (K (Value.slice none 0 0) w)
 (bsl 102 3 0 #[] [] w λt5 w=>
 apS prog #[44,44] 44 t5 t0 w λt7 w=>
 K t7 w)
theorem ZbZ (h:Zbm t0 w K):Cl prog 87 #[t0] w K:=
 ZML 8 [2] Tryz.func87 h
def Za3 (t0:Value) (w:World) (K:KV):Prop:=
 bO prog .eql 43 (Operand.tmp 3) (Operand.const (Value.slice none 0 0)) t0 (Value.slice none 0 0) w λt4 w=>
 Zr t4
 (K (Value.slice none 0 0) w)
 (bsl 48 4 0 #[] [] w λt5 w=>
 apS prog #[43,43] 43 t5 t0 w λt7 w=>
 K t7 w)
theorem ZbH (h:Za3 t0 w K):Cl prog 88 #[t0] w K:=
 ZML 8 [2] Tryz.func88 h
def ZnJ (t0 t1 t2 t3 t4:Value) (w:World) (K:KV):Prop:=
 al (Value.cells t4) 102 w λt9 w=>
 al (Zl prog 81) 81 w λt10 w=>
 dr w λw=>
 fld 1 t9 w λt12 _=>
 ld1 t12 w λt13 _=>
 fld 0 t9 w λt18 _=>
 ld1 t18 w λt19 _=>
 fld 2 t9 w λt22 _=>
 ld1 t22 w λt23 _=>
 Cl prog 111 #[t2,t13] w λt14 w=>
 (ld1 t22 w (λv' w''=>v'=t23∧w''=w))∧((ld1 t18 w (λv' w''=>v'=t19∧w''=w))∧((bld (Zl prog 79) #[(0,1),(1,1),(2,1)] [(0,t14),(1,t0),(2,t1)] w λt17 w=>
 (ld1 t22 w (λv' w''=>v'=t23∧w''=w))∧((ld1 t18 w (λv' w''=>v'=t19∧w''=w))∧(Cl prog 112 #[t3] w λt21 w=>
 (ld1 t22 w (λv' w''=>v'=t23∧w''=w))∧((ld1 t18 w (λv' w''=>v'=t19∧w''=w))∧(Cl prog 112 #[t23] w λt24 w=>
 (ld1 t18 w (λv' w''=>v'=t19∧w''=w))∧(bi .add .i64 t21 t24 w λt25 _=>
 Cl prog 112 #[t25] w λt26 w=>
 (ld1 t18 w (λv' w''=>v'=t19∧w''=w))∧(bld (Zl prog 81) #[(0,3),(3,1),(4,1),(5,1)] [(0,t17),(1,(Iw (-1))),(2,t19),(3,t26)] w λt27 w=>
 stN 6 t10 t27 w λ_ w=>
 ldN 6 t10 w λr0 _=>
 K r0 w)))))))∧(Cl prog 112 #[t3] w λt21_1 w=>
 (ld1 t22 w (λv' w''=>v'=t23∧w''=w))∧((ld1 t18 w (λv' w''=>v'=t19∧w''=w))∧((bld (Zl prog 79) #[(0,1),(1,1),(2,1)] [(0,t14),(1,t0),(2,t1)] w λt17_1 w=>
 (ld1 t22 w (λv' w''=>v'=t23∧w''=w))∧((ld1 t18 w (λv' w''=>v'=t19∧w''=w))∧(Cl prog 112 #[t23] w λt24_1 w=>
 (ld1 t18 w (λv' w''=>v'=t19∧w''=w))∧(bi .add .i64 t21_1 t24_1 w λt25_1 _=>
 Cl prog 112 #[t25_1] w λt26_1 w=>
 (ld1 t18 w (λv' w''=>v'=t19∧w''=w))∧(bld (Zl prog 81) #[(0,3),(3,1),(4,1),(5,1)] [(0,t17_1),(1,(Iw (-1))),(2,t19),(3,t26_1)] w λt27_1 w=>
 stN 6 t10 t27_1 w λ_ w=>
 ldN 6 t10 w λr0 _=>
 K r0 w)))))∧(Cl prog 112 #[t23] w λt24_2 w=>
 (ld1 t18 w (λv' w''=>v'=t19∧w''=w))∧(bi .add .i64 t21_1 t24_2 w λt25_2 _=>
 (bld (Zl prog 79) #[(0,1),(1,1),(2,1)] [(0,t14),(1,t0),(2,t1)] w λt17_2 w=>
 (ld1 t22 w (λv' w''=>v'=t23∧w''=w))∧((ld1 t18 w (λv' w''=>v'=t19∧w''=w))∧(Cl prog 112 #[t25_2] w λt26_2 w=>
 (ld1 t18 w (λv' w''=>v'=t19∧w''=w))∧(bld (Zl prog 81) #[(0,3),(3,1),(4,1),(5,1)] [(0,t17_2),(1,(Iw (-1))),(2,t19),(3,t26_2)] w λt27_2 w=>
 stN 6 t10 t27_2 w λ_ w=>
 ldN 6 t10 w λr0 _=>
 K r0 w))))∧(Cl prog 112 #[t25_2] w λt26_3 w=>
 (ld1 t18 w (λv' w''=>v'=t19∧w''=w))∧(bld (Zl prog 79) #[(0,1),(1,1),(2,1)] [(0,t14),(1,t0),(2,t1)] w λt17_3 w=>
 (ld1 t22 w (λv' w''=>v'=t23∧w''=w))∧((ld1 t18 w (λv' w''=>v'=t19∧w''=w))∧(bld (Zl prog 81) #[(0,3),(3,1),(4,1),(5,1)] [(0,t17_3),(1,(Iw (-1))),(2,t19),(3,t26_3)] w λt27_3 w=>
 stN 6 t10 t27_3 w λ_ w=>
 ldN 6 t10 w λr0 _=>
 K r0 w)))))))))))
theorem ZkY (h:ZnJ t0 t1 t2 t3 t4 w K):Cl prog 89 #[t0,t1,t2,t3,t4] w K:=
 ZMM 28 [(10,some 81)] Tryz.func89 h
def ZiO (t0 t1 t2:Value) (w:World) (K:KV):Prop:=
 al (Value.cells t0) 25 w λt3 w=>
 al (Value.cells t2) 3 w λt5 w=>
 fld 1 t3 w λt10 w=>
 ld1 t10 w λt11 w=>
 lnS t11 w λt12 w=>
 lp [(Value.slice none 0 0),(Iw 0)] w (b2 λt7 t13 w g1=>
 bi .lss .i64 t13 t12 w λt14 w=>
 Zr t14
 (J1 (λt7_1 w=>
 bi .add .i64 t13 (Iw 1) w λt31 w=>
 g1 [t7_1,t31] w) λk2=>
 ixS 7 t11 t13 w λt16 w=>
 ldN 7 t16 w λt17 w=>
 al (Zl prog 46) 46 w λt9 w=>
 stN 7 t9 t17 w λ_ w=>
 bi .neq .i64 t13 t1 w λt20 w=>
 gd t20 true (λk=>fld 5 t9 w k) w λt22 w=>
 gd t20 true (λk=>ld1 t22 w k) w λt23 w=>
 gd t20 true (λk=>k (Value.func (Fn.func 114) #[] #[t3,t5]) w) w λt24 w=>
 gd t20 true (λk=>Cl prog 113 #[t23,t24] w k) w λt25 w=>
 pk t20 t25 (Value.bool false) w λt26 w=>
 Zr t26
 (bsl 3 1 1 (Zl prog 3) [(0,t13)] w λt29 w=>
 apS prog #[22,22] 22 t7 t29 w λt30 w=>
 k2 t30 w)
 (k2 t7 w))
 (K t7 w))
theorem Zhu (h:ZiO t0 t1 t2 w K):Cl prog 90 #[t0,t1,t2] w K:=
 ZML 33 [6] Tryz.func90 h
def ZJG (t0:Value) (w:World) (K:KV):Prop:=
 lnS t0 w λt5 w=>
 bi .lss .i64 t5 (Iw 1) w λt6 w=>
 gd t6 false (λk=>k t0 w) w λt8 w=>
 gd t6 false (λk=>lnS t8 w k) w λt9 w=>
 gd t6 false (λk=>bi .gtr .i64 t9 (Iw 16) w k) w λt10 w=>
 pk t6 (Value.bool true) t10 w λt11 w=>
 Zr t11
 (K (Iw 50) w)
 (lp [(Iw 0)] w (b1 λt3 w g1=>
 lnS t0 w λt14 w=>
 bi .lss .i64 t3 t14 w λt15 w=>
 Zr t15
 (ixS 1 t0 t3 w λt20 w=>
 ld1 t20 w λt21 w=>
 bi .lss .i64 t21 (Iw (-1)) w λt22 w=>
 gd t22 false (λk=>k t0 w) w λt24 w=>
 gd t22 false (λk=>k t3 w) w λt25 w=>
 gd t22 false (λk=>ixS 1 t24 t25 w k) w λt26 w=>
 gd t22 false (λk=>ld1 t26 w k) w λt27 w=>
 gd t22 false (λk=>k t3 w) w λt28 w=>
 gd t22 false (λk=>bi .geq .i64 t27 t28 w k) w λt29 w=>
 pk t22 (Value.bool true) t29 w λt30 w=>
 Zr t30
 (K (Iw 50) w)
 (bi .add .i64 t3 (Iw 1) w λt17 w=>
 g1 [t17] w))
 (K (Iw 0) w)))
theorem ZJ0 (h:ZJG t0 w K):Cl prog 91 #[t0] w K:=
 ZML 31 [2] Tryz.func91 h
def ZJ7 (t0 t1:Value) (w:World) (K:KV):Prop:=
 al (Value.cells t0) 46 w λt2 w=>
 fld 0 t2 w λt10 w=>
 ld1 t10 w λt11 w=>
 bi .neq .i64 t11 (Iw 0) w λt12 w=>
 gd t12 true (λk=>fld 0 t2 w k) w λt14 w=>
 gd t12 true (λk=>ld1 t14 w k) w λt15 w=>
 gd t12 true (λk=>bi .neq .i64 t15 (Iw 1) w k) w λt16 w=>
 pk t12 t16 (Value.bool false) w λt17 w=>
 Zr t17
 (K (Iw 1) w)
 (fld 1 t2 w λt18 w=>
 ld1 t18 w λt19 w=>
 bi .lss .i64 t19 (Iw 1) w λt20 w=>
 gd t20 false (λk=>fld 1 t2 w k) w λt22 w=>
 gd t20 false (λk=>ld1 t22 w k) w λt23 w=>
 gd t20 false (λk=>bi .gtr .i64 t23 (Iw 1048576) w k) w λt24 w=>
 pk t20 (Value.bool true) t24 w λt25 w=>
 Zr t25
 (K (Iw 80) w)
 (fld 2 t2 w λt26 w=>
 ld1 t26 w λt27 w=>
 bi .lss .i64 t27 (Iw 0) w λt28 w=>
 gd t28 false (λk=>fld 2 t2 w k) w λt30 w=>
 gd t28 false (λk=>ld1 t30 w k) w λt31 w=>
 gd t28 false (λk=>bi .geq .i64 t31 (Iw 8) w k) w λt32 w=>
 pk t28 (Value.bool true) t32 w λt33 w=>
 gd t33 false (λk=>fld 3 t2 w k) w λt35 w=>
 gd t33 false (λk=>ld1 t35 w k) w λt36 w=>
 gd t33 false (λk=>Cl prog 116 #[t36] w k) w λt37 w=>
 gd t33 false (λk=>bi .neq .i64 t37 (Iw 0) w k) w λt38 w=>
 pk t33 (Value.bool true) t38 w λt39 w=>
 Zr t39
 (K (Iw 70) w)
 (fld 4 t2 w λt40 w=>
 ld1 t40 w λt41 w=>
 Cl prog 117 #[t41,t1] w λt43 w=>
 Zb3 t43 w λt44 w=>
 gd t44 false (λk=>fld 5 t2 w k) w λt46 w=>
 gd t44 false (λk=>ld1 t46 w k) w λt47 w=>
 gd t44 false (λk=>k t1 w) w λt48 w=>
 gd t44 false (λk=>Cl prog 117 #[t47,t48] w k) w λt49 w=>
 gd t44 false (λk=>Zb3 t49 w k) w λt50 w=>
 pk t44 (Value.bool true) t50 w λt51 w=>
 Zr t51
 (K (Iw 81) w)
 (lp [(Iw 0)] w (b1 λt5 w g1=>
 fld 3 t2 w λt53 w=>
 ld1 t53 w λt54 w=>
 lnS t54 w λt55 w=>
 bi .lss .i64 t5 t55 w λt56 w=>
 Zr t56
 (fld 3 t2 w λt59 w=>
 ld1 t59 w λt60 w=>
 ixS 4 t60 t5 w λt62 w=>
 fld 1 t62 w λt63 w=>
 ld1 t63 w λt64 w=>
 bi .geq .i64 t64 t1 w λt66 w=>
 Zr t66
 (K (Iw 81) w)
 (lp [(Iw 0)] w (b1 λt6 w g2=>
 fld 3 t2 w λt68 w=>
 ld1 t68 w λt69 w=>
 ixS 4 t69 t5 w λt71 w=>
 fld 3 t71 w λt72 w=>
 ld1 t72 w λt73 w=>
 lnS t73 w λt74 w=>
 bi .lss .i64 t6 t74 w λt75 w=>
 Zr t75
 (fld 3 t2 w λt78 w=>
 ld1 t78 w λt79 w=>
 ixS 4 t79 t5 w λt81 w=>
 fld 3 t81 w λt82 w=>
 ld1 t82 w λt83 w=>
 ixS 3 t83 t6 w λt85 w=>
 ldN 3 t85 w λt86 w=>
 al (Zl prog 102) 102 w λt7 w=>
 stN 3 t7 t86 w λ_ w=>
 fld 4 t2 w λt87 w=>
 ld1 t87 w λt88 w=>
 fld 0 t7 w λt89 w=>
 ld1 t89 w λt90 w=>
 Cl prog 118 #[t88,t90] w λt91 w=>
 Zb3 t91 w λt92 w=>
 Zr t92
 (K (Iw 81) w)
 (fld 1 t7 w λt93 w=>
 ld1 t93 w λt94 w=>
 fld 1 t2 w λt95 w=>
 ld1 t95 w λt96 w=>
 bi .lss .i64 t94 t96 w λt97 w=>
 Zr t97
 (K (Iw 80) w)
 (bi .add .i64 t6 (Iw 1) w λt77 w=>
 g2 [t77] w)))
 (bi .add .i64 t5 (Iw 1) w λt58 w=>
 g1 [t58] w))))
 (fld 6 t2 w λt98 w=>
 ld1 t98 w λt99 w=>
 lnS t99 w λt100 w=>
 bi .gtr .i64 t100 (Iw 4) w λt101 w=>
 Zr t101
 (K (Iw 82) w)
 (lp [(Iw 0)] w (b1 λt8 w g3=>
 fld 6 t2 w λt103 w=>
 ld1 t103 w λt104 w=>
 lnS t104 w λt105 w=>
 bi .lss .i64 t8 t105 w λt106 w=>
 Zr t106
 (fld 6 t2 w λt109 w=>
 ld1 t109 w λt110 w=>
 ixS 3 t110 t8 w λt112 w=>
 ldN 3 t112 w λt113 w=>
 al (Zl prog 102) 102 w λt9 w=>
 stN 3 t9 t113 w λ_ w=>
 fld 4 t2 w λt114 w=>
 ld1 t114 w λt115 w=>
 fld 0 t9 w λt116 w=>
 ld1 t116 w λt117 w=>
 Cl prog 118 #[t115,t117] w λt118 w=>
 Zb3 t118 w λt119 w=>
 gd t119 false (λk=>fld 1 t9 w k) w λt121 w=>
 gd t119 false (λk=>ld1 t121 w k) w λt122 w=>
 gd t119 false (λk=>bi .lss .i64 t122 (Iw 0) w k) w λt123 w=>
 pk t119 (Value.bool true) t123 w λt124 w=>
 gd t124 false (λk=>fld 1 t9 w k) w λt126 w=>
 gd t124 false (λk=>ld1 t126 w k) w λt127 w=>
 gd t124 false (λk=>bi .gtr .i64 t127 (Iw 1099511627776) w k) w λt128 w=>
 pk t124 (Value.bool true) t128 w λt129 w=>
 gd t129 false (λk=>fld 2 t9 w k) w λt131 w=>
 gd t129 false (λk=>ld1 t131 w k) w λt132 w=>
 gd t129 false (λk=>bi .lss .i64 t132 (Iw 0) w k) w λt133 w=>
 pk t129 (Value.bool true) t133 w λt134 w=>
 gd t134 false (λk=>fld 2 t9 w k) w λt136 w=>
 gd t134 false (λk=>ld1 t136 w k) w λt137 w=>
 gd t134 false (λk=>bi .geq .i64 t137 (Iw 1000) w k) w λt138 w=>
 pk t134 (Value.bool true) t138 w λt139 w=>
 Zr t139
 (K (Iw 82) w)
 (bi .add .i64 t8 (Iw 1) w λt108 w=>
 g3 [t108] w))
 (K (Iw 0) w)))))))))
theorem ZKl (h:ZJ7 t0 t1 w K):Cl prog 92 #[t0,t1] w K:=
 ZML 140 [4] Tryz.func92 h
def ZJI (t0 t1:Value) (w:World) (K:KV):Prop:=
 al (Value.cells t0) 81 w λt2 w=>
 al (Value.cells t1) 81 w λt3 w=>
 fld 0 t2 w λt6 w=>
 ldN 3 t6 w λt7 w=>
 fld 0 t3 w λt8 w=>
 ldN 3 t8 w λt9 w=>
 Cl prog 119 #[t7,t9] w λt10 w=>
 bi .lss .i64 t10 (Iw 0) w λt12 w=>
 gd t12 false (λk=>k t10 w) w λt14 w=>
 gd t12 false (λk=>bi .eql .i64 t14 (Iw 0) w k) w λt15 w=>
 gd t12 false (λk=>k t15 w) w λt16 w=>
 gd t16 true (λk=>fld 3 t2 w k) w λt17 w=>
 gd t16 true (λk=>ld1 t17 w k) w λt18 w=>
 gd t16 true (λk=>fld 3 t3 w k) w λt19 w=>
 gd t16 true (λk=>ld1 t19 w k) w λt20 w=>
 gd t16 true (λk=>bi .lss .i64 t18 t20 w k) w λt21 w=>
 gd t12 false (λk=>pk t16 t21 (Value.bool false) w k) w λt22 w=>
 pk t12 (Value.bool true) t22 w λt23 w=>
 K t23 w
theorem ZJ2 (h:ZJI t0 t1 w K):Cl prog 93 #[t0,t1] w K:=
 ZML 24 [4] Tryz.func93 h
def ZJA (t0 t1 t2 t3 t4 t5:Value) (w:World) (K:KV):Prop:=
 al (Value.cells t0) 25 w λt6 w=>
 bsl 81 6 0 #[] [] w λt18 w=>
 lp [t18,(Iw 0)] w (b2 λt13 t14 w g1=>
 lnS t5 w λt21 w=>
 bi .lss .i64 t14 t21 w λt22 w=>
 Zr t22
 (bi .add .i64 t2 t14 w λt28 w=>
 ixS 3 t5 t14 w λt33 w=>
 ldN 3 t33 w λt34 w=>
 Cl prog 120 #[t1,t28,t3,t4,t34] w λt35 w=>
 al (Zl prog 81) 81 w λt15 w=>
 stN 6 t15 t35 w λ_ w=>
 ldN 3 t6 w λt36 w=>
 fld 4 t15 w λt38 w=>
 ld1 t38 w λt39 w=>
 Cl prog 121 #[t36,t1,t39] w λt40 w=>
 lp [t13,(Iw 0)] w (b2 λt13_1 t17 w g2=>
 lnS t40 w λt43 w=>
 bi .lss .i64 t17 t43 w λt44 w=>
 Zr t44
 (ixS 1 t40 t17 w λt49 w=>
 ld1 t49 w λt50 w=>
 fld 3 t15 w λt51 w=>
 stN 1 t51 t50 w λ_ w=>
 ldN 6 t15 w λt53 w=>
 bsl 81 6 1 (Zl prog 81) [(0,t53)] w λt54 w=>
 apS prog #[76,76] 76 t13_1 t54 w λt55 w=>
 bi .add .i64 t17 (Iw 1) w λt46 w=>
 g2 [t55,t46] w)
 (bi .add .i64 t14 (Iw 1) w λt24 w=>
 g1 [t13_1,t24] w)))
 (K t13 w))
theorem ZJP (h:ZJA t0 t1 t2 t3 t4 t5 w K):Cl prog 94 #[t0,t1,t2,t3,t4,t5] w K:=
 ZML 57 [12] Tryz.func94 h
def ZJT (t0 t1 t2:Value) (w:World) (K:KV):Prop:=
 Cl prog 122 #[t0,t1,t2] w λt13 w=>
 bi .lss .i64 t13 (Iw 0) w λt15 w=>
 Zr t15
 (K (Value.tuple #[t1,(Value.slice none 0 0)]) w)
 (bsl 102 3 0 #[] [] w λt17 w=>
 dr w λw=>
 ixS 4 t0 t13 w λt20 _=>
 fld 2 t20 w λt21 _=>
 ld1 t21 w λt22 _=>
 ixS 4 t0 t13 w λt26 _=>
 fld 3 t26 w λt27 _=>
 ld1 t27 w λt28 _=>
 apS prog #[44,44] 44 t17 t28 w λt29 w=>
 (ld1 t21 w (λv' w''=>v'=t22∧w''=w))∧(K (Value.tuple #[t22,t29]) w))
theorem ZKd (h:ZJT t0 t1 t2 w K):Cl prog 95 #[t0,t1,t2] w K:=
 ZML 30 [6,7] Tryz.func95 h
def ZhG (t0 t1 t2:Value) (w:World) (K:KV):Prop:=
 bi .lss .i64 t1 (Iw 0) w λt8 w=>
 gd t8 false (λk=>k t2 w) w λt10 w=>
 gd t8 false (λk=>bi .lss .i64 t10 (Iw 0) w k) w λt11 w=>
 pk t8 (Value.bool true) t11 w λt12 w=>
 gd t12 false (λk=>k t1 w) w λt14 w=>
 gd t12 false (λk=>k t0 w) w λt15 w=>
 gd t12 false (λk=>nc t15 w k) w λt16 w=>
 gd t12 false (λk=>fld 0 t16 w k) w λt17 w=>
 gd t12 false (λk=>ld1 t17 w k) w λt18 w=>
 gd t12 false (λk=>bi .geq .i64 t14 t18 w k) w λt19 w=>
 pk t12 (Value.bool true) t19 w λt20 w=>
 gd t20 false (λk=>k t2 w) w λt22 w=>
 gd t20 false (λk=>k t0 w) w λt23 w=>
 gd t20 false (λk=>nc t23 w k) w λt24 w=>
 gd t20 false (λk=>fld 0 t24 w k) w λt25 w=>
 gd t20 false (λk=>ld1 t25 w k) w λt26 w=>
 gd t20 false (λk=>bi .geq .i64 t22 t26 w k) w λt27 w=>
 pk t20 (Value.bool true) t27 w λt28 w=>
 gd t28 false (λk=>k t1 w) w λt30 w=>
 gd t28 false (λk=>k t2 w) w λt31 w=>
 gd t28 false (λk=>bi .eql .i64 t30 t31 w k) w λt32 w=>
 pk t28 (Value.bool true) t32 w λt33 w=>
 Zr t33
 (K (Value.pointer none) w)
 (ncP t0<|
 fld 2 t0 w λt38 w=>
 ixA 8 1040 t38 t1 w λt39 w=>
 ixA 8 130 t39 t2 w λt40 w=>
 K t40 w)
theorem Zd1 (h:ZhG t0 t1 t2 w K):Cl prog 96 #[t0,t1,t2] w K:=
 ZML 41 [6] Tryz.func96 h
def ZmB (t0:Value) (w:World) (K:KV):Prop:=
 bi .eql .i64 t0 (Iw 1125899906842624) w λt4 w=>
 gd t4 false (λk=>k t0 w) w λt6 w=>
 gd t4 false (λk=>cvI .u64 t6 w k) w λt7 w=>
 gd t4 false (λk=>bi .leq .u64 t7 (Value.int IntKind.u64 1099511627776) w k) w λt8 w=>
 pk t4 (Value.bool true) t8 w λt9 w=>
 K t9 w
theorem Zka (h:ZmB t0 w K):Cl prog 97 #[t0] w K:=
 ZML 10 [2] Tryz.func97 h
def Zg2 (t0 t1:Value) (w:World) (K:KV):Prop:=
 Cl prog 65 #[t0,t1] w λt7 w=>
 Zb3 t7 w λt8 w=>
 Zr t8
 (K (Iw (-1)) w)
 (ncP t0<|
 fld 3 t0 w λt12 w=>
 ixA 8 2 t12 t1 w λt13 w=>
 fld 0 t13 w λt14 w=>
 ld1 t14 w λt15 w=>
 bO prog .and 3 (Operand.tmp 15) (Operand.const (Iw 1)) t15 (Iw 1) w λt16 w=>
 K t16 w)
theorem ZgH (h:Zg2 t0 t1 w K):Cl prog 98 #[t0,t1] w K:=
 ZML 17 [4] Tryz.func98 h
def ZcE (t0:Value) (w:World) (K:KV):Prop:=
 al (Zl prog 81) 81 w λt2 w=>
 ncP t0<|
 fld 1 t0 w λt6 w=>
 ld1 t6 w λt7 w=>
 lnS t7 w λt8 w=>
 bi .eql .i64 t8 (Iw 0) w λt9 w=>
 Zr t9
 (bld (Zl prog 81) #[(0,3),(3,1),(4,1),(5,1)] [] w λt10 w=>
 stN 6 t2 t10 w λ_ w=>
 ldN 6 t2 w λr0 _=>
 K (Value.tuple #[r0,(Value.bool false)]) w)
 (ncP t0<|
 fld 1 t0 w λt13 w=>
 ld1 t13 w λt14 w=>
 ixS 6 t14 (Iw 0) w λt15 w=>
 ldN 6 t15 w λt16 w=>
 stN 6 t2 t16 w λ_ w=>
 ldN 6 t2 w λr0 _=>
 K (Value.tuple #[r0,(Value.bool true)]) w)
theorem Zcm (h:ZcE t0 w K):Cl prog 99 #[t0] w K:=
 ZMM 17 [(2,some 81),(3,none)] Tryz.func99 h
def ZlT (t0 t1:Value) (w:World) (K:KV):Prop:=
 dr w λw=>
 ncP t0<|
 fld 3 t0 w λt9 _=>
 ncP t0<|
 fld 0 t0 w λt12 _=>
 ld1 t12 w λt13 _=>
 slA prog 139 t9 none (some t13) w λt14 w=>
 lnS t14 w λt15 _=>
 lp [(Iw 0)] w (b1 λt16 w g1=>
 bi .lss .i64 t16 t15 w λt17 w=>
 Zr t17
 (ixS 2 t14 t16 w λt18 w=>
 ldN 2 t18 w λt19 w=>
 al (Zl prog 138) 138 w λt6 w=>
 stN 2 t6 t19 w λ_ w=>
 dr w λw=>
 ldN 2 t6 w λt21 _=>
 ncP t0<|
 fld 1 t0 w λt24 _=>
 ld1 t24 w λt25 _=>
 clV prog t1 #[t21,t25] w λt26 w=>
 Zb3 t26 w λt27 _=>
 Zr t27
 (K (Value.bool false) w)
 (bi .add .i64 t16 (Iw 1) w λt28 w=>
 g1 [t28] w))
 (K (Value.bool true) w))
theorem Zkg (h:ZlT t0 t1 w K):Cl prog 100 #[t0,t1] w K:=
 ZML 29 [4] Tryz.func100 h
def ZeB (t0 t1:Value) (w:World) (K:KV):Prop:=
 al (Value.cells t0) 138 w λt2 w=>
 fld 1 t2 w λt5 w=>
 ld1 t5 w λt6 w=>
 bi .eql .i64 t6 t1 w λt8 w=>
 K t8 w
theorem Ze6 (h:ZeB t0 t1 w K):Cl prog 101 #[t0,t1] w K:=
 ZML 9 [4] Tryz.func101 h
def Zl0 (t0:Value) (w:World) (K:KV):Prop:=
 bi .lss .i64 t0 (Iw 0) w λt5 w=>
 Zr t5
 (K (Iw 0) w)
 (bi .gtr .i64 t0 (Iw 1099511627776) w λt8 w=>
 Zr t8
 (K (Iw 1125899906842624) w)
 (K t0 w))
theorem ZjL (h:Zl0 t0 w K):Cl prog 102 #[t0] w K:=
 ZML 10 [2] Tryz.func102 h
def ZfT (t0:Value) (w:World) (K:KV):Prop:=
 ncP t0<|
 fld 0 t0 w λt5 w=>
 ld1 t5 w λt6 w=>
 K t6 w
theorem ZfC (h:ZfT t0 w K):Cl prog 103 #[t0] w K:=
 ZML 7 [2] Tryz.func103 h
def Zey (t0 t1:Value) (w:World) (K:KV):Prop:=
 bld (Zl prog 79) #[(0,1),(1,1),(2,1)] [(0,t1)] w λt9 w=>
 Cl prog 123 #[t0,(Value.func (.func 124) #[] #[]),t9] w λt10 w=>
 ncP t0<|
 fld 1 t0 w λt13 w=>
 ld1 t13 w λt14 w=>
 slc 10 t14 none (some t10) w λt16 w=>
 Cl prog 125 #[t16] w λt17 w=>
 ncP t0<|
 fld 1 t0 w λt21 w=>
 ld1 t21 w λt22 w=>
 slc 10 t22 (some t10) none w λt24 w=>
 Cl prog 125 #[t24] w λt25 w=>
 ncP t0<|
 fld 1 t0 w λt27 w=>
 stN 1 t27 t25 w λ_ w=>
 ncP t0<|
 fld 0 t0 w λt31 w=>
 ld1 t31 w λt32 w=>
 mxI .i64 t32 t1 w λt34 w=>
 ncP t0<|
 fld 0 t0 w λt36 w=>
 stN 1 t36 t34 w λ_ w=>
 K t17 w
theorem Ze3 (h:Zey t0 t1 w K):Cl prog 104 #[t0,t1] w K:=
 ZML 38 [4] Tryz.func104 h
def Zhk (t0 t1:Value) (w:World) (K:KV):Prop:=
 al (Value.cells t1) 3 w λt3 w=>
 Cl prog 126 #[t0,(Value.func (Fn.func 127) #[] #[t3])] w λt8 w=>
 Cl prog 128 #[t8,(Value.func (.func 129) #[] #[])] w λ_ w=>
 dr w λw=>
 ncP t0<|
 fld 0 t0 w λt14 _=>
 ld1 t14 w λt15 _=>
 ld1 t3 w λt16 _=>
 mxI .i64 t15 t16 w λt17 w=>
 ncP t0<|
 fld 0 t0 w λt19 _=>
 stN 1 t19 t17 w λ_ w=>
 Cl prog 131 #[t8] w λt21 w=>
 K t21 w
theorem ZgO (h:Zhk t0 t1 w K):Cl prog 105 #[t0,t1] w K:=
 ZML 22 [4] Tryz.func105 h
def ZeK (t0 t1:Value) (w:World) (K:KV):Prop:=
 ld1 t1 w λt8 w=>
 ncP t8<|
 fld 0 t8 w λt10 w=>
 ld1 t10 w λt11 w=>
 lp [(Iw 0),(Iw 0)] w (b2 λt3 t12 w g1=>
 bi .lss .i64 t12 t11 w λt13 w=>
 Zr t13
 (ld1 t1 w λt15 w=>
 ncP t15<|
 fld 0 t15 w λt17 w=>
 ld1 t17 w λt18 w=>
 lp [t3,(Iw 0)] w (b2 λt3_1 t19 w g2=>
 bi .lss .i64 t19 t18 w λt20 w=>
 Zr t20
 (ld1 t1 w λt22 w=>
 ncP t22<|
 fld 2 t22 w λt26 w=>
 ixA 8 1040 t26 t12 w λt27 w=>
 ixA 8 130 t27 t19 w λt28 w=>
 ncP t28<|
 fld 129 t28 w λt31 w=>
 ld1 t31 w λt32 w=>
 lp [t3_1,(Iw 0)] w (b2 λt3_2 t33 w g3=>
 bi .lss .i64 t33 t32 w λt34 w=>
 Zr t34
 (dr w λw=>
 ncP t28<|
 fld 128 t28 w λt41 _=>
 ld1 t41 w λt42 _=>
 bi .add .i64 t42 t33 w λt44 _=>
 bi .rem .i64 t44 (Iw 16) w λt45 _=>
 ncP t28<|
 fld 0 t28 w λt47 _=>
 ixA 16 8 t47 t45 w λt48 _=>
 ldN 8 t48 w λt49 _=>
 clV prog t0 #[t3_2,t49] w λt50 w=>
 Zb3 t50 w λt51 _=>
 Zr t51
 (K (Value.tuple #[]) w)
 (bi .add .i64 t3_2 (Iw 1) w λt53 w=>
 bi .add .i64 t33 (Iw 1) w λt54 w=>
 g3 [t53,t54] w))
 (bi .add .i64 t19 (Iw 1) w λt55 w=>
 g2 [t3_2,t55] w)))
 (bi .add .i64 t12 (Iw 1) w λt56 w=>
 g1 [t3_1,t56] w)))
 (K (Value.tuple #[]) w))
theorem Ze5 (h:ZeK t0 t1 w K):Cl prog 106 #[t0,t1] w K:=
 ZML 57 [] Tryz.func106 h
def ZcG (t0 t1:Value) (w:World) (K:KV):Prop:=
 lnS t0 w λt7 w=>
 lp [(Iw 0)] w (b1 λt8 w g1=>
 bi .lss .i64 t8 t7 w λt9 w=>
 Zr t9
 (ixS 1 t0 t8 w λt14 w=>
 ld1 t14 w λt15 w=>
 bi .eql .i64 t1 t15 w λt16 w=>
 Zr t16
 (K t8 w)
 (bi .add .i64 t8 (Iw 1) w λt18 w=>
 g1 [t18] w))
 (K (Iw (-1)) w))
theorem Zdb (h:ZcG t0 t1 w K):Cl prog 107 #[t0,t1] w K:=
 ZML 19 [4] Tryz.func107 h
def Zix (t0:Value) (w:World) (K:KV):Prop:=
 al (Value.cells t0) 102 w λt1 w=>
 fld 0 t1 w λt3 w=>
 ld1 t3 w λt4 w=>
 Cl prog 109 #[t4,(Iw 16)] w λt5 w=>
 Zb3 t5 w λt6 w=>
 gd t6 false (λk=>fld 1 t1 w k) w λt8 w=>
 gd t6 false (λk=>ld1 t8 w k) w λt9 w=>
 gd t6 false (λk=>Cl prog 109 #[t9,(Iw 1048577)] w k) w λt10 w=>
 gd t6 false (λk=>Zb3 t10 w k) w λt11 w=>
 pk t6 (Value.bool true) t11 w λt12 w=>
 gd t12 false (λk=>fld 2 t1 w k) w λt14 w=>
 gd t12 false (λk=>ld1 t14 w k) w λt15 w=>
 gd t12 false (λk=>Cl prog 109 #[t15,(Iw 1000)] w k) w λt16 w=>
 gd t12 false (λk=>Zb3 t16 w k) w λt17 w=>
 pk t12 (Value.bool true) t17 w λt18 w=>
 K t18 w
theorem Zh0 (h:Zix t0 w K):Cl prog 108 #[t0] w K:=
 ZML 19 [2] Tryz.func108 h
def ZmF (t0 t1:Value) (w:World) (K:KV):Prop:=
 cvI .u64 t0 w λt6 w=>
 cvI .u64 t1 w λt8 w=>
 bi .lss .u64 t6 t8 w λt9 w=>
 K t9 w
theorem Zj0 (h:ZmF t0 t1 w K):Cl prog 109 #[t0,t1] w K:=
 ZML 10 [4] Tryz.func109 h
def ZaQ (t0 t1:Value) (w:World) (K:KV):Prop:=
 lnS t0 w λt7 w=>
 lp [(Iw 0)] w (b1 λt8 w g1=>
 bi .lss .i64 t8 t7 w λt9 w=>
 Zr t9
 (ixS 3 t0 t8 w λt14 w=>
 ldN 3 t14 w λt15 w=>
 clV prog t1 #[t15] w λt16 w=>
 Zr t16
 (K t8 w)
 (bi .add .i64 t8 (Iw 1) w λt18 w=>
 g1 [t18] w))
 (K (Iw (-1)) w))
theorem ZbB (h:ZaQ t0 t1 w K):Cl prog 110 #[t0,t1] w K:=
 ZML 19 [4] Tryz.func110 h
def Zqb (t0 t1:Value) (w:World) (K:KV):Prop:=
 Cl prog 102 #[t0] w λt6 w=>
 Cl prog 102 #[t1] w λt8 w=>
 bi .add .i64 t6 t8 w λt9 w=>
 Cl prog 102 #[t9] w λt10 w=>
 K t10 w
theorem Zms (h:Zqb t0 t1 w K):Cl prog 111 #[t0,t1] w K:=
 ZML 11 [4] Tryz.func111 h
def ZkS (t0:Value) (w:World) (K:KV):Prop:=
 bi .rem .i64 t0 (Iw 1000) w λt4 w=>
 bi .lss .i64 t4 (Iw 0) w λt6 w=>
 J1 (λt0_1 w=>
 K t0_1 w) λk1=>
 Zr t6
 (bi .add .i64 t4 (Iw 1000) w λt8 w=>
 k1 t8 w)
 (k1 t4 w)
theorem Zjc (h:ZkS t0 w K):Cl prog 112 #[t0] w K:=
 ZML 10 [2] Tryz.func112 h
def Zbq (t0 t1:Value) (w:World) (K:KV):Prop:=
 Cl prog 132 #[t0,t1] w λt7 w=>
 bi .geq .i64 t7 (Iw 0) w λt8 w=>
 K t8 w
theorem Zcf (h:Zbq t0 t1 w K):Cl prog 113 #[t0,t1] w K:=
 ZML 9 [4] Tryz.func113 h
def ZfM (t0 t1 t2:Value) (w:World) (K:KV):Prop:=
 fld 0 t1 w λt5 w=>
 ld1 t5 w λt6 w=>
 ld1 t2 w λt7 w=>
 Cl prog 115 #[t6,t7,t0] w λt9 w=>
 K t9 w
theorem ZfE (h:ZfM t0 t1 t2 w K):Cl prog 114 #[t0,t1,t2] w K:=
 ZML 10 [4] Tryz.func114 h
def Zsj (t0 t1 t2:Value) (w:World) (K:KV):Prop:=
 al (Value.cells t2) 3 w λt5 w=>
 al (Zl prog 4) 4 w λt6 w=>
 Cl prog 133 #[t0,t1] w λt10 w=>
 ZFR prog t10 1 (λl a w k=>
 bgn l w λw=>
 ld1 t5 w λt13 w=>
 bi .eql .i64 (a 0) t13 w λt14 w=>
 Zr t14
 (stN 1 t6 (Value.bool true) w λ_ w=>
 edr l w λw=>k (.bool false) w)
 (edn l w λw=>k (.bool true) w)) w
 (λD w=>
 stN 1 t6 (Value.bool false) w λ_ w=>
 Zz7 D w λw=>
 ld1 t6 w λr0 _=>
 K r0 w)
 (λD w=>
 Zz7 D w λw=>
 ld1 t6 w λr0 _=>
 K r0 w)
theorem Zm4 (h:Zsj t0 t1 t2 w K):Cl prog 115 #[t0,t1,t2] w K:=
 Cl.mk (by kernel_rfl) (Zlq (fn:=Tryz.f115) (nt:=15) (rs:=[(6,some 4)]) Zm Tryz.func115 (by kernel_rfl) (by kernel_rfl) (Nat.le_of_ble_eq_true (by kernel_rfl)) (by kernel_rfl) (by kernel_rfl) h)
def ZJH (t0:Value) (w:World) (K:KV):Prop:=
 lnS t0 w λt5 w=>
 bi .gtr .i64 t5 (Iw 32) w λt6 w=>
 Zr t6
 (K (Iw 70) w)
 (lp [(Iw 0)] w (b1 λt3 w g1=>
 lnS t0 w λt9 w=>
 bi .lss .i64 t3 t9 w λt10 w=>
 Zr t10
 (dr w λw=>
 ixS 4 t0 t3 w λt15 _=>
 ldN 4 t15 w λt16 _=>
 Cl prog 134 #[t16] w λt17 w=>
 Zb3 t17 w λt18 _=>
 gd t18 false (λk=>k t0 w) w λt20 _=>
 gd t18 false (λk=>k t0 w) w λt21 _=>
 gd t18 false (λk=>k t3 w) w λt22 _=>
 gd t18 false (λk=>ixS 4 t21 t22 w k) w λt23 _=>
 gd t18 false (λk=>fld 0 t23 w k) w λt24 _=>
 gd t18 false (λk=>ld1 t24 w k) w λt25 _=>
 gd t18 false (λk=>k t0 w) w λt26 _=>
 gd t18 false (λk=>k t3 w) w λt27 _=>
 gd t18 false (λk=>ixS 4 t26 t27 w k) w λt28 _=>
 gd t18 false (λk=>fld 1 t28 w k) w λt29 _=>
 gd t18 false (λk=>ld1 t29 w k) w λt30 _=>
 gd t18 false (λk=>k t3 w) w λt32 _=>
 gd t18 false (λk=>Cl prog 122 #[t20,t25,t30] w k) w λt31 w=>
 gd t18 false (λk=>bi .neq .i64 t31 t32 w k) w λt33 _=>
 pk t18 (Value.bool true) t33 w λt34 _=>
 Zr t34
 (K (Iw 70) w)
 (bi .add .i64 t3 (Iw 1) w λt12 w=>
 g1 [t12] w))
 (K (Iw 0) w)))
theorem ZJZ (h:ZJH t0 w K):Cl prog 116 #[t0] w K:=
 ZML 35 [2] Tryz.func116 h
def ZJu (t0 t1:Value) (w:World) (K:KV):Prop:=
 lp [(Iw 0)] w (b1 λt5 w g1=>
 lnS t0 w λt8 w=>
 bi .lss .i64 t5 t8 w λt9 w=>
 Zr t9
 (dr w λw=>
 ixS 1 t0 t5 w λt14 _=>
 ld1 t14 w λt15 _=>
 bi .lss .i64 t15 (Iw 0) w λt16 _=>
 gd t16 false (λk=>k t0 w) w λt18 _=>
 gd t16 false (λk=>k t5 w) w λt19 _=>
 gd t16 false (λk=>ixS 1 t18 t19 w k) w λt20 _=>
 gd t16 false (λk=>ld1 t20 w k) w λt21 _=>
 gd t16 false (λk=>k t1 w) w λt22 _=>
 gd t16 false (λk=>bi .geq .i64 t21 t22 w k) w λt23 _=>
 pk t16 (Value.bool true) t23 w λt24 _=>
 gd t24 false (λk=>k t5 w) w λt26 _=>
 gd t24 false (λk=>bi .gtr .i64 t26 (Iw 0) w k) w λt27 _=>
 gd t24 false (λk=>k t27 w) w λt28 _=>
 gd t28 true (λk=>k t0 w) w λt29 _=>
 gd t28 true (λk=>k t5 w) w λt30 _=>
 gd t28 true (λk=>ixS 1 t29 t30 w k) w λt31 _=>
 gd t28 true (λk=>ld1 t31 w k) w λt32 _=>
 gd t28 true (λk=>k t0 w) w λt33 _=>
 gd t28 true (λk=>k t5 w) w λt34 _=>
 gd t28 true (λk=>bi .sub .i64 t34 (Iw 1) w k) w λt35 _=>
 gd t28 true (λk=>ixS 1 t33 t35 w k) w λt36 _=>
 gd t28 true (λk=>ld1 t36 w k) w λt37 _=>
 gd t28 true (λk=>bi .leq .i64 t32 t37 w k) w λt38 _=>
 gd t24 false (λk=>pk t28 t38 (Value.bool false) w k) w λt39 _=>
 pk t24 (Value.bool true) t39 w λt40 _=>
 Zr t40
 (K (Value.bool false) w)
 (bi .add .i64 t5 (Iw 1) w λt11 w=>
 g1 [t11] w))
 (K (Value.bool true) w))
theorem ZJK (h:ZJu t0 t1 w K):Cl prog 117 #[t0,t1] w K:=
 ZML 41 [4] Tryz.func117 h
def ZKe (t0 t1:Value) (w:World) (K:KV):Prop:=
 lp [(Iw 0)] w (b1 λt5 w g1=>
 lnS t0 w λt8 w=>
 bi .lss .i64 t5 t8 w λt9 w=>
 Zr t9
 (ixS 1 t0 t5 w λt14 w=>
 ld1 t14 w λt15 w=>
 bi .eql .i64 t15 t1 w λt17 w=>
 Zr t17
 (K (Value.bool true) w)
 (bi .add .i64 t5 (Iw 1) w λt11 w=>
 g1 [t11] w))
 (K (Value.bool false) w))
theorem ZKf (h:ZKe t0 t1 w K):Cl prog 118 #[t0,t1] w K:=
 ZML 18 [4] Tryz.func118 h
def ZKa (t0 t1:Value) (w:World) (K:KV):Prop:=
 al (Value.cells t0) 79 w λt2 w=>
 al (Value.cells t1) 79 w λt3 w=>
 ldN 3 t2 w λt5 w=>
 ldN 3 t3 w λt6 w=>
 bO prog .eql 79 (Operand.tmp 5) (Operand.tmp 6) t5 t6 w λt7 w=>
 Zr t7
 (K (Iw 0) w)
 (fld 0 t2 w λt8 w=>
 ld1 t8 w λt9 w=>
 fld 0 t3 w λt10 w=>
 ld1 t10 w λt11 w=>
 bi .lss .i64 t9 t11 w λt12 w=>
 gd t12 false (λk=>fld 0 t2 w k) w λt14 w=>
 gd t12 false (λk=>ld1 t14 w k) w λt15 w=>
 gd t12 false (λk=>fld 0 t3 w k) w λt16 w=>
 gd t12 false (λk=>ld1 t16 w k) w λt17 w=>
 gd t12 false (λk=>bi .eql .i64 t15 t17 w k) w λt18 w=>
 gd t12 false (λk=>k t18 w) w λt19 w=>
 gd t19 true (λk=>fld 1 t2 w k) w λt20 w=>
 gd t19 true (λk=>ld1 t20 w k) w λt21 w=>
 gd t19 true (λk=>fld 1 t3 w k) w λt22 w=>
 gd t19 true (λk=>ld1 t22 w k) w λt23 w=>
 gd t19 true (λk=>bi .lss .i64 t21 t23 w k) w λt24 w=>
 gd t12 false (λk=>pk t19 t24 (Value.bool false) w k) w λt25 w=>
 pk t12 (Value.bool true) t25 w λt26 w=>
 gd t26 false (λk=>fld 0 t2 w k) w λt28 w=>
 gd t26 false (λk=>ld1 t28 w k) w λt29 w=>
 gd t26 false (λk=>fld 0 t3 w k) w λt30 w=>
 gd t26 false (λk=>ld1 t30 w k) w λt31 w=>
 gd t26 false (λk=>bi .eql .i64 t29 t31 w k) w λt32 w=>
 gd t26 false (λk=>k t32 w) w λt33 w=>
 gd t33 true (λk=>fld 1 t2 w k) w λt34 w=>
 gd t33 true (λk=>ld1 t34 w k) w λt35 w=>
 gd t33 true (λk=>fld 1 t3 w k) w λt36 w=>
 gd t33 true (λk=>ld1 t36 w k) w λt37 w=>
 gd t33 true (λk=>bi .eql .i64 t35 t37 w k) w λt38 w=>
 gd t26 false (λk=>pk t33 t38 (Value.bool false) w k) w λt39 w=>
 gd t26 false (λk=>k t39 w) w λt40 w=>
 gd t40 true (λk=>fld 2 t2 w k) w λt41 w=>
 gd t40 true (λk=>ld1 t41 w k) w λt42 w=>
 gd t40 true (λk=>fld 2 t3 w k) w λt43 w=>
 gd t40 true (λk=>ld1 t43 w k) w λt44 w=>
 gd t40 true (λk=>bi .lss .i64 t42 t44 w k) w λt45 w=>
 gd t26 false (λk=>pk t40 t45 (Value.bool false) w k) w λt46 w=>
 pk t26 (Value.bool true) t46 w λt47 w=>
 Zr t47
 (K (Iw (-1)) w)
 (K (Iw 1) w))
theorem ZKh (h:ZKa t0 t1 w K):Cl prog 119 #[t0,t1] w K:=
 ZML 48 [4] Tryz.func119 h
def ZJS (t0 t1 t2 t3 t4:Value) (w:World) (K:KV):Prop:=
 al (Value.cells t4) 102 w λt9 w=>
 al (Zl prog 81) 81 w λt10 w=>
 bi .rem .i64 t3 (Iw 1000) w λt13 w=>
 fld 2 t9 w λt14 w=>
 ld1 t14 w λt15 w=>
 bi .rem .i64 t15 (Iw 1000) w λt16 w=>
 bi .add .i64 t13 t16 w λt17 w=>
 bi .rem .i64 t17 (Iw 1000) w λt18 w=>
 bi .add .i64 t18 (Iw 1000) w λt19 w=>
 dr w λw=>
 fld 1 t9 w λt21 _=>
 ld1 t21 w λt22 _=>
 fld 0 t9 w λt27 _=>
 ld1 t27 w λt28 _=>
 bi .rem .i64 t19 (Iw 1000) w λt30 _=>
 Cl prog 135 #[t2,t22] w λt23 w=>
 (ld1 t27 w (λv' w''=>v'=t28∧w''=w))∧(bld (Zl prog 79) #[(0,1),(1,1),(2,1)] [(0,t23),(1,t0),(2,t1)] w λt26 w=>
 (ld1 t27 w (λv' w''=>v'=t28∧w''=w))∧(bld (Zl prog 81) #[(0,3),(3,1),(4,1),(5,1)] [(0,t26),(1,(Iw (-1))),(2,t28),(3,t30)] w λt31 w=>
 stN 6 t10 t31 w λ_ w=>
 ldN 6 t10 w λr0 _=>
 K r0 w))
theorem ZJ8 (h:ZJS t0 t1 t2 t3 t4 w K):Cl prog 120 #[t0,t1,t2,t3,t4] w K:=
 ZMM 32 [(10,some 81)] Tryz.func120 h
def ZJz (t0 t1 t2:Value) (w:World) (K:KV):Prop:=
 al (Value.cells t0) 25 w λt3 w=>
 fld 0 t3 w λt12 w=>
 ld1 t12 w λt13 w=>
 Cl prog 136 #[t13,t2] w λt15 w=>
 bsl 3 1 0 #[] [] w λt16 w=>
 lp [t16,(Iw 0)] w (b2 λt8 t9 w g1=>
 fld 1 t3 w λt18 w=>
 ld1 t18 w λt19 w=>
 lnS t19 w λt20 w=>
 bi .lss .i64 t9 t20 w λt21 w=>
 Zr t21
 (J1 (λt8_1 w=>
 bi .add .i64 t9 (Iw 1) w λt23 w=>
 g1 [t8_1,t23] w) λk2=>
 lp [(Value.bool false),(Iw 0)] w (b2 λt10 t11 w g3=>
 lnS t15 w λt26 w=>
 bi .lss .i64 t11 t26 w λt27 w=>
 Zr t27
 (dr w λw=>
 gd t10 false (λk=>fld 1 t3 w k) w λt32 _=>
 gd t10 false (λk=>ld1 t32 w k) w λt33 _=>
 gd t10 false (λk=>k t9 w) w λt34 _=>
 gd t10 false (λk=>ixS 7 t33 t34 w k) w λt35 _=>
 gd t10 false (λk=>fld 5 t35 w k) w λt36 _=>
 gd t10 false (λk=>ld1 t36 w k) w λt37 _=>
 gd t10 false (λk=>k t15 w) w λt38 _=>
 gd t10 false (λk=>k t11 w) w λt39 _=>
 gd t10 false (λk=>ixS 1 t38 t39 w k) w λt40 _=>
 gd t10 false (λk=>ld1 t40 w k) w λt41 _=>
 gd t10 false (λk=>Cl prog 118 #[t37,t41] w k) w λt42 w=>
 pk t10 (Value.bool true) t42 w λt43 _=>
 bi .add .i64 t11 (Iw 1) w λt29 w=>
 g3 [t43,t29] w)
 (bi .neq .i64 t9 t1 w λt46 w=>
 gd t46 true (λk=>k t10 w) w λt48 w=>
 pk t46 t48 (Value.bool false) w λt49 w=>
 Zr t49
 (bsl 3 1 1 (Zl prog 3) [(0,t9)] w λt52 w=>
 apS prog #[22,22] 22 t8 t52 w λt53 w=>
 k2 t53 w)
 (k2 t8 w))))
 (K t8 w))
theorem ZJQ (h:ZJz t0 t1 t2 w K):Cl prog 121 #[t0,t1,t2] w K:=
 ZML 55 [6] Tryz.func121 h
def ZJR (t0 t1 t2:Value) (w:World) (K:KV):Prop:=
 lp [(Iw 0)] w (b1 λt7 w g1=>
 lnS t0 w λt10 w=>
 bi .lss .i64 t7 t10 w λt11 w=>
 Zr t11
 (ixS 4 t0 t7 w λt16 w=>
 fld 0 t16 w λt17 w=>
 ld1 t17 w λt18 w=>
 bi .eql .i64 t18 t1 w λt20 w=>
 gd t20 true (λk=>k t0 w) w λt22 w=>
 gd t20 true (λk=>k t7 w) w λt23 w=>
 gd t20 true (λk=>ixS 4 t22 t23 w k) w λt24 w=>
 gd t20 true (λk=>fld 1 t24 w k) w λt25 w=>
 gd t20 true (λk=>ld1 t25 w k) w λt26 w=>
 gd t20 true (λk=>k t2 w) w λt27 w=>
 gd t20 true (λk=>bi .eql .i64 t26 t27 w k) w λt28 w=>
 pk t20 t28 (Value.bool false) w λt29 w=>
 Zr t29
 (K t7 w)
 (bi .add .i64 t7 (Iw 1) w λt13 w=>
 g1 [t13] w))
 (K (Iw (-1)) w))
theorem ZJ3 (h:ZJR t0 t1 t2 w K):Cl prog 122 #[t0,t1,t2] w K:=
 ZML 31 [6] Tryz.func122 h
def ZgW (t0 t1 t2:Value) (w:World) (K:KV):Prop:=
 al (Value.cells t0) 130 w λt3 w=>
 al (Value.cells t1) 218 w λt4 w=>
 al (Value.cells t2) 79 w λt5 w=>
 ld1 t3 w λt7 w=>
 ncP t7<|
 fld 1 t7 w λt9 w=>
 ld1 t9 w λt10 w=>
 lnS t10 w λt11 w=>
 Cl prog 137 #[t11,(Value.func (Fn.func 138) #[] #[t4,t3,t5])] w λt13 w=>
 K t13 w
theorem Zgw (h:ZgW t0 t1 t2 w K):Cl prog 123 #[t0,t1,t2] w K:=
 ZML 14 [6] Tryz.func123 h
def ZeL (t0 t1:Value) (w:World) (K:KV):Prop:=
 al (Value.cells t0) 203 w λt2 w=>
 al (Value.cells t1) 79 w λt3 w=>
 fld 0 t2 w λt5 w=>
 fld 0 t5 w λt6 w=>
 fld 0 t6 w λt7 w=>
 ld1 t7 w λt8 w=>
 fld 0 t3 w λt9 w=>
 ld1 t9 w λt10 w=>
 bi .lss .i64 t8 t10 w λt11 w=>
 K t11 w
theorem ZeW (h:ZeL t0 t1 w K):Cl prog 124 #[t0,t1] w K:=
 ZML 12 [4] Tryz.func124 h
def ZaI (t0:Value) (w:World) (K:KV):Prop:=
 bO prog .eql 183 (Operand.tmp 3) (Operand.const (Value.slice none 0 0)) t0 (Value.slice none 0 0) w λt4 w=>
 Zr t4
 (K (Value.slice none 0 0) w)
 (bsl 203 10 0 #[] [] w λt5 w=>
 apS prog #[183,183] 183 t5 t0 w λt7 w=>
 K t7 w)
theorem Zbo (h:ZaI t0 w K):Cl prog 125 #[t0] w K:=
 ZML 8 [2] Tryz.func125 h
def ZgV (t0 t1:Value) (w:World) (K:KV):Prop:=
 ncP t0<|
 fld 1 t0 w λt11 w=>
 ld1 t11 w λt12 w=>
 lnS t12 w λt13 w=>
 lp [(Value.slice none 0 0),(Value.slice none 0 0),(Iw 0)] w (b3 λt5 t6 t14 w g1=>
 bi .lss .i64 t14 t13 w λt15 w=>
 Zr t15
 (J2 (λt5_1 t6_1 w=>
 bi .add .i64 t14 (Iw 1) w λt29 w=>
 g1 [t5_1,t6_1,t29] w) λk2=>
 ixS 9 t12 t14 w λt16 w=>
 ldN 9 t16 w λt17 w=>
 al (Zl prog 223) 223 w λt8 w=>
 stN 9 t8 t17 w λ_ w=>
 ldN 9 t8 w λt19 w=>
 clV prog t1 #[t19] w λt20 w=>
 Zr t20
 (ldN 9 t8 w λt22 w=>
 bsl 223 9 1 (Zl prog 223) [(0,t22)] w λt23 w=>
 apS prog #[186,186] 186 t5 t23 w λt24 w=>
 k2 t24 t6 w)
 (ldN 9 t8 w λt26 w=>
 bsl 223 9 1 (Zl prog 223) [(0,t26)] w λt27 w=>
 apS prog #[186,186] 186 t6 t27 w λt28 w=>
 k2 t5 t28 w))
 (ncP t0<|
 fld 1 t0 w λt33 w=>
 stN 1 t33 t6 w λ_ w=>
 K t5 w))
theorem Zgx (h:ZgV t0 t1 w K):Cl prog 126 #[t0,t1] w K:=
 ZML 35 [4] Tryz.func126 h
def ZeA (t0 t1:Value) (w:World) (K:KV):Prop:=
 al (Value.cells t0) 223 w λt2 w=>
 fld 0 t2 w λt4 w=>
 fld 0 t4 w λt5 w=>
 ld1 t5 w λt6 w=>
 ld1 t1 w λt7 w=>
 bi .lss .i64 t6 t7 w λt8 w=>
 K t8 w
theorem ZeS (h:ZeA t0 t1 w K):Cl prog 127 #[t0,t1] w K:=
 ZML 9 [3] Tryz.func127 h
def Zad (t0 t1:Value) (w:World) (K:KV):Prop:=
 lnS t0 w λt6 w=>
 Cl prog 139 #[t0,t6,t1] w λ_ w=>
 K (Value.tuple #[]) w
theorem ZaO (h:Zad t0 t1 w K):Cl prog 128 #[t0,t1] w K:=
 ZML 9 [] Tryz.func128 h
def ZeD (t0 t1:Value) (w:World) (K:KV):Prop:=
 al (Value.cells t0) 223 w λt2 w=>
 al (Value.cells t1) 223 w λt3 w=>
 fld 0 t2 w λt5 w=>
 ldN 3 t5 w λt6 w=>
 fld 0 t3 w λt7 w=>
 ldN 3 t7 w λt8 w=>
 Cl prog 130 #[t6,t8] w λt9 w=>
 K t9 w
theorem ZeR (h:ZeD t0 t1 w K):Cl prog 129 #[t0,t1] w K:=
 ZML 10 [4] Tryz.func129 h
def Zpp (t0 t1:Value) (w:World) (K:KV):Prop:=
 al (Value.cells t0) 79 w λt2 w=>
 al (Value.cells t1) 79 w λt3 w=>
 dr w λw=>
 fld 0 t2 w λt5 _=>
 ld1 t5 w λt6 _=>
 fld 0 t3 w λt7 _=>
 ld1 t7 w λt8 _=>
 fld 1 t2 w λt10 _=>
 ld1 t10 w λt11 _=>
 fld 1 t3 w λt12 _=>
 ld1 t12 w λt13 _=>
 fld 2 t2 w λt15 _=>
 ld1 t15 w λt16 _=>
 fld 2 t3 w λt17 _=>
 ld1 t17 w λt18 _=>
 Cl prog 141 #[t6,t8] w λt9 w=>
 (ld1 t17 w (λv' w''=>v'=t18∧w''=w))∧((ld1 t15 w (λv' w''=>v'=t16∧w''=w))∧((ld1 t12 w (λv' w''=>v'=t13∧w''=w))∧((ld1 t10 w (λv' w''=>v'=t11∧w''=w))∧(Cl prog 141 #[t11,t13] w λt14 w=>
 (ld1 t17 w (λv' w''=>v'=t18∧w''=w))∧((ld1 t15 w (λv' w''=>v'=t16∧w''=w))∧(Cl prog 141 #[t16,t18] w λt19 w=>
 bsl 3 1 3 (Zl prog 3) [(0,t9),(1,t14),(2,t19)] w λt20 w=>
 Cl prog 140 #[t20] w λt21 w=>
 K t21 w))))))
theorem ZlC (h:Zpp t0 t1 w K):Cl prog 130 #[t0,t1] w K:=
 ZML 22 [4] Tryz.func130 h
def Zjn (t0:Value) (w:World) (K:KV):Prop:=
 lnS t0 w λt7 w=>
 lp [(Value.slice none 0 0),(Iw 0)] w (b2 λt3 t8 w g1=>
 bi .lss .i64 t8 t7 w λt9 w=>
 Zr t9
 (ixS 9 t0 t8 w λt10 w=>
 ldN 9 t10 w λt11 w=>
 al (Zl prog 223) 223 w λt5 w=>
 stN 9 t5 t11 w λ_ w=>
 fld 3 t5 w λt13 w=>
 ldN 6 t13 w λt14 w=>
 bsl 81 6 1 (Zl prog 81) [(0,t14)] w λt15 w=>
 apS prog #[76,76] 76 t3 t15 w λt16 w=>
 bi .add .i64 t8 (Iw 1) w λt17 w=>
 g1 [t16,t17] w)
 (K t3 w))
theorem Zhx (h:Zjn t0 w K):Cl prog 131 #[t0] w K:=
 ZML 19 [2] Tryz.func131 h
def ZbV (t0 t1:Value) (w:World) (K:KV):Prop:=
 lnS t0 w λt7 w=>
 lp [(Iw 0)] w (b1 λt8 w g1=>
 bi .lss .i64 t8 t7 w λt9 w=>
 Zr t9
 (ixS 1 t0 t8 w λt14 w=>
 ld1 t14 w λt15 w=>
 clV prog t1 #[t15] w λt16 w=>
 Zr t16
 (K t8 w)
 (bi .add .i64 t8 (Iw 1) w λt18 w=>
 g1 [t18] w))
 (K (Iw (-1)) w))
theorem ZcA (h:ZbV t0 t1 w K):Cl prog 132 #[t0,t1] w K:=
 ZML 19 [4] Tryz.func132 h
def ZtV (t0 t1:Value) (w:World) (K:KV):Prop:=
 al (Value.cells t0) 22 w λt2 w=>
 al (Value.cells t1) 3 w λt3 w=>
 K (Value.func (Fn.func 142) #[] #[t3,t2]) w
theorem Zoy (h:ZtV t0 t1 w K):Cl prog 133 #[t0,t1] w K:=
 ZML 6 [4] Tryz.func133 h
def ZJU (t0:Value) (w:World) (K:KV):Prop:=
 al (Value.cells t0) 48 w λt1 w=>
 fld 0 t1 w λt5 w=>
 ld1 t5 w λt6 w=>
 Cl prog 143 #[t6,(Iw 8)] w λt7 w=>
 Zb3 t7 w λt8 w=>
 gd t8 false (λk=>fld 2 t1 w k) w λt10 w=>
 gd t8 false (λk=>ld1 t10 w k) w λt11 w=>
 gd t8 false (λk=>Cl prog 143 #[t11,(Iw 8)] w k) w λt12 w=>
 gd t8 false (λk=>Zb3 t12 w k) w λt13 w=>
 pk t8 (Value.bool true) t13 w λt14 w=>
 gd t14 false (λk=>fld 1 t1 w k) w λt16 w=>
 gd t14 false (λk=>ld1 t16 w k) w λt17 w=>
 gd t14 false (λk=>Cl prog 143 #[t17,(Iw 16)] w k) w λt18 w=>
 gd t14 false (λk=>Zb3 t18 w k) w λt19 w=>
 pk t14 (Value.bool true) t19 w λt20 w=>
 gd t20 false (λk=>fld 3 t1 w k) w λt22 w=>
 gd t20 false (λk=>ld1 t22 w k) w λt23 w=>
 gd t20 false (λk=>lnS t23 w k) w λt24 w=>
 gd t20 false (λk=>bi .gtr .i64 t24 (Iw 3) w k) w λt25 w=>
 pk t20 (Value.bool true) t25 w λt26 w=>
 Zr t26
 (K (Value.bool false) w)
 (lp [(Iw 0)] w (b1 λt3 w g1=>
 fld 3 t1 w λt28 w=>
 ld1 t28 w λt29 w=>
 lnS t29 w λt30 w=>
 bi .lss .i64 t3 t30 w λt31 w=>
 Zr t31
 (fld 3 t1 w λt34 w=>
 ld1 t34 w λt35 w=>
 ixS 3 t35 t3 w λt37 w=>
 ldN 3 t37 w λt38 w=>
 al (Zl prog 102) 102 w λt4 w=>
 stN 3 t4 t38 w λ_ w=>
 fld 0 t4 w λt39 w=>
 ld1 t39 w λt40 w=>
 Cl prog 143 #[t40,(Iw 16)] w λt41 w=>
 Zb3 t41 w λt42 w=>
 gd t42 false (λk=>fld 1 t4 w k) w λt44 w=>
 gd t42 false (λk=>ld1 t44 w k) w λt45 w=>
 gd t42 false (λk=>Cl prog 143 #[t45,(Iw 1048577)] w k) w λt46 w=>
 gd t42 false (λk=>Zb3 t46 w k) w λt47 w=>
 pk t42 (Value.bool true) t47 w λt48 w=>
 gd t48 false (λk=>fld 2 t4 w k) w λt50 w=>
 gd t48 false (λk=>ld1 t50 w k) w λt51 w=>
 gd t48 false (λk=>Cl prog 143 #[t51,(Iw 1000)] w k) w λt52 w=>
 gd t48 false (λk=>Zb3 t52 w k) w λt53 w=>
 pk t48 (Value.bool true) t53 w λt54 w=>
 Zr t54
 (K (Value.bool false) w)
 (bi .add .i64 t3 (Iw 1) w λt33 w=>
 g1 [t33] w))
 (K (Value.bool true) w)))
theorem ZJ9 (h:ZJU t0 w K):Cl prog 134 #[t0] w K:=
 ZML 55 [2] Tryz.func134 h
def ZJ6 (t0 t1:Value) (w:World) (K:KV):Prop:=
 Cl prog 144 #[t0] w λt6 w=>
 Cl prog 144 #[t1] w λt8 w=>
 bi .eql .i64 t6 (Iw 1125899906842624) w λt10 w=>
 gd t10 false (λk=>k t8 w) w λt12 w=>
 gd t10 false (λk=>bi .eql .i64 t12 (Iw 1125899906842624) w k) w λt13 w=>
 pk t10 (Value.bool true) t13 w λt14 w=>
 Zr t14
 (K (Iw 1125899906842624) w)
 (bi .add .i64 t6 t8 w λt17 w=>
 Cl prog 144 #[t17] w λt18 w=>
 K t18 w)
theorem ZKk (h:ZJ6 t0 t1 w K):Cl prog 135 #[t0,t1] w K:=
 ZML 19 [4] Tryz.func135 h
def ZJL (t0 t1:Value) (w:World) (K:KV):Prop:=
 bsl 3 1 0 #[] [] w λt6 w=>
 Cl prog 91 #[t0] w λt8 w=>
 bi .neq .i64 t8 (Iw 0) w λt9 w=>
 gd t9 false (λk=>k t1 w) w λt11 w=>
 gd t9 false (λk=>bi .lss .i64 t11 (Iw 0) w k) w λt12 w=>
 pk t9 (Value.bool true) t12 w λt13 w=>
 gd t13 false (λk=>k t1 w) w λt15 w=>
 gd t13 false (λk=>k t0 w) w λt16 w=>
 gd t13 false (λk=>lnS t16 w k) w λt17 w=>
 gd t13 false (λk=>bi .geq .i64 t15 t17 w k) w λt18 w=>
 pk t13 (Value.bool true) t18 w λt19 w=>
 Zr t19
 (K t6 w)
 (lp [t1,t6] w (b2 λt1_1 t5 w g1=>
 bi .geq .i64 t1_1 (Iw 0) w λt22 w=>
 Zr t22
 (bsl 3 1 1 (Zl prog 3) [(0,t1_1)] w λt25 w=>
 apS prog #[22,22] 22 t5 t25 w λt26 w=>
 ixS 1 t0 t1_1 w λt29 w=>
 ld1 t29 w λt30 w=>
 g1 [t30,t26] w)
 (K t5 w)))
theorem ZJW (h:ZJL t0 t1 w K):Cl prog 136 #[t0,t1] w K:=
 ZML 32 [4] Tryz.func136 h
def Zmv (t0 t1:Value) (w:World) (K:KV):Prop:=
 lp [(Iw 0),t0] w (b2 λt5 t6 w g1=>
 bi .lss .i64 t5 t6 w λt11 w=>
 Zr t11
 (bi .add .i64 t5 t6 w λt14 w=>
 cvI .u64 t14 w λt15 w=>
 bO prog .shr 196 (Operand.tmp 15) (Operand.const (Value.int IntKind.u64 1)) t15 (Value.int IntKind.u64 1) w λt16 w=>
 cvI .i64 t16 w λt17 w=>
 clV prog t1 #[t17] w λt20 w=>
 Zb3 t20 w λt21 w=>
 Zr t21
 (bi .add .i64 t17 (Iw 1) w λt23 w=>
 g1 [t23,t6] w)
 (g1 [t5,t17] w))
 (K t5 w))
theorem Zj9 (h:Zmv t0 t1 w K):Cl prog 137 #[t0,t1] w K:=
 ZML 26 [4] Tryz.func137 h
def ZeN (t0 t1 t2 t3:Value) (w:World) (K:KV):Prop:=
 dr w λw=>
 ld1 t1 w λt6 _=>
 ld1 t2 w λt7 _=>
 ncP t7<|
 fld 1 t7 w λt9 _=>
 ld1 t9 w λt10 _=>
 ixS 10 t10 t0 w λt12 _=>
 ldN 10 t12 w λt13 _=>
 ldN 3 t3 w λt14 _=>
 clV prog t6 #[t13,t14] w λt15 w=>
 Zb3 t15 w λt16 _=>
 K t16 w
theorem Ze2 (h:ZeN t0 t1 t2 t3 w K):Cl prog 138 #[t0,t1,t2,t3] w K:=
 ZML 17 [5] Tryz.func138 h
def Za0 (t0 t1 t2:Value) (w:World) (K:KV):Prop:=
 lp [(Iw 0),(Iw 20)] w (b2 λt7 t8 w g1=>
 bi .leq .i64 t8 t1 w λt13 w=>
 Zr t13
 (Cl prog 145 #[t0,t7,t8,t2] w λ_ w=>
 bi .add .i64 t8 (Iw 20) w λt22 w=>
 g1 [t8,t22] w)
 (Cl prog 145 #[t0,t7,t1,t2] w λ_ w=>
 lp [(Iw 20)] w (b1 λt6 w g2=>
 bi .lss .i64 t6 t1 w λt30 w=>
 Zr t30
 (bi .mul .i64 (Iw 2) t6 w λt32 w=>
 lp [(Iw 0),t32] w (b2 λt7_1 t8_1 w g3=>
 bi .leq .i64 t8_1 t1 w λt35 w=>
 Zr t35
 (bi .add .i64 t7_1 t6 w λt40 w=>
 Cl prog 146 #[t0,t7_1,t40,t8_1,t2] w λ_ w=>
 bi .mul .i64 (Iw 2) t6 w λt47 w=>
 bi .add .i64 t8_1 t47 w λt48 w=>
 g3 [t8_1,t48] w)
 (bi .add .i64 t7_1 t6 w λt51 w=>
 bi .lss .i64 t51 t1 w λt54 w=>
 J0 (λw=>
 bi .mul .i64 t6 (Iw 2) w λt62 w=>
 g2 [t62] w) λk4=>
 Zr t54
 (Cl prog 146 #[t0,t7_1,t51,t1,t2] w λ_ w=>
 k4 w)
 (k4 w))))
 (K (Value.tuple #[]) w))))
theorem ZbL (h:Za0 t0 t1 t2 w K):Cl prog 139 #[t0,t1,t2] w K:=
 ZML 63 [] Tryz.func139 h
def Znv (t0:Value) (w:World) (K:KV):Prop:=
 lnS t0 w λt7 w=>
 lp [(Iw 0)] w (b1 λt8 w g1=>
 bi .lss .i64 t8 t7 w λt9 w=>
 Zr t9
 (ixS 1 t0 t8 w λt10 w=>
 ld1 t10 w λt11 w=>
 bi .neq .i64 t11 (Iw 0) w λt14 w=>
 Zr t14
 (K t11 w)
 (bi .add .i64 t8 (Iw 1) w λt16 w=>
 g1 [t16] w))
 (K (Iw 0) w))
theorem Zk0 (h:Znv t0 w K):Cl prog 140 #[t0] w K:=
 ZML 18 [2] Tryz.func140 h
def ZfG (t0 t1:Value) (w:World) (K:KV):Prop:=
 Cl prog 147 #[t0] w λt8 w=>
 Cl prog 147 #[t1] w λt10 w=>
 Zr t8
 (Zr t10
 (K (Iw 0) w)
 (K (Iw (-1)) w))
 (Zr t10
 (K (Iw 1) w)
 (bi .lss .i64 t0 t1 w λt16 w=>
 Zr t16
 (K (Iw (-1)) w)
 (bi .gtr .i64 t0 t1 w λt19 w=>
 Zr t19
 (K (Iw 1) w)
 (K (Iw 0) w))))
theorem ZfO (h:ZfG t0 t1 w K):Cl prog 141 #[t0,t1] w K:=
 ZML 20 [4] Tryz.func141 h
def Zqa (t0 t1 t2:Value) (w:World) (K:KV):Prop:=
 ld1 t1 w λt4 w=>
 ld1 t2 w λt5 w=>
 lnS t5 w λt6 w=>
 bi .geq .i64 t4 t6 w λt7 w=>
 gd t7 false (λk=>ld1 t2 w k) w λt9 w=>
 gd t7 false (λk=>Cl prog 42 #[t9] w k) w λt10 w=>
 gd t7 false (λk=>bi .neq .i64 t10 (Iw 0) w k) w λt11 w=>
 pk t7 (Value.bool true) t11 w λt12 w=>
 Zr t12
 (K (Value.tuple #[]) w)
 (lp [] w (b0 λw g1=>
 ld1 t1 w λt13 w=>
 bi .geq .i64 t13 (Iw 0) w λt14 w=>
 Zr t14
 (ld1 t1 w λt20 w=>
 clV prog t0 #[t20] w λt21 w=>
 Zb3 t21 w λt22 w=>
 Zr t22
 (K (Value.tuple #[]) w)
 (ld1 t2 w λt15 w=>
 ld1 t1 w λt16 w=>
 ixS 1 t15 t16 w λt17 w=>
 ld1 t17 w λt18 w=>
 stN 1 t1 t18 w λ_ w=>
 g1 [] w))
 (K (Value.tuple #[]) w)))
theorem Zmz (h:Zqa t0 t1 t2 w K):Cl prog 142 #[t0,t1,t2] w K:=
 ZML 23 [] Tryz.func142 h
def ZKp (t0 t1:Value) (w:World) (K:KV):Prop:=
 bi .geq .i64 t0 (Iw 0) w λt6 w=>
 gd t6 true (λk=>k t0 w) w λt8 w=>
 gd t6 true (λk=>k t1 w) w λt9 w=>
 gd t6 true (λk=>bi .lss .i64 t8 t9 w k) w λt10 w=>
 pk t6 t10 (Value.bool false) w λt11 w=>
 K t11 w
theorem ZKr (h:ZKp t0 t1 w K):Cl prog 143 #[t0,t1] w K:=
 ZML 12 [4] Tryz.func143 h
def ZJV (t0:Value) (w:World) (K:KV):Prop:=
 bi .lss .i64 t0 (Iw 0) w λt4 w=>
 Zr t4
 (K (Iw 0) w)
 (bi .gtr .i64 t0 (Iw 1099511627776) w λt6 w=>
 Zr t6
 (K (Iw 1125899906842624) w)
 (K t0 w))
theorem ZJ4 (h:ZJV t0 w K):Cl prog 144 #[t0] w K:=
 ZML 8 [2] Tryz.func144 h
def Zap (t0 t1 t2 t3:Value) (w:World) (K:KV):Prop:=
 bi .add .i64 t1 (Iw 1) w λt11 w=>
 lp [t11] w (b1 λt8 w g1=>
 bi .lss .i64 t8 t2 w λt14 w=>
 Zr t14
 (lp [t8] w (b1 λt9 w g2=>
 dr w λw=>
 bi .gtr .i64 t9 t1 w λt20 _=>
 gd t20 true (λk=>k t3 w) w λt22 _=>
 gd t20 true (λk=>k t0 w) w λt23 _=>
 gd t20 true (λk=>k t9 w) w λt24 _=>
 gd t20 true (λk=>ixS 9 t23 t24 w k) w λt25 _=>
 gd t20 true (λk=>ldN 9 t25 w k) w λt26 _=>
 gd t20 true (λk=>k t0 w) w λt27 _=>
 gd t20 true (λk=>k t9 w) w λt28 _=>
 gd t20 true (λk=>bi .sub .i64 t28 (Iw 1) w k) w λt29 _=>
 gd t20 true (λk=>ixS 9 t27 t29 w k) w λt30 _=>
 gd t20 true (λk=>ldN 9 t30 w k) w λt31 _=>
 gd t20 true (λk=>clV prog t22 #[t26,t31] w k) w λt32 w=>
 gd t20 true (λk=>bi .lss .i64 t32 (Iw 0) w k) w λt33 _=>
 pk t20 t33 (Value.bool false) w λt34 _=>
 Zr t34
 (dr w λw=>
 bi .sub .i64 t9 (Iw 1) w λt41 _=>
 bi .sub .i64 t9 (Iw 1) w λt44 _=>
 ixS 9 t0 t44 w λt45 _=>
 ldN 9 t45 w λt46 _=>
 ixS 9 t0 t9 w λt49 _=>
 ldN 9 t49 w λt50 _=>
 ixS 9 t0 t9 w λt51 _=>
 stN 9 t51 t46 w λ_ w=>
 ixS 9 t0 t41 w λt52 _=>
 stN 9 t52 t50 w λ_ w=>
 bi .sub .i64 t9 (Iw 1) w λt36 w=>
 g2 [t36] w)
 (bi .add .i64 t8 (Iw 1) w λt16 w=>
 g1 [t16] w)))
 (K (Value.tuple #[]) w))
theorem Za5 (h:Zap t0 t1 t2 t3 w K):Cl prog 145 #[t0,t1,t2,t3] w K:=
 ZML 53 [] Tryz.func145 h
def ZaS (t0 t1 t2 t3 t4:Value) (w:World) (K:KV):Prop:=
 bi .sub .i64 t2 t1 w λt27 w=>
 bi .eql .i64 t27 (Iw 1) w λt28 w=>
 Zr t28
 (lp [t2,t3] w (b2 λt10 t11 w g1=>
 bi .lss .i64 t10 t11 w λt33 w=>
 Zr t33
 (bi .add .i64 t10 t11 w λt36 w=>
 cvI .u64 t36 w λt37 w=>
 bO prog .shr 196 (Operand.tmp 37) (Operand.const (Value.int IntKind.u64 1)) t37 (Value.int IntKind.u64 1) w λt38 w=>
 cvI .i64 t38 w λt39 w=>
 dr w λw=>
 ixS 9 t0 t39 w λt43 _=>
 ldN 9 t43 w λt44 _=>
 ixS 9 t0 t1 w λt47 _=>
 ldN 9 t47 w λt48 _=>
 clV prog t4 #[t44,t48] w λt49 w=>
 bi .lss .i64 t49 (Iw 0) w λt50 _=>
 Zr t50
 (bi .add .i64 t39 (Iw 1) w λt52 w=>
 g1 [t52,t11] w)
 (g1 [t10,t39] w))
 (lp [t1] w (b1 λt13 w g2=>
 bi .sub .i64 t10 (Iw 1) w λt57 w=>
 bi .lss .i64 t13 t57 w λt58 w=>
 Zr t58
 (dr w λw=>
 bi .add .i64 t13 (Iw 1) w λt65 _=>
 bi .add .i64 t13 (Iw 1) w λt68 _=>
 ixS 9 t0 t68 w λt69 _=>
 ldN 9 t69 w λt70 _=>
 ixS 9 t0 t13 w λt73 _=>
 ldN 9 t73 w λt74 _=>
 ixS 9 t0 t13 w λt75 _=>
 stN 9 t75 t70 w λ_ w=>
 ixS 9 t0 t65 w λt76 _=>
 stN 9 t76 t74 w λ_ w=>
 bi .add .i64 t13 (Iw 1) w λt60 w=>
 g2 [t60] w)
 (K (Value.tuple #[]) w)))))
 (bi .sub .i64 t3 t2 w λt79 w=>
 bi .eql .i64 t79 (Iw 1) w λt80 w=>
 Zr t80
 (lp [t1,t2] w (b2 λt14 t15 w g3=>
 bi .lss .i64 t14 t15 w λt85 w=>
 Zr t85
 (bi .add .i64 t14 t15 w λt88 w=>
 cvI .u64 t88 w λt89 w=>
 bO prog .shr 196 (Operand.tmp 89) (Operand.const (Value.int IntKind.u64 1)) t89 (Value.int IntKind.u64 1) w λt90 w=>
 cvI .i64 t90 w λt91 w=>
 dr w λw=>
 ixS 9 t0 t2 w λt95 _=>
 ldN 9 t95 w λt96 _=>
 ixS 9 t0 t91 w λt99 _=>
 ldN 9 t99 w λt100 _=>
 clV prog t4 #[t96,t100] w λt101 w=>
 bi .lss .i64 t101 (Iw 0) w λt102 _=>
 Zb3 t102 w λt103 _=>
 Zr t103
 (bi .add .i64 t91 (Iw 1) w λt105 w=>
 g3 [t105,t15] w)
 (g3 [t14,t91] w))
 (lp [t2] w (b1 λt17 w g4=>
 bi .gtr .i64 t17 t14 w λt110 w=>
 Zr t110
 (dr w λw=>
 bi .sub .i64 t17 (Iw 1) w λt117 _=>
 bi .sub .i64 t17 (Iw 1) w λt120 _=>
 ixS 9 t0 t120 w λt121 _=>
 ldN 9 t121 w λt122 _=>
 ixS 9 t0 t17 w λt125 _=>
 ldN 9 t125 w λt126 _=>
 ixS 9 t0 t17 w λt127 _=>
 stN 9 t127 t122 w λ_ w=>
 ixS 9 t0 t117 w λt128 _=>
 stN 9 t128 t126 w λ_ w=>
 bi .sub .i64 t17 (Iw 1) w λt112 w=>
 g4 [t112] w)
 (K (Value.tuple #[]) w)))))
 (bi .add .i64 t1 t3 w λt131 w=>
 cvI .u64 t131 w λt132 w=>
 bO prog .shr 196 (Operand.tmp 132) (Operand.const (Value.int IntKind.u64 1)) t132 (Value.int IntKind.u64 1) w λt133 w=>
 cvI .i64 t133 w λt134 w=>
 bi .add .i64 t134 t2 w λt137 w=>
 bi .gtr .i64 t2 t134 w λt140 w=>
 J2 (λt20 t21 w=>
 bi .sub .i64 t137 (Iw 1) w λt148 w=>
 lp [t20,t21] w (b2 λt20_1 t21_1 w g6=>
 bi .lss .i64 t20_1 t21_1 w λt151 w=>
 Zr t151
 (bi .add .i64 t20_1 t21_1 w λt154 w=>
 cvI .u64 t154 w λt155 w=>
 bO prog .shr 196 (Operand.tmp 155) (Operand.const (Value.int IntKind.u64 1)) t155 (Value.int IntKind.u64 1) w λt156 w=>
 cvI .i64 t156 w λt157 w=>
 dr w λw=>
 bi .sub .i64 t148 t157 w λt162 _=>
 ixS 9 t0 t162 w λt163 _=>
 ldN 9 t163 w λt164 _=>
 ixS 9 t0 t157 w λt167 _=>
 ldN 9 t167 w λt168 _=>
 clV prog t4 #[t164,t168] w λt169 w=>
 bi .lss .i64 t169 (Iw 0) w λt170 _=>
 Zb3 t170 w λt171 _=>
 Zr t171
 (bi .add .i64 t157 (Iw 1) w λt173 w=>
 g6 [t173,t21_1] w)
 (g6 [t20_1,t157] w))
 (bi .sub .i64 t137 t20_1 w λt177 w=>
 bi .lss .i64 t20_1 t2 w λt180 w=>
 gd t180 true (λk=>k t2 w) w λt182 w=>
 gd t180 true (λk=>k t177 w) w λt183 w=>
 gd t180 true (λk=>bi .lss .i64 t182 t183 w k) w λt184 w=>
 pk t180 t184 (Value.bool false) w λt185 w=>
 J0 (λw=>
 bi .lss .i64 t1 t20_1 w λt194 w=>
 gd t194 true (λk=>k t20_1 w) w λt196 w=>
 gd t194 true (λk=>k t134 w) w λt197 w=>
 gd t194 true (λk=>bi .lss .i64 t196 t197 w k) w λt198 w=>
 pk t194 t198 (Value.bool false) w λt199 w=>
 J0 (λw=>
 bi .lss .i64 t134 t177 w λt208 w=>
 gd t208 true (λk=>k t177 w) w λt210 w=>
 gd t208 true (λk=>k t3 w) w λt211 w=>
 gd t208 true (λk=>bi .lss .i64 t210 t211 w k) w λt212 w=>
 pk t208 t212 (Value.bool false) w λt213 w=>
 Zr t213
 (Cl prog 146 #[t0,t134,t177,t3,t4] w λ_ w=>
 K (Value.tuple #[]) w)
 (K (Value.tuple #[]) w)) λk8=>
 Zr t199
 (Cl prog 146 #[t0,t1,t20_1,t134,t4] w λ_ w=>
 k8 w)
 (k8 w)) λk7=>
 Zr t185
 (Cl prog 148 #[t0,t20_1,t2,t177,t4] w λ_ w=>
 k7 w)
 (k7 w)))) λk5=>
 Zr t140
 (bi .sub .i64 t137 t3 w λt143 w=>
 k5 t143 t134 w)
 (k5 t1 t2 w)))
theorem ZbD (h:ZaS t0 t1 t2 t3 t4 w K):Cl prog 146 #[t0,t1,t2,t3,t4] w K:=
 ZML 220 [] Tryz.func146 h
def ZiL (t0:Value) (w:World) (K:KV):Prop:=
 bi .neq .i64 t0 t0 w λt5 w=>
 K t5 w
theorem Zhv (h:ZiL t0 w K):Cl prog 147 #[t0] w K:=
 ZML 6 [2] Tryz.func147 h
def Za2 (t0 t1 t2 t3 t4:Value) (w:World) (K:KV):Prop:=
 bi .sub .i64 t2 t1 w λt14 w=>
 bi .sub .i64 t3 t2 w λt17 w=>
 lp [t14,t17] w (b2 λt10 t11 w g1=>
 bi .neq .i64 t10 t11 w λt20 w=>
 Zr t20
 (bi .gtr .i64 t10 t11 w λt23 w=>
 Zr t23
 (bi .sub .i64 t2 t10 w λt27 w=>
 Cl prog 149 #[t0,t27,t2,t11,t4] w λ_ w=>
 bi .sub .i64 t10 t11 w λt34 w=>
 g1 [t34,t11] w)
 (bi .sub .i64 t2 t10 w λt38 w=>
 bi .add .i64 t2 t11 w λt41 w=>
 bi .sub .i64 t41 t10 w λt43 w=>
 Cl prog 149 #[t0,t38,t43,t10,t4] w λ_ w=>
 bi .sub .i64 t11 t10 w λt49 w=>
 g1 [t10,t49] w))
 (bi .sub .i64 t2 t10 w λt53 w=>
 Cl prog 149 #[t0,t53,t2,t10,t4] w λ_ w=>
 K (Value.tuple #[]) w))
theorem ZbJ (h:Za2 t0 t1 t2 t3 t4 w K):Cl prog 148 #[t0,t1,t2,t3,t4] w K:=
 ZML 58 [] Tryz.func148 h
def ZaM (t0 t1 t2 t3 t4:Value) (w:World) (K:KV):Prop:=
 lp [(Iw 0)] w (b1 λt10 w g1=>
 bi .lss .i64 t10 t3 w λt13 w=>
 Zr t13
 (dr w λw=>
 bi .add .i64 t1 t10 w λt19 _=>
 bi .add .i64 t2 t10 w λt23 _=>
 bi .add .i64 t2 t10 w λt27 _=>
 ixS 9 t0 t27 w λt28 _=>
 ldN 9 t28 w λt29 _=>
 bi .add .i64 t1 t10 w λt33 _=>
 ixS 9 t0 t33 w λt34 _=>
 ldN 9 t34 w λt35 _=>
 ixS 9 t0 t19 w λt36 _=>
 stN 9 t36 t29 w λ_ w=>
 ixS 9 t0 t23 w λt37 _=>
 stN 9 t37 t35 w λ_ w=>
 bi .add .i64 t10 (Iw 1) w λt15 w=>
 g1 [t15] w)
 (K (Value.tuple #[]) w))
theorem Zbw (h:ZaM t0 t1 t2 t3 t4 w K):Cl prog 149 #[t0,t1,t2,t3,t4] w K:=
 ZML 38 [] Tryz.func149 h
def Zdp (t0:Value) (w:World) (K:KV):Prop:=
 al (Zl prog 3) 3 w λt3 w=>
 stN 1 t3 (Iw 1125899906842624) w λ_ w=>
 ncP t0<|
 fld 0 t0 w λt10 w=>
 ld1 t10 w λt11 w=>
 rgM prog 134 t11 w λt12 w=>
 lp [] w (b0 λw g1=>
 nxM prog t12 false 0 w λt13 w=>
 xt 0 t13 w λt14 w=>
 Zr t14
 (enM prog t12 w λt15 w=>
 xt 1 t15 w λt16 w=>
 clV prog (Value.func (Fn.func 210) #[] #[t3]) #[t16] w λ_ w=>
 g1 [] w)
 (ld1 t3 w λt20 w=>
 K t20 w))
theorem ZdW (h:Zdp t0 w K):Cl prog 169 #[t0] w K:=
 ZML 21 [2] Tryz.func169 h
def ZkO (t0:Value) (w:World) (K:KV):Prop:=
 ncP t0<|
 fld 8 t0 w λt5 w=>
 ld1 t5 w λt6 w=>
 Cl prog 172 #[t6] w λt7 w=>
 K t7 w
theorem Zji (h:ZkO t0 w K):Cl prog 170 #[t0] w K:=
 ZML 8 [2] Tryz.func170 h
def Zd6 (t0:Value) (w:World) (K:KV):Prop:=
 al (Value.cells t0) 126 w λt1 w=>
 fld 0 t1 w λt3 w=>
 ld1 t3 w λt4 w=>
 Cl prog 173 #[t4] w λt5 w=>
 K t5 w
theorem Zej (h:Zd6 t0 w K):Cl prog 171 #[t0] w K:=
 ZML 6 [2] Tryz.func171 h
def Za1 (t0:Value) (w:World) (K:KV):Prop:=
 bO prog .eql 40 (Operand.tmp 3) (Operand.const (Value.slice none 0 0)) t0 (Value.slice none 0 0) w λt4 w=>
 Zr t4
 (K (Value.slice none 0 0) w)
 (bsl 100 7 0 #[] [] w λt5 w=>
 apS prog #[40,40] 40 t5 t0 w λt7 w=>
 K t7 w)
theorem ZbG (h:Za1 t0 w K):Cl prog 172 #[t0] w K:=
 ZML 8 [2] Tryz.func172 h
def Zfe (t0:Value) (w:World) (K:KV):Prop:=
 ncP t0<|
 fld 1 t0 w λt6 w=>
 ld1 t6 w λt7 w=>
 Cl prog 174 #[t7] w λt8 w=>
 Cl prog 175 #[t8,(Value.func (.func 176) #[] #[])] w λ_ w=>
 K t8 w
theorem ZfL (h:Zfe t0 w K):Cl prog 173 #[t0] w K:=
 ZML 12 [2] Tryz.func173 h
def Zaw (t0:Value) (w:World) (K:KV):Prop:=
 bO prog .eql 76 (Operand.tmp 3) (Operand.const (Value.slice none 0 0)) t0 (Value.slice none 0 0) w λt4 w=>
 Zr t4
 (K (Value.slice none 0 0) w)
 (bsl 81 6 0 #[] [] w λt5 w=>
 apS prog #[76,76] 76 t5 t0 w λt7 w=>
 K t7 w)
theorem ZaE (h:Zaw t0 w K):Cl prog 174 #[t0] w K:=
 ZML 8 [2] Tryz.func174 h
def Zeb (t0 t1:Value) (w:World) (K:KV):Prop:=
 al (Value.cells t0) 81 w λt2 w=>
 al (Value.cells t1) 81 w λt3 w=>
 fld 0 t2 w λt5 w=>
 ldN 3 t5 w λt6 w=>
 fld 0 t3 w λt7 w=>
 ldN 3 t7 w λt8 w=>
 Cl prog 130 #[t6,t8] w λt9 w=>
 K t9 w
theorem Zef (h:Zeb t0 t1 w K):Cl prog 176 #[t0,t1] w K:=
 ZML 10 [4] Tryz.func176 h
def Zi7 (t0 t1 t2:Value) (w:World) (K:KV):Prop:=
 al (Value.cells t0) 67 w λt3 w=>
 al (Value.cells t2) 84 w λt5 w=>
 fld 0 t3 w λt8 w=>
 ld1 t8 w λt9 w=>
 ldN 8 t5 w λt11 w=>
 Cl prog 198 #[t9,t1,t11] w λt12 w=>
 K (Value.tuple #[(Value.slice none 0 0),t12]) w
theorem ZhS (h:Zi7 t0 t1 t2 w K):Cl prog 195 #[t0,t1,t2] w K:=
 ZML 13 [6,7] Tryz.func195 h
def Zif (t0:Value) (w:World) (K:KV):Prop:=
 al (Value.cells t0) 67 w λt1 w=>
 fld 0 t1 w λt8 w=>
 ld1 t8 w λt9 w=>
 Cl prog 199 #[t9] w λt10 w=>
 xt 0 t10 w λt11 w=>
 xt 1 t10 w λt12 w=>
 xt 2 t10 w λt13 w=>
 al (Zl prog 100) 100 w λt4 w=>
 stN 7 t4 t11 w λ_ w=>
 Cl prog 73 #[t12] w λt15 w=>
 K (Value.tuple #[t15,t13]) w
theorem Zhr (h:Zif t0 w K):Cl prog 196 #[t0] w K:=
 ZML 17 [2,3] Tryz.func196 h
def Zjw (t0:Value) (w:World) (K:KV):Prop:=
 al (Value.cells t0) 67 w λt1 w=>
 fld 0 t1 w λt4 w=>
 ld1 t4 w λt5 w=>
 Cl prog 200 #[t5] w λt6 w=>
 xt 0 t6 w λt7 w=>
 xt 1 t6 w λt8 w=>
 K (Value.tuple #[t7,t8]) w
theorem ZhO (h:Zjw t0 w K):Cl prog 197 #[t0] w K:=
 ZML 9 [2,3] Tryz.func197 h
def Zil (t0 t1 t2:Value) (w:World) (K:KV):Prop:=
 al (Value.cells t2) 84 w λt5 w=>
 fld 1 t5 w λt9 w=>
 fld 0 t9 w λt10 w=>
 fld 0 t10 w λt11 w=>
 ld1 t11 w λt12 w=>
 fld 0 t5 w λt13 w=>
 ld1 t13 w λt14 w=>
 bi .eql .i64 t14 (Iw 2) w λt16 w=>
 Zr t16
 (ncP t0<|
 fld 0 t0 w λt19 w=>
 ld1 t19 w λt20 w=>
 Cl prog 201 #[t20,t1,t12] w λt23 w=>
 K t23 w)
 (bi .eql .i64 t14 (Iw 0) w λt25 w=>
 Zr t25
 (ncP t0<|
 fld 0 t0 w λt28 w=>
 ld1 t28 w λt29 w=>
 Cl prog 202 #[t29,t1] w λt31 w=>
 bi .lss .i64 t31 (Iw 0) w λt34 w=>
 Zr t34
 (K (Iw 1) w)
 (bi .lss .i64 t12 t31 w λt38 w=>
 Zr t38
 (K (Iw 110) w)
 (dr w λw=>
 ncP t0<|
 fld 1 t0 w λt41 _=>
 fld 0 t41 w λt42 _=>
 ld1 t42 w λt43 _=>
 fld 1 t5 w λt44 _=>
 ldN 6 t44 w λt45 _=>
 Cl prog 203 #[t43,t45] w λt46 w=>
 K t46 w)))
 (K (Iw 130) w))
theorem Zhw (h:Zil t0 t1 t2 w K):Cl prog 198 #[t0,t1,t2] w K:=
 ZML 47 [6] Tryz.func198 h
def ZiC (t0:Value) (w:World) (K:KV):Prop:=
 al (Zl prog 100) 100 w λt2 w=>
 Cl prog 204 #[t0] w λt12 w=>
 Zb3 t12 w λt13 w=>
 Zr t13
 (bld (Zl prog 100) #[(0,6),(6,1)] [] w λt14 w=>
 stN 7 t2 t14 w λ_ w=>
 ldN 7 t2 w λr0 _=>
 K (Value.tuple #[r0,(Value.slice none 0 0),(Iw 150)]) w)
 (ncP t0<|
 fld 1 t0 w λt18 w=>
 fld 0 t18 w λt19 w=>
 ld1 t19 w λt20 w=>
 Cl prog 205 #[t20] w λt21 w=>
 xt 0 t21 w λt22 w=>
 xt 1 t21 w λ_ w=>
 al (Zl prog 81) 81 w λt5 w=>
 stN 6 t5 t22 w λ_ w=>
 dr w λw=>
 ncP t0<|
 fld 2 t0 w λt27 _=>
 fld 1 t27 w λt28 _=>
 ld1 t28 w λt29 _=>
 ncP t0<|
 fld 5 t0 w λt32 _=>
 ld1 t32 w λt33 _=>
 ixS 7 t29 t33 w λt34 _=>
 fld 3 t34 w λt35 _=>
 ld1 t35 w λt36 _=>
 ncP t0<|
 fld 6 t0 w λt39 _=>
 ld1 t39 w λt40 _=>
 fld 4 t5 w λt41 _=>
 ld1 t41 w λt42 _=>
 Cl prog 206 #[t36,t40,t42] w λt43 w=>
 xt 0 t43 w λt44 _=>
 xt 1 t43 w λt45 _=>
 dr w λw=>
 ncP t0<|
 fld 2 t0 w λt48 _=>
 ldN 3 t48 w λt49 _=>
 ncP t0<|
 fld 5 t0 w λt52 _=>
 ld1 t52 w λt53 _=>
 ncP t0<|
 fld 7 t0 w λt56 _=>
 ld1 t56 w λt57 _=>
 fld 0 t5 w λt58 _=>
 fld 0 t58 w λt59 _=>
 ld1 t59 w λt60 _=>
 fld 5 t5 w λt61 _=>
 ld1 t61 w λt62 _=>
 Cl prog 52 #[t49,t53,t57,t60,t62,t45] w λt64 w=>
 ncP t0<|
 fld 7 t0 w λt70 w=>
 ld1 t70 w λt71 w=>
 lnS t45 w λt73 w=>
 bi .add .i64 t71 t73 w λt74 w=>
 ncP t0<|
 fld 6 t0 w λt76 w=>
 stN 1 t76 t44 w λ_ w=>
 ncP t0<|
 fld 7 t0 w λt78 w=>
 stN 1 t78 t74 w λ_ w=>
 ldN 6 t5 w λt79 w=>
 bld (Zl prog 100) #[(0,6),(6,1)] [(0,t79),(1,t44)] w λt81 w=>
 al (Zl prog 100) 100 w λt10 w=>
 stN 7 t10 t81 w λ_ w=>
 dr w λw=>
 ncP t0<|
 fld 8 t0 w λt85 _=>
 ld1 t85 w λt86 _=>
 ldN 7 t10 w λt87 _=>
 bsl 100 7 1 (Zl prog 100) [(0,t87)] w λt88 w=>
 (ld1 t85 w (λv' w''=>v'=t86∧w''=w))∧(apS prog #[40,40] 40 t86 t88 w λt89 w=>
 ncP t0<|
 fld 8 t0 w λt91 _=>
 stN 1 t91 t89 w λ_ w=>
 ldN 7 t10 w λt92 w=>
 stN 7 t2 t92 w λ_ w=>
 ldN 7 t2 w λr0 _=>
 K (Value.tuple #[r0,t64,(Iw 0)]) w))
theorem ZhJ (h:ZiC t0 w K):Cl prog 199 #[t0] w K:=
 ZMM 94 [(2,some 100),(3,none),(4,none)] Tryz.func199 h
def ZiS (t0:Value) (w:World) (K:KV):Prop:=
 ncP t0<|
 fld 1 t0 w λt10 w=>
 ldN 1 t10 w λt11 w=>
 Cl prog 207 #[t11] w λt12 w=>
 xt 0 t12 w λt13 w=>
 xt 1 t12 w λt14 w=>
 al (Zl prog 81) 81 w λt5 w=>
 stN 6 t5 t13 w λ_ w=>
 J1 (λt4 w=>
 dr w λw=>
 ncP t0<|
 fld 0 t0 w λt21 _=>
 ld1 t21 w λt22 _=>
 ncP t0<|
 fld 2 t0 w λt26 _=>
 fld 1 t26 w λt27 _=>
 ld1 t27 w λt28 _=>
 ncP t0<|
 fld 5 t0 w λt31 _=>
 ld1 t31 w λt32 _=>
 ixS 7 t28 t32 w λt33 _=>
 fld 1 t33 w λt34 _=>
 ld1 t34 w λt35 _=>
 Cl prog 208 #[t22,t4,t35] w λt36 w=>
 xt 0 t36 w λt37 _=>
 xt 1 t36 w λt38 _=>
 K (Value.tuple #[t37,t38]) w) λk1=>
 Zr t14
 (fld 0 t5 w λt16 w=>
 fld 0 t16 w λt17 w=>
 ld1 t17 w λt18 w=>
 k1 t18 w)
 (k1 (Iw 1125899906842624) w)
theorem Zhs (h:ZiS t0 w K):Cl prog 200 #[t0] w K:=
 ZML 39 [2,3] Tryz.func200 h
def Zd3 (t0 t1 t2:Value) (w:World) (K:KV):Prop:=
 ncP t0<|
 fld 0 t0 w λt12 w=>
 ld1 t12 w λt13 w=>
 lkM prog 134 t13 t1 true w λt15 w=>
 xt 0 t15 w λt16 w=>
 xt 1 t15 w λt17 w=>
 Zb3 t17 w λt20 w=>
 gd t20 false (λk=>k t2 w) w λt22 w=>
 gd t20 false (λk=>Cl prog 97 #[t22] w k) w λt23 w=>
 gd t20 false (λk=>Zb3 t23 w k) w λt24 w=>
 pk t20 (Value.bool true) t24 w λt25 w=>
 Zr t25
 (K (Iw 1) w)
 (bi .lss .i64 t2 t16 w λt29 w=>
 Zr t29
 (K (Iw 110) w)
 (ncP t0<|
 fld 0 t0 w λt32 w=>
 ld1 t32 w λt33 w=>
 upM prog 134 t33 t1 t2 w λ_ w=>
 K (Iw 0) w))
theorem Zeg (h:Zd3 t0 t1 t2 w K):Cl prog 201 #[t0,t1,t2] w K:=
 ZML 36 [6] Tryz.func201 h
def ZfH (t0 t1:Value) (w:World) (K:KV):Prop:=
 ncP t0<|
 fld 0 t0 w λt10 w=>
 ld1 t10 w λt11 w=>
 lkM prog 134 t11 t1 true w λt13 w=>
 xt 0 t13 w λt14 w=>
 xt 1 t13 w λt15 w=>
 Zr t15
 (K t14 w)
 (K (Iw (-1)) w)
theorem ZfS (h:ZfH t0 t1 w K):Cl prog 202 #[t0,t1] w K:=
 ZML 18 [4] Tryz.func202 h
def Zfj (t0 t1:Value) (w:World) (K:KV):Prop:=
 al (Value.cells t1) 81 w λt3 w=>
 dr w λw=>
 ncP t0<|
 fld 2 t0 w λt10 _=>
 ld1 t10 w λt11 _=>
 fld 0 t3 w λt12 _=>
 ldN 3 t12 w λt13 _=>
 lkM prog 175 t11 t13 true w λt14 w=>
 xt 0 t14 w λ_ _=>
 xt 1 t14 w λt16 _=>
 Zr t16
 (K (Iw 3) w)
 (dr w λw=>
 ncP t0<|
 fld 1 t0 w λt20 _=>
 ld1 t20 w λt21 _=>
 lnS t21 w λt22 _=>
 ncP t0<|
 fld 0 t0 w λt25 _=>
 ld1 t25 w λt26 _=>
 bi .geq .i64 t22 t26 w λt27 _=>
 Zr t27
 (K (Iw 2) w)
 (bld (Zl prog 286) #[(0,1)] [(0,t0)] w λt29 w=>
 ldN 6 t3 w λt31 w=>
 Cl prog 209 #[(Value.iface 286 t29),(Value.iface 81 t31)] w λ_ w=>
 K (Iw 0) w))
theorem Zfb (h:Zfj t0 t1 w K):Cl prog 203 #[t0,t1] w K:=
 ZML 34 [4] Tryz.func203 h
def Zjp (t0:Value) (w:World) (K:KV):Prop:=
 ncP t0<|
 fld 1 t0 w λt8 w=>
 ldN 1 t8 w λt9 w=>
 Cl prog 207 #[t9] w λt10 w=>
 xt 0 t10 w λt11 w=>
 xt 1 t10 w λt12 w=>
 al (Zl prog 81) 81 w λt3 w=>
 stN 6 t3 t11 w λ_ w=>
 dr w λw=>
 gd t12 true (λk=>fld 0 t3 w k) w λt15 _=>
 gd t12 true (λk=>fld 0 t15 w k) w λt16 _=>
 gd t12 true (λk=>ld1 t16 w k) w λt17 _=>
 gd t12 true (λk=>k t0 w) w λt18 _=>
 gd t12 true (λk=>nc t18 w k) w λt19 _=>
 gd t12 true (λk=>fld 2 t19 w k) w λt20 _=>
 gd t12 true (λk=>fld 2 t20 w k) w λt21 _=>
 gd t12 true (λk=>ld1 t21 w k) w λt22 _=>
 gd t12 true (λk=>k t0 w) w λt23 _=>
 gd t12 true (λk=>nc t23 w k) w λt24 _=>
 gd t12 true (λk=>fld 0 t24 w k) w λt25 _=>
 gd t12 true (λk=>ld1 t25 w k) w λt26 _=>
 gd t12 true (λk=>Cl prog 169 #[t26] w k) w λt27 w=>
 (gd t12 true (λk=>ld1 t21 w k) w (λv' w''=>v'=t22∧w''=w))∧((gd t12 true (λk=>ld1 t16 w k) w (λv' w''=>v'=t17∧w''=w))∧(gd t12 true (λk=>mnI .i64 t22 t27 w k) w λt28 w=>
 (gd t12 true (λk=>ld1 t16 w k) w (λv' w''=>v'=t17∧w''=w))∧(gd t12 true (λk=>bi .lss .i64 t17 t28 w k) w λt29 _=>
 pk t12 t29 (Value.bool false) w λt30 _=>
 K t30 w)))
theorem ZhL (h:Zjp t0 w K):Cl prog 204 #[t0] w K:=
 ZML 31 [2] Tryz.func204 h
def ZdA (t0:Value) (w:World) (K:KV):Prop:=
 al (Zl prog 81) 81 w λt2 w=>
 ncP t0<|
 fld 1 t0 w λt6 w=>
 ld1 t6 w λt7 w=>
 lnS t7 w λt8 w=>
 bi .eql .i64 t8 (Iw 0) w λt9 w=>
 Zr t9
 (bld (Zl prog 81) #[(0,3),(3,1),(4,1),(5,1)] [] w λt10 w=>
 stN 6 t2 t10 w λ_ w=>
 ldN 6 t2 w λr0 _=>
 K (Value.tuple #[r0,(Value.bool false)]) w)
 (bld (Zl prog 286) #[(0,1)] [(0,t0)] w λt12 w=>
 Cl prog 211 #[(Value.iface 286 t12)] w λt14 w=>
 tyA prog t14 20 81 false w λt15 w=>
 stN 6 t2 t15 w λ_ w=>
 ldN 6 t2 w λr0 _=>
 K (Value.tuple #[r0,(Value.bool true)]) w)
theorem ZcK (h:ZdA t0 w K):Cl prog 205 #[t0] w K:=
 ZMM 16 [(2,some 81),(3,none)] Tryz.func205 h
def Znm (t0 t1 t2:Value) (w:World) (K:KV):Prop:=
 Cl prog 212 #[t0,t1,t2] w λt12 w=>
 bi .lss .i64 t12 (Iw 0) w λt14 w=>
 Zr t14
 (K (Value.tuple #[t1,(Value.slice none 0 0)]) w)
 (dr w λw=>
 ixS 4 t0 t12 w λt18 _=>
 fld 2 t18 w λt19 _=>
 ld1 t19 w λt20 _=>
 ixS 4 t0 t12 w λt23 _=>
 fld 3 t23 w λt24 _=>
 ld1 t24 w λt25 _=>
 Cl prog 87 #[t25] w λt26 w=>
 (ld1 t19 w (λv' w''=>v'=t20∧w''=w))∧(K (Value.tuple #[t20,t26]) w))
theorem Zk2 (h:Znm t0 t1 t2 w K):Cl prog 206 #[t0,t1,t2] w K:=
 ZML 27 [6,7] Tryz.func206 h
def ZfW (t0:Value) (w:World) (K:KV):Prop:=
 al (Value.cells t0) 126 w λt1 w=>
 al (Zl prog 81) 81 w λt2 w=>
 fld 0 t1 w λt4 w=>
 ld1 t4 w λt5 w=>
 Cl prog 99 #[t5] w λt6 w=>
 xt 0 t6 w λt7 w=>
 xt 1 t6 w λt8 w=>
 stN 6 t2 t7 w λ_ w=>
 ldN 6 t2 w λr0 _=>
 K (Value.tuple #[r0,t8]) w
theorem Zf1 (h:ZfW t0 w K):Cl prog 207 #[t0] w K:=
 ZMM 9 [(2,some 81),(3,none)] Tryz.func207 h
def ZdP (t0 t1 t2:Value) (w:World) (K:KV):Prop:=
 Cl prog 169 #[t0] w λt11 w=>
 bsl 3 1 2 (Zl prog 3) [(0,t1),(1,t11)] w λt12 w=>
 Cl prog 70 #[t12] w λt13 w=>
 Cl prog 111 #[t13,t2] w λt15 w=>
 ncP t0<|
 fld 1 t0 w λt19 w=>
 ld1 t19 w λt20 w=>
 bi .leq .i64 t15 t20 w λt21 w=>
 Zr t21
 (ncP t0<|
 fld 1 t0 w λt24 w=>
 ld1 t24 w λt25 w=>
 K (Value.tuple #[t25,(Value.bool false)]) w)
 (ncP t0<|
 fld 1 t0 w λt29 w=>
 stN 1 t29 t15 w λ_ w=>
 K (Value.tuple #[t15,(Value.bool true)]) w)
theorem Zem (h:ZdP t0 t1 t2 w K):Cl prog 208 #[t0,t1,t2] w K:=
 ZML 31 [6,7] Tryz.func208 h
def ZpP (t0 t1:Value) (w:World) (K:KV):Prop:=
 clI prog t0 "Push" #[t1] w λ_ w=>
 clI prog t0 "Len" #[] w λt9 w=>
 bi .sub .i64 t9 (Iw 1) w λt10 w=>
 Cl prog 213 #[t0,t10] w λ_ w=>
 K (Value.tuple #[]) w
theorem Zme (h:ZpP t0 t1 w K):Cl prog 209 #[t0,t1] w K:=
 ZML 12 [] Tryz.func209 h
def ZcJ (t0 t1:Value) (w:World) (K:KV):Prop:=
 ld1 t1 w λt3 w=>
 mnI .i64 t3 t0 w λt5 w=>
 stN 1 t1 t5 w λ_ w=>
 K (Value.tuple #[]) w
theorem Zda (h:ZcJ t0 t1 w K):Cl prog 210 #[t0,t1] w K:=
 ZML 6 [] Tryz.func210 h
def Zr2 (t0:Value) (w:World) (K:KV):Prop:=
 clI prog t0 "Len" #[] w λt5 w=>
 bi .sub .i64 t5 (Iw 1) w λt6 w=>
 clI prog t0 "Swap" #[(Iw 0),t6] w λ_ w=>
 Cl prog 214 #[t0,(Iw 0),t6] w λ_ w=>
 clI prog t0 "Pop" #[] w λt14 w=>
 K t14 w
theorem ZmV (h:Zr2 t0 w K):Cl prog 211 #[t0] w K:=
 ZML 15 [2] Tryz.func211 h
def Znc (t0 t1 t2:Value) (w:World) (K:KV):Prop:=
 al (Value.cells t1) 3 w λt4 w=>
 al (Value.cells t2) 3 w λt5 w=>
 Cl prog 215 #[t0,(Value.func (Fn.func 216) #[] #[t4,t5])] w λt9 w=>
 K t9 w
theorem Zk3 (h:Znc t0 t1 t2 w K):Cl prog 212 #[t0,t1,t2] w K:=
 ZML 10 [6] Tryz.func212 h
def Zrd (t0 t1:Value) (w:World) (K:KV):Prop:=
 lp [t1] w (b1 λt1_1 w g1=>
 bi .sub .i64 t1_1 (Iw 1) w λt6 w=>
 bi .quo .i64 t6 (Iw 2) w λt7 w=>
 bi .eql .i64 t7 t1_1 w λt10 w=>
 gd t10 false (λk=>k t0 w) w λt12 w=>
 gd t10 false (λk=>k t1_1 w) w λt13 w=>
 gd t10 false (λk=>k t7 w) w λt14 w=>
 gd t10 false (λk=>clI prog t12 "Less" #[t13,t14] w k) w λt15 w=>
 gd t10 false (λk=>Zb3 t15 w k) w λt16 w=>
 pk t10 (Value.bool true) t16 w λt17 w=>
 Zr t17
 (K (Value.tuple #[]) w)
 (clI prog t0 "Swap" #[t7,t1_1] w λ_ w=>
 g1 [t7] w))
theorem ZiM (h:Zrd t0 t1 w K):Cl prog 213 #[t0,t1] w K:=
 ZML 23 [] Tryz.func213 h
def Zmo (t0 t1 t2:Value) (w:World) (K:KV):Prop:=
 J1 (λt7 w=>
 bi .gtr .i64 t7 t1 w λt47 w=>
 K t47 w) λk1=>
 lp [t1] w (b1 λt7_1 w g2=>
 bi .mul .i64 (Iw 2) t7_1 w λt13 w=>
 bi .add .i64 t13 (Iw 1) w λt14 w=>
 bi .geq .i64 t14 t2 w λt17 w=>
 gd t17 false (λk=>k t14 w) w λt19 w=>
 gd t17 false (λk=>bi .lss .i64 t19 (Iw 0) w k) w λt20 w=>
 pk t17 (Value.bool true) t20 w λt21 w=>
 Zr t21
 (k1 t7_1 w)
 (bi .add .i64 t14 (Iw 1) w λt24 w=>
 bi .lss .i64 t24 t2 w λt27 w=>
 gd t27 true (λk=>k t0 w) w λt29 w=>
 gd t27 true (λk=>k t24 w) w λt30 w=>
 gd t27 true (λk=>k t14 w) w λt31 w=>
 gd t27 true (λk=>clI prog t29 "Less" #[t30,t31] w k) w λt32 w=>
 pk t27 t32 (Value.bool false) w λt33 w=>
 J1 (λt9 w=>
 clI prog t0 "Less" #[t9,t7_1] w λt38 w=>
 Zb3 t38 w λt39 w=>
 Zr t39
 (k1 t7_1 w)
 (clI prog t0 "Swap" #[t7_1,t9] w λ_ w=>
 g2 [t9] w)) λk3=>
 Zr t33
 (k3 t24 w)
 (k3 t14 w)))
theorem Zf3 (h:Zmo t0 t1 t2 w K):Cl prog 214 #[t0,t1,t2] w K:=
 ZML 48 [6] Tryz.func214 h
def ZaG (t0 t1:Value) (w:World) (K:KV):Prop:=
 lnS t0 w λt7 w=>
 lp [(Iw 0)] w (b1 λt8 w g1=>
 bi .lss .i64 t8 t7 w λt9 w=>
 Zr t9
 (ixS 4 t0 t8 w λt14 w=>
 ldN 4 t14 w λt15 w=>
 clV prog t1 #[t15] w λt16 w=>
 Zr t16
 (K t8 w)
 (bi .add .i64 t8 (Iw 1) w λt18 w=>
 g1 [t18] w))
 (K (Iw (-1)) w))
theorem Zbp (h:ZaG t0 t1 w K):Cl prog 215 #[t0,t1] w K:=
 ZML 19 [4] Tryz.func215 h
def ZkP (t0 t1 t2:Value) (w:World) (K:KV):Prop:=
 al (Value.cells t0) 48 w λt3 w=>
 fld 0 t3 w λt5 w=>
 ld1 t5 w λt6 w=>
 ld1 t1 w λt7 w=>
 bi .eql .i64 t6 t7 w λt8 w=>
 gd t8 true (λk=>fld 1 t3 w k) w λt10 w=>
 gd t8 true (λk=>ld1 t10 w k) w λt11 w=>
 gd t8 true (λk=>ld1 t2 w k) w λt12 w=>
 gd t8 true (λk=>bi .eql .i64 t11 t12 w k) w λt13 w=>
 pk t8 t13 (Value.bool false) w λt14 w=>
 K t14 w
theorem Zie (h:ZkP t0 t1 t2 w K):Cl prog 216 #[t0,t1,t2] w K:=
 ZML 15 [4] Tryz.func216 h
def Zjl (t0:Value) (w:World) (K:KV):Prop:=
 ncP t0<|
 fld 10 t0 w λt5 w=>
 ld1 t5 w λt6 w=>
 Cl prog 172 #[t6] w λt7 w=>
 K t7 w
theorem Zh5 (h:Zjl t0 w K):Cl prog 217 #[t0] w K:=
 ZML 8 [2] Tryz.func217 h
def ZdO (t0:Value) (w:World) (K:KV):Prop:=
 ncP t0<|
 fld 6 t0 w λt5 w=>
 ld1 t5 w λt6 w=>
 Cl prog 173 #[t6] w λt7 w=>
 K t7 w
theorem Zes (h:ZdO t0 w K):Cl prog 218 #[t0] w K:=
 ZML 8 [2] Tryz.func218 h
def Zi9 (t0 t1 t2:Value) (w:World) (K:KV):Prop:=
 al (Value.cells t2) 84 w λt5 w=>
 dr w λw=>
 ncP t0<|
 fld 0 t0 w λt10 _=>
 ld1 t10 w λt11 _=>
 ldN 8 t5 w λt13 _=>
 Cl prog 222 #[t11,t1,t13] w λt14 w=>
 xt 0 t14 w λt15 _=>
 xt 1 t14 w λt16 _=>
 K (Value.tuple #[t15,t16]) w
theorem ZhX (h:Zi9 t0 t1 t2 w K):Cl prog 219 #[t0,t1,t2] w K:=
 ZML 17 [6,7] Tryz.func219 h
def ZjC (t0:Value) (w:World) (K:KV):Prop:=
 ncP t0<|
 fld 0 t0 w λt10 w=>
 ld1 t10 w λt11 w=>
 Cl prog 223 #[t11] w λt12 w=>
 xt 0 t12 w λt13 w=>
 xt 1 t12 w λt14 w=>
 xt 2 t12 w λt15 w=>
 al (Zl prog 100) 100 w λt4 w=>
 stN 7 t4 t13 w λ_ w=>
 K (Value.tuple #[t14,t15]) w
theorem ZhW (h:ZjC t0 w K):Cl prog 220 #[t0] w K:=
 ZML 18 [2,3] Tryz.func220 h
def Zio (t0:Value) (w:World) (K:KV):Prop:=
 ncP t0<|
 fld 0 t0 w λt7 w=>
 ld1 t7 w λt8 w=>
 Cl prog 224 #[t8] w λt9 w=>
 ncP t0<|
 fld 2 t0 w λt13 w=>
 ld1 t13 w λt14 w=>
 bi .leq .i64 t9 t14 w λt15 w=>
 Zr t15
 (K (Value.tuple #[(Iw 0),(Value.bool false)]) w)
 (ncP t0<|
 fld 2 t0 w λt19 w=>
 stN 1 t19 t9 w λ_ w=>
 K (Value.tuple #[t9,(Value.bool true)]) w)
theorem ZhC (h:Zio t0 w K):Cl prog 221 #[t0] w K:=
 ZML 21 [2,3] Tryz.func221 h
def Zg0 (t0 t1 t2:Value) (w:World) (K:KV):Prop:=
 al (Value.cells t2) 84 w λt5 w=>
 bi .lss .i64 t1 (Iw 0) w λt15 w=>
 gd t15 false (λk=>k t1 w) w λt17 w=>
 gd t15 false (λk=>k t0 w) w λt18 w=>
 gd t15 false (λk=>nc t18 w k) w λt19 w=>
 gd t15 false (λk=>fld 0 t19 w k) w λt20 w=>
 gd t15 false (λk=>fld 1 t20 w k) w λt21 w=>
 gd t15 false (λk=>ld1 t21 w k) w λt22 w=>
 gd t15 false (λk=>lnS t22 w k) w λt23 w=>
 gd t15 false (λk=>bi .geq .i64 t17 t23 w k) w λt24 w=>
 pk t15 (Value.bool true) t24 w λt25 w=>
 gd t25 false (λk=>k t1 w) w λt27 w=>
 gd t25 false (λk=>k t0 w) w λt28 w=>
 gd t25 false (λk=>nc t28 w k) w λt29 w=>
 gd t25 false (λk=>fld 3 t29 w k) w λt30 w=>
 gd t25 false (λk=>ld1 t30 w k) w λt31 w=>
 gd t25 false (λk=>bi .eql .i64 t27 t31 w k) w λt32 w=>
 pk t25 (Value.bool true) t32 w λt33 w=>
 Zr t33
 (K (Value.tuple #[(Value.slice none 0 0),(Iw 1)]) w)
 (ncP t0<|
 fld 9 t0 w λt37 w=>
 ld1 t37 w λt38 w=>
 lkM prog 134 t38 t1 true w λt40 w=>
 xt 0 t40 w λt41 w=>
 xt 1 t40 w λt42 w=>
 fld 0 t5 w λt43 w=>
 ld1 t43 w λt44 w=>
 J2 (λt8 t9 w=>
 Cl prog 227 #[t9] w λt91 w=>
 K (Value.tuple #[t8,t91]) w) λk1=>
 J0 (λw=>
 fld 0 t5 w λt76 w=>
 ld1 t76 w λt77 w=>
 bi .eql .i64 t77 (Iw 1) w λt78 w=>
 J1 (λt13 w=>
 fld 1 t5 w λt84 w=>
 ldN 6 t84 w λt85 w=>
 clV prog t13 #[t1,t85] w λt86 w=>
 xt 0 t86 w λt87 w=>
 xt 1 t86 w λt88 w=>
 k1 t87 t88 w) λk3=>
 Zr t78
 (k3 (Value.func (Fn.func 226) #[t0] #[]) w)
 (k3 (Value.func (Fn.func 225) #[t0] #[]) w)) λk2=>
 bi .eql .i64 t44 (Iw 2) w λt46 w=>
 Zr t46
 (fld 1 t5 w λt51 w=>
 fld 0 t51 w λt52 w=>
 fld 0 t52 w λt53 w=>
 ld1 t53 w λt54 w=>
 Zb3 t42 w λt57 w=>
 gd t57 false (λk=>k t54 w) w λt59 w=>
 gd t57 false (λk=>Cl prog 97 #[t59] w k) w λt60 w=>
 gd t57 false (λk=>Zb3 t60 w k) w λt61 w=>
 pk t57 (Value.bool true) t61 w λt62 w=>
 Zr t62
 (K (Value.tuple #[(Value.slice none 0 0),(Iw 1)]) w)
 (bi .lss .i64 t54 t41 w λt66 w=>
 Zr t66
 (K (Value.tuple #[(Value.slice none 0 0),(Iw 110)]) w)
 (ncP t0<|
 fld 9 t0 w λt69 w=>
 ld1 t69 w λt70 w=>
 upM prog 134 t70 t1 t54 w λ_ w=>
 K (Value.tuple #[(Value.slice none 0 0),(Iw 0)]) w)))
 (bi .eql .i64 t44 (Iw 1) w λt48 w=>
 Zr t48
 (Zr t42
 (K (Value.tuple #[(Value.slice none 0 0),(Iw 1)]) w)
 (k2 w))
 (bi .eql .i64 t44 (Iw 0) w λt50 w=>
 Zr t50
 (k2 w)
 (K (Value.tuple #[(Value.slice none 0 0),(Iw 130)]) w))))
theorem Zgu (h:Zg0 t0 t1 t2 w K):Cl prog 222 #[t0,t1,t2] w K:=
 ZML 92 [6,7] Tryz.func222 h
def ZgX (t0:Value) (w:World) (K:KV):Prop:=
 al (Zl prog 100) 100 w λt2 w=>
 ncP t0<|
 fld 6 t0 w λt16 w=>
 ld1 t16 w λt17 w=>
 Cl prog 99 #[t17] w λt18 w=>
 xt 0 t18 w λt19 w=>
 xt 1 t18 w λt20 w=>
 al (Zl prog 81) 81 w λt5 w=>
 stN 6 t5 t19 w λ_ w=>
 dr w λw=>
 Zb3 t20 w λt23 _=>
 gd t23 false (λk=>fld 0 t5 w k) w λt25 _=>
 gd t23 false (λk=>fld 0 t25 w k) w λt26 _=>
 gd t23 false (λk=>ld1 t26 w k) w λt27 _=>
 gd t23 false (λk=>k t0 w) w λt28 _=>
 gd t23 false (λk=>nc t28 w k) w λt29 _=>
 gd t23 false (λk=>fld 0 t29 w k) w λt30 _=>
 gd t23 false (λk=>fld 2 t30 w k) w λt31 _=>
 gd t23 false (λk=>ld1 t31 w k) w λt32 _=>
 gd t23 false (λk=>bi .geq .i64 t27 t32 w k) w λt33 _=>
 pk t23 (Value.bool true) t33 w λt34 _=>
 Zr t34
 (bld (Zl prog 100) #[(0,6),(6,1)] [] w λt35 w=>
 stN 7 t2 t35 w λ_ w=>
 ldN 7 t2 w λr0 _=>
 K (Value.tuple #[r0,(Value.slice none 0 0),(Iw 150)]) w)
 (ncP t0<|
 fld 7 t0 w λt39 w=>
 ld1 t39 w λt40 w=>
 Cl prog 76 #[t40] w λt41 w=>
 bi .geq .i64 t41 (Iw 64) w λt42 w=>
 gd t42 false (λk=>k t0 w) w λt44 w=>
 gd t42 false (λk=>nc t44 w k) w λt45 w=>
 gd t42 false (λk=>fld 8 t45 w k) w λt46 w=>
 gd t42 false (λk=>ld1 t46 w k) w λt47 w=>
 gd t42 false (λk=>Cl prog 228 #[t47] w k) w λt48 w=>
 gd t42 false (λk=>lnS t48 w k) w λt49 w=>
 gd t42 false (λk=>bi .gtr .i64 t49 (Iw 192) w k) w λt50 w=>
 pk t42 (Value.bool true) t50 w λt51 w=>
 Zr t51
 (bld (Zl prog 100) #[(0,6),(6,1)] [] w λt52 w=>
 stN 7 t2 t52 w λ_ w=>
 ldN 7 t2 w λr0 _=>
 K (Value.tuple #[r0,(Value.slice none 0 0),(Iw 2)]) w)
 (ncP t0<|
 fld 6 t0 w λt55 w=>
 ld1 t55 w λt56 w=>
 Cl prog 205 #[t56] w λ_ w=>
 dr w λw=>
 ncP t0<|
 fld 0 t0 w λt61 _=>
 fld 1 t61 w λt62 _=>
 ld1 t62 w λt63 _=>
 ncP t0<|
 fld 3 t0 w λt66 _=>
 ld1 t66 w λt67 _=>
 ixS 7 t63 t67 w λt68 _=>
 fld 3 t68 w λt69 _=>
 ld1 t69 w λt70 _=>
 ncP t0<|
 fld 4 t0 w λt73 _=>
 ld1 t73 w λt74 _=>
 fld 4 t5 w λt75 _=>
 ld1 t75 w λt76 _=>
 Cl prog 206 #[t70,t74,t76] w λt77 w=>
 xt 0 t77 w λt78 _=>
 xt 1 t77 w λt79 _=>
 dr w λw=>
 ncP t0<|
 fld 0 t0 w λt82 _=>
 ldN 3 t82 w λt83 _=>
 ncP t0<|
 fld 3 t0 w λt86 _=>
 ld1 t86 w λt87 _=>
 ncP t0<|
 fld 5 t0 w λt90 _=>
 ld1 t90 w λt91 _=>
 fld 0 t5 w λt92 _=>
 fld 0 t92 w λt93 _=>
 ld1 t93 w λt94 _=>
 fld 5 t5 w λt95 _=>
 ld1 t95 w λt96 _=>
 Cl prog 52 #[t83,t87,t91,t94,t96,t79] w λt98 w=>
 dr w λw=>
 ncP t0<|
 fld 7 t0 w λt101 _=>
 ld1 t101 w λt102 _=>
 ldN 6 t5 w λt103 _=>
 ncP t0<|
 fld 4 t0 w λt106 _=>
 ld1 t106 w λt107 _=>
 ncP t0<|
 fld 5 t0 w λt110 _=>
 ld1 t110 w λt111 _=>
 bld (Zl prog 203) #[(0,6),(6,1),(7,1),(8,1),(9,1)] [(0,t103),(1,t107),(2,t111),(3,t78),(4,t98)] w λt114 w=>
 (ld1 t101 w (λv' w''=>v'=t102∧w''=w))∧(Cl prog 229 #[t102,t114] w λ_ w=>
 ncP t0<|
 fld 5 t0 w λt121 w=>
 ld1 t121 w λt122 w=>
 lnS t79 w λt124 w=>
 bi .add .i64 t122 t124 w λt125 w=>
 ncP t0<|
 fld 4 t0 w λt127 w=>
 stN 1 t127 t78 w λ_ w=>
 ncP t0<|
 fld 5 t0 w λt129 w=>
 stN 1 t129 t125 w λ_ w=>
 lnS t98 w λt131 w=>
 lp [(Value.slice none 0 0),(Iw 0)] w (b2 λt10 t132 w g1=>
 bi .lss .i64 t132 t131 w λt133 w=>
 Zr t133
 (J1 (λt10_1 w=>
 bi .add .i64 t132 (Iw 1) w λt153 w=>
 g1 [t10_1,t153] w) λk2=>
 ixS 6 t98 t132 w λt134 w=>
 ldN 6 t134 w λt135 w=>
 al (Zl prog 81) 81 w λt12 w=>
 stN 6 t12 t135 w λ_ w=>
 fld 3 t12 w λt137 w=>
 ld1 t137 w λt138 w=>
 Cl prog 230 #[t0,t138] w λt139 w=>
 Zr t139
 (ldN 6 t12 w λt141 w=>
 bld (Zl prog 84) #[(0,1),(1,6),(7,1)] [(1,t141)] w λt142 w=>
 bsl 84 8 1 (Zl prog 84) [(0,t142)] w λt143 w=>
 apS prog #[50,50] 50 t10 t143 w λt144 w=>
 k2 t144 w)
 (dr w λw=>
 ncP t0<|
 fld 8 t0 w λt147 _=>
 ld1 t147 w λt148 _=>
 fld 0 t5 w λt149 _=>
 ldN 3 t149 w λt150 _=>
 ldN 6 t12 w λt151 _=>
 Cl prog 231 #[t148,t150,t151] w λ_ w=>
 k2 t10 w))
 (ldN 6 t5 w λt154 w=>
 bld (Zl prog 100) #[(0,6),(6,1)] [(0,t154),(1,t78)] w λt156 w=>
 stN 7 t2 t156 w λ_ w=>
 ldN 7 t2 w λr0 _=>
 K (Value.tuple #[r0,t10,(Iw 0)]) w)))))
theorem ZgF (h:ZgX t0 w K):Cl prog 223 #[t0] w K:=
 ZMM 158 [(2,some 100),(3,none),(4,none)] Tryz.func223 h
def Zec (t0:Value) (w:World) (K:KV):Prop:=
 dr w λw=>
 ncP t0<|
 fld 7 t0 w λt5 _=>
 ld1 t5 w λt6 _=>
 ncP t0<|
 fld 0 t0 w λt10 _=>
 fld 1 t10 w λt11 _=>
 ld1 t11 w λt12 _=>
 ncP t0<|
 fld 3 t0 w λt15 _=>
 ld1 t15 w λt16 _=>
 ixS 7 t12 t16 w λt17 _=>
 fld 1 t17 w λt18 _=>
 ld1 t18 w λt19 _=>
 Cl prog 103 #[t6] w λt7 w=>
 (ld1 t18 w (λv' w''=>v'=t19∧w''=w))∧((ld1 t15 w (λv' w''=>v'=t16∧w''=w))∧((ld1 t11 w (λv' w''=>v'=t12∧w''=w))∧(Cl prog 111 #[t7,t19] w λt20 w=>
 K t20 w)))
theorem Zex (h:Zec t0 w K):Cl prog 224 #[t0] w K:=
 ZML 21 [2] Tryz.func224 h
def ZfQ (t0 t1 t2:Value) (w:World) (K:KV):Prop:=
 al (Value.cells t2) 81 w λt5 w=>
 fld 0 t5 w λt16 w=>
 ldN 3 t16 w λt17 w=>
 Cl prog 232 #[t0,t1,t17] w λt18 w=>
 xt 0 t18 w λt19 w=>
 xt 1 t18 w λt20 w=>
 xt 2 t18 w λt21 w=>
 xt 3 t18 w λt22 w=>
 bO prog .neq 300 (Operand.tmp 24) (Operand.const Value.nilIface) t22 Value.nilIface w λt25 w=>
 Zr t25
 (K (Value.tuple #[(Value.slice none 0 0),t22]) w)
 (gd t20 false (λk=>k t21 w) w λt30 w=>
 pk t20 (Value.bool true) t30 w λt31 w=>
 Zr t31
 (fld 0 t5 w λt32 w=>
 ldN 3 t32 w λt33 w=>
 Cl prog 233 #[t33,(Iw 3)] w λt34 w=>
 K (Value.tuple #[(Value.slice none 0 0),t34]) w)
 (ncP t0<|
 fld 6 t0 w λt38 w=>
 ld1 t38 w λt39 w=>
 Cl prog 234 #[t39] w λt40 w=>
 bi .add .i64 t40 t19 w λt42 w=>
 bi .geq .i64 t42 (Iw 64) w λt43 w=>
 Zr t43
 (fld 0 t5 w λt44 w=>
 ldN 3 t44 w λt45 w=>
 Cl prog 233 #[t45,(Iw 2)] w λt46 w=>
 K (Value.tuple #[(Value.slice none 0 0),t46]) w)
 (fld 0 t5 w λt48 w=>
 ldN 3 t48 w λt49 w=>
 Cl prog 235 #[t0,t49,(Value.bool false)] w λt50 w=>
 dr w λw=>
 ncP t0<|
 fld 6 t0 w λt53 _=>
 ld1 t53 w λt54 _=>
 ldN 6 t5 w λt55 _=>
 Cl prog 203 #[t54,t55] w λ_ w=>
 K (Value.tuple #[t50,Value.nilIface]) w)))
theorem Zft (h:ZfQ t0 t1 t2 w K):Cl prog 225 #[t0,t1,t2] w K:=
 ZML 58 [6,7] Tryz.func225 h
def Zhh (t0 t1 t2:Value) (w:World) (K:KV):Prop:=
 al (Value.cells t2) 81 w λt5 w=>
 fld 0 t5 w λt13 w=>
 ldN 3 t13 w λt14 w=>
 al (Zl prog 79) 79 w λt8 w=>
 stN 3 t8 t14 w λ_ w=>
 ldN 3 t8 w λt18 w=>
 Cl prog 232 #[t0,t1,t18] w λt19 w=>
 xt 0 t19 w λt20 w=>
 xt 1 t19 w λt21 w=>
 xt 2 t19 w λt22 w=>
 xt 3 t19 w λt23 w=>
 bO prog .neq 300 (Operand.tmp 25) (Operand.const Value.nilIface) t23 Value.nilIface w λt26 w=>
 Zr t26
 (K (Value.tuple #[(Value.slice none 0 0),t23]) w)
 (Zr t21
 (dr w λw=>
 ncP t0<|
 fld 6 t0 w λt32 _=>
 ld1 t32 w λt33 _=>
 ldN 3 t8 w λt34 _=>
 Cl prog 236 #[t33,t34] w λ_ w=>
 K (Value.tuple #[(Value.slice none 0 0),Value.nilIface]) w)
 (Zb3 t22 w λt38 w=>
 Zr t38
 (ldN 3 t8 w λt39 w=>
 Cl prog 233 #[t39,(Iw 4)] w λt40 w=>
 K (Value.tuple #[(Value.slice none 0 0),t40]) w)
 (ncP t0<|
 fld 6 t0 w λt44 w=>
 ld1 t44 w λt45 w=>
 Cl prog 234 #[t45] w λt46 w=>
 bi .add .i64 t46 t20 w λt48 w=>
 bi .gtr .i64 t48 (Iw 65) w λt49 w=>
 Zr t49
 (ldN 3 t8 w λt50 w=>
 Cl prog 233 #[t50,(Iw 2)] w λt51 w=>
 K (Value.tuple #[(Value.slice none 0 0),t51]) w)
 (ldN 3 t8 w λt53 w=>
 Cl prog 235 #[t0,t53,(Value.bool true)] w λt54 w=>
 K (Value.tuple #[t54,Value.nilIface]) w))))
theorem Zgv (h:Zhh t0 t1 t2 w K):Cl prog 226 #[t0,t1,t2] w K:=
 ZML 55 [6,7] Tryz.func226 h
def Zkf (t0:Value) (w:World) (K:KV):Prop:=
 bsl 30 1 4 (Zl prog 30) [(0,(Iw 110)),(1,(Iw 3)),(2,(Iw 4)),(3,(Iw 2))] w λt5 w=>
 lnS t5 w λt6 w=>
 lp [(Iw 0)] w (b1 λt7 w g1=>
 bi .lss .i64 t7 t6 w λt8 w=>
 Zr t8
 (ixS 1 t5 t7 w λt9 w=>
 ld1 t9 w λt10 w=>
 Cl prog 237 #[t0,(Value.iface 30 t10)] w λt14 w=>
 Zr t14
 (K t10 w)
 (bi .add .i64 t7 (Iw 1) w λt16 w=>
 g1 [t16] w))
 (K (Iw 0) w))
theorem ZeI (h:Zkf t0 w K):Cl prog 227 #[t0] w K:=
 ZML 17 [2] Tryz.func227 h
def Zg3 (t0:Value) (w:World) (K:KV):Prop:=
 ncP t0<|
 fld 1 t0 w λt5 w=>
 ld1 t5 w λt6 w=>
 Cl prog 131 #[t6] w λt7 w=>
 K t7 w
theorem ZgK (h:Zg3 t0 w K):Cl prog 228 #[t0] w K:=
 ZML 8 [2] Tryz.func228 h
def Zhj (t0 t1:Value) (w:World) (K:KV):Prop:=
 al (Value.cells t1) 203 w λt3 w=>
 Cl prog 238 #[t0] w λt9 w=>
 xt 0 t9 w λt10 w=>
 xt 1 t9 w λt11 w=>
 al (Zl prog 203) 203 w λt5 w=>
 stN 10 t5 t10 w λ_ w=>
 dr w λw=>
 fld 0 t3 w λt13 _=>
 fld 0 t13 w λt14 _=>
 fld 0 t14 w λt15 _=>
 ld1 t15 w λt16 _=>
 ncP t0<|
 fld 0 t0 w λt19 _=>
 ld1 t19 w λt20 _=>
 bi .lss .i64 t16 t20 w λt21 _=>
 Zr t21
 (K (Iw 110) w)
 (gd t11 true (λk=>ldN 10 t5 w k) w λt25 w=>
 gd t11 true (λk=>fld 0 t3 w k) w λt26 w=>
 gd t11 true (λk=>fld 0 t26 w k) w λt27 w=>
 gd t11 true (λk=>ldN 3 t27 w k) w λt28 w=>
 gd t11 true (λk=>Cl prog 239 #[t25,t28] w k) w λt29 w=>
 gd t11 true (λk=>Zb3 t29 w k) w λt30 w=>
 pk t11 t30 (Value.bool false) w λt31 w=>
 Zr t31
 (K (Iw 130) w)
 (ncP t0<|
 fld 1 t0 w λt35 w=>
 ld1 t35 w λt36 w=>
 lnS t36 w λt37 w=>
 bi .geq .i64 t37 (Iw 64) w λt38 w=>
 Zr t38
 (K (Iw 2) w)
 (dr w λw=>
 ncP t0<|
 fld 1 t0 w λt42 _=>
 ld1 t42 w λt43 _=>
 ldN 10 t3 w λt44 _=>
 Cl prog 240 #[t44] w λt45 w=>
 (ld1 t42 w (λv' w''=>v'=t43∧w''=w))∧(bsl 203 10 1 (Zl prog 203) [(0,t45)] w λt46 w=>
 (ld1 t42 w (λv' w''=>v'=t43∧w''=w))∧(apS prog #[183,183] 183 t43 t46 w λt47 w=>
 ncP t0<|
 fld 1 t0 w λt49 _=>
 stN 1 t49 t47 w λ_ w=>
 K (Iw 0) w)))))
theorem Zgy (h:Zhj t0 t1 w K):Cl prog 229 #[t0,t1] w K:=
 ZML 50 [4] Tryz.func229 h
def Zhg (t0 t1:Value) (w:World) (K:KV):Prop:=
 ncP t0<|
 fld 0 t0 w λt7 w=>
 fld 1 t7 w λt8 w=>
 ld1 t8 w λt9 w=>
 ixS 7 t9 t1 w λt11 w=>
 fld 0 t11 w λt12 w=>
 ld1 t12 w λt13 w=>
 bi .eql .i64 t13 (Iw 1) w λt14 w=>
 K t14 w
theorem ZgP (h:Zhg t0 t1 w K):Cl prog 230 #[t0,t1] w K:=
 ZML 15 [4] Tryz.func230 h
def ZgT (t0 t1 t2:Value) (w:World) (K:KV):Prop:=
 al (Value.cells t1) 79 w λt4 w=>
 al (Value.cells t2) 81 w λt5 w=>
 dr w λw=>
 fld 0 t4 w λt8 _=>
 ld1 t8 w λt9 _=>
 ncP t0<|
 fld 0 t0 w λt12 _=>
 ld1 t12 w λt13 _=>
 bi .lss .i64 t9 t13 w λt14 _=>
 Zr t14
 (K (Iw 110) w)
 (ncP t0<|
 fld 1 t0 w λt18 w=>
 ld1 t18 w λt19 w=>
 lnS t19 w λt20 w=>
 bi .geq .i64 t20 (Iw 256) w λt21 w=>
 Zr t21
 (K (Iw 2) w)
 (dr w λw=>
 ncP t0<|
 fld 1 t0 w λt25 _=>
 ld1 t25 w λt26 _=>
 ldN 3 t4 w λt27 _=>
 ldN 6 t5 w λt28 _=>
 bld (Zl prog 223) #[(0,3),(3,6)] [(0,t27),(1,t28)] w λt29 w=>
 (ld1 t25 w (λv' w''=>v'=t26∧w''=w))∧(bsl 223 9 1 (Zl prog 223) [(0,t29)] w λt30 w=>
 (ld1 t25 w (λv' w''=>v'=t26∧w''=w))∧(apS prog #[186,186] 186 t26 t30 w λt31 w=>
 ncP t0<|
 fld 1 t0 w λt33 _=>
 stN 1 t33 t31 w λ_ w=>
 K (Iw 0) w))))
theorem ZgC (h:ZgT t0 t1 t2 w K):Cl prog 231 #[t0,t1,t2] w K:=
 ZML 34 [6] Tryz.func231 h
def Zih (t0 t1 t2:Value) (w:World) (K:KV):Prop:=
 al (Value.cells t2) 79 w λt5 w=>
 ncP t0<|
 fld 9 t0 w λt18 w=>
 ld1 t18 w λt19 w=>
 lkM prog 134 t19 t1 true w λt21 w=>
 xt 0 t21 w λt22 w=>
 xt 1 t21 w λt23 w=>
 dr w λw=>
 fld 0 t5 w λt24 _=>
 ld1 t24 w λt25 _=>
 ncP t0<|
 fld 7 t0 w λt28 _=>
 ld1 t28 w λt29 _=>
 Cl prog 103 #[t29] w λt30 w=>
 (ld1 t24 w (λv' w''=>v'=t25∧w''=w))∧(bi .lss .i64 t25 t30 w λt31 _=>
 gd t31 false (λk=>k t23 w) w λt33 _=>
 gd t31 false (λk=>k t33 w) w λt34 _=>
 gd t34 true (λk=>fld 0 t5 w k) w λt35 _=>
 gd t34 true (λk=>ld1 t35 w k) w λt36 _=>
 gd t34 true (λk=>k t22 w) w λt37 _=>
 gd t34 true (λk=>bi .lss .i64 t36 t37 w k) w λt38 _=>
 gd t31 false (λk=>pk t34 t38 (Value.bool false) w k) w λt39 _=>
 pk t31 (Value.bool true) t39 w λt40 _=>
 Zr t40
 (ldN 3 t5 w λt41 w=>
 Cl prog 233 #[t41,(Iw 110)] w λt42 w=>
 K (Value.tuple #[(Iw 0),(Value.bool false),(Value.bool false),t42]) w)
 (ncP t0<|
 fld 7 t0 w λt45 w=>
 ld1 t45 w λt46 w=>
 Cl prog 241 #[t46] w λt47 w=>
 lnS t47 w λt48 w=>
 lp [(Iw 0),(Value.bool false),(Iw 0)] w (b3 λt6 t8 t49 w g1=>
 bi .lss .i64 t49 t48 w λt50 w=>
 Zr t50
 (ixS 3 t47 t49 w λt51 w=>
 ldN 3 t51 w λt52 w=>
 al (Zl prog 79) 79 w λt13 w=>
 stN 3 t13 t52 w λ_ w=>
 ldN 3 t13 w λt53 w=>
 ldN 3 t5 w λt54 w=>
 Cl prog 130 #[t53,t54] w λt55 w=>
 bi .geq .i64 t55 (Iw 0) w λt57 w=>
 J1 (λt6_1 w=>
 gd t8 false (λk=>k t55 w) w λt62 w=>
 gd t8 false (λk=>bi .eql .i64 t62 (Iw 0) w k) w λt63 w=>
 pk t8 (Value.bool true) t63 w λt64 w=>
 bi .add .i64 t49 (Iw 1) w λt65 w=>
 g1 [t6_1,t64,t65] w) λk2=>
 Zr t57
 (bi .add .i64 t6 (Iw 1) w λt59 w=>
 k2 t59 w)
 (k2 t6 w))
 (ncP t0<|
 fld 6 t0 w λt68 w=>
 ld1 t68 w λt69 w=>
 Cl prog 173 #[t69] w λt70 w=>
 Cl prog 242 #[t70,(Value.func (Fn.func 243) #[] #[t5])] w λt72 w=>
 K (Value.tuple #[t6,t72,t8,Value.nilIface]) w))))
theorem Zic (h:Zih t0 t1 t2 w K):Cl prog 232 #[t0,t1,t2] w K:=
 ZML 76 [6,7,8,9] Tryz.func232 h
def Zpt (t0 t1:Value) (w:World) (K:KV):Prop:=
 al (Value.cells t0) 79 w λt2 w=>
 ldN 3 t2 w λt5 w=>
 bld (Zl prog 322) #[(0,3),(3,1)] [(0,t5),(1,(Value.iface 30 t1))] w λt8 w=>
 al (Value.cells t8) 322 w λt9 w=>
 K (Value.iface 320 t9) w
theorem Zmd (h:Zpt t0 t1 w K):Cl prog 233 #[t0,t1] w K:=
 ZML 11 [4] Tryz.func233 h
def Zhb (t0:Value) (w:World) (K:KV):Prop:=
 ncP t0<|
 fld 1 t0 w λt5 w=>
 ld1 t5 w λt6 w=>
 lnS t6 w λt7 w=>
 K t7 w
theorem ZgE (h:Zhb t0 w K):Cl prog 234 #[t0] w K:=
 ZML 8 [2] Tryz.func234 h
def ZgR (t0 t1 t2:Value) (w:World) (K:KV):Prop:=
 al (Value.cells t1) 79 w λt4 w=>
 dr w λw=>
 ncP t0<|
 fld 7 t0 w λt14 _=>
 ld1 t14 w λt15 _=>
 ldN 3 t4 w λt16 _=>
 Cl prog 244 #[t15,t16] w λt17 w=>
 lnS t17 w λt18 _=>
 lp [(Value.slice none 0 0),(Iw 0)] w (b2 λt7 t19 w g1=>
 bi .lss .i64 t19 t18 w λt20 w=>
 Zr t20
 (ixS 10 t17 t19 w λt21 w=>
 ldN 10 t21 w λt22 w=>
 al (Zl prog 203) 203 w λt9 w=>
 stN 10 t9 t22 w λ_ w=>
 dr w λw=>
 fld 6 t9 w λt25 _=>
 ld1 t25 w λt26 _=>
 fld 7 t9 w λt27 _=>
 ld1 t27 w λt28 _=>
 ncP t0<|
 fld 4 t0 w λt30 _=>
 stN 1 t30 t26 w λ_ w=>
 (ld1 t27 w (λv' w''=>v'=t28∧w''=w))∧(ncP t0<|
 fld 5 t0 w λt32 _=>
 stN 1 t32 t28 w λ_ w=>
 Zb3 t2 w λt34 w=>
 gd t34 false (λk=>fld 0 t9 w k) w λt36 w=>
 gd t34 false (λk=>fld 0 t36 w k) w λt37 w=>
 gd t34 false (λk=>ldN 3 t37 w k) w λt38 w=>
 gd t34 false (λk=>ldN 3 t4 w k) w λt39 w=>
 gd t34 false (λk=>bO prog .neq 79 (Operand.tmp 38) (Operand.tmp 39) t38 t39 w k) w λt40 w=>
 pk t34 (Value.bool true) t40 w λt41 w=>
 J0 (λw=>
 fld 9 t9 w λt49 w=>
 ld1 t49 w λt50 w=>
 lnS t50 w λt51 w=>
 lp [t7,(Iw 0)] w (b2 λt7_1 t52 w g3=>
 bi .lss .i64 t52 t51 w λt53 w=>
 Zr t53
 (J1 (λt7_2 w=>
 bi .add .i64 t52 (Iw 1) w λt65 w=>
 g3 [t7_2,t65] w) λk4=>
 ixS 6 t50 t52 w λt54 w=>
 ldN 6 t54 w λt55 w=>
 al (Zl prog 81) 81 w λt11 w=>
 stN 6 t11 t55 w λ_ w=>
 fld 3 t11 w λt57 w=>
 ld1 t57 w λt58 w=>
 Cl prog 230 #[t0,t58] w λt59 w=>
 Zr t59
 (ldN 6 t11 w λt61 w=>
 bld (Zl prog 84) #[(0,1),(1,6),(7,1)] [(0,(Iw 1)),(1,t61)] w λt62 w=>
 bsl 84 8 1 (Zl prog 84) [(0,t62)] w λt63 w=>
 apS prog #[50,50] 50 t7_1 t63 w λt64 w=>
 k4 t64 w)
 (k4 t7_1 w))
 (bi .add .i64 t19 (Iw 1) w λt66 w=>
 g1 [t7_1,t66] w))) λk2=>
 Zr t41
 (dr w λw=>
 ncP t0<|
 fld 6 t0 w λt44 _=>
 ld1 t44 w λt45 _=>
 fld 0 t9 w λt46 _=>
 ldN 6 t46 w λt47 _=>
 Cl prog 203 #[t45,t47] w λ_ w=>
 k2 w)
 (k2 w)))
 (dr w λw=>
 ncP t0<|
 fld 8 t0 w λt69 _=>
 ld1 t69 w λt70 _=>
 ldN 3 t4 w λt71 _=>
 Cl prog 245 #[t70,t71] w λ_ w=>
 K t7 w))
theorem ZgL (h:ZgR t0 t1 t2 w K):Cl prog 235 #[t0,t1,t2] w K:=
 ZML 74 [6] Tryz.func235 h
def Zd7 (t0 t1:Value) (w:World) (K:KV):Prop:=
 al (Value.cells t1) 79 w λt3 w=>
 al (Zl prog 81) 81 w λt4 w=>
 dr w λw=>
 ncP t0<|
 fld 2 t0 w λt11 _=>
 ld1 t11 w λt12 _=>
 ldN 3 t3 w λt13 _=>
 lkM prog 175 t12 t13 true w λt14 w=>
 xt 0 t14 w λt15 _=>
 xt 1 t14 w λt16 _=>
 Zb3 t16 w λt18 w=>
 Zr t18
 (bld (Zl prog 81) #[(0,3),(3,1),(4,1),(5,1)] [] w λt19 w=>
 stN 6 t4 t19 w λ_ w=>
 ldN 6 t4 w λr0 _=>
 K (Value.tuple #[r0,(Value.bool false)]) w)
 (bld (Zl prog 286) #[(0,1)] [(0,t0)] w λt21 w=>
 Cl prog 246 #[(Value.iface 286 t21),t15] w λt24 w=>
 tyA prog t24 20 81 false w λt25 w=>
 stN 6 t4 t25 w λ_ w=>
 ldN 6 t4 w λr0 _=>
 K (Value.tuple #[r0,(Value.bool true)]) w)
theorem Zeh (h:Zd7 t0 t1 w K):Cl prog 236 #[t0,t1] w K:=
 ZMM 26 [(4,some 81),(5,none)] Tryz.func236 h
def Zlp (t0 t1:Value) (w:World) (K:KV):Prop:=
 bO prog .eql 300 (Operand.tmp 6) (Operand.const Value.nilIface) t0 Value.nilIface w λt7 w=>
 gd t7 false (λk=>k t1 w) w λt9 w=>
 gd t7 false (λk=>bO prog .eql 300 (Operand.tmp 9) (Operand.const Value.nilIface) t9 Value.nilIface w k) w λt10 w=>
 pk t7 (Value.bool true) t10 w λt11 w=>
 Zr t11
 (bO prog .eql 300 (Operand.tmp 12) (Operand.tmp 13) t0 t1 w λt14 w=>
 K t14 w)
 (Cl prog 247 #[t1] w λt16 w=>
 clI prog t16 "Comparable" #[] w λt17 w=>
 Cl prog 248 #[t0,t1,t17] w λt21 w=>
 K t21 w)
theorem Zfm (h:Zlp t0 t1 w K):Cl prog 237 #[t0,t1] w K:=
 ZML 22 [4] Tryz.func237 h
def Zhi (t0:Value) (w:World) (K:KV):Prop:=
 al (Zl prog 203) 203 w λt2 w=>
 ncP t0<|
 fld 1 t0 w λt6 w=>
 ld1 t6 w λt7 w=>
 lnS t7 w λt8 w=>
 bi .eql .i64 t8 (Iw 0) w λt9 w=>
 Zr t9
 (bld (Zl prog 203) #[(0,6),(6,1),(7,1),(8,1),(9,1)] [] w λt10 w=>
 stN 10 t2 t10 w λ_ w=>
 ldN 10 t2 w λr0 _=>
 K (Value.tuple #[r0,(Value.bool false)]) w)
 (dr w λw=>
 ncP t0<|
 fld 1 t0 w λt13 _=>
 ld1 t13 w λt14 _=>
 ncP t0<|
 fld 1 t0 w λt17 _=>
 ld1 t17 w λt18 _=>
 lnS t18 w λt19 _=>
 bi .sub .i64 t19 (Iw 1) w λt20 _=>
 ixS 10 t14 t20 w λt21 _=>
 ldN 10 t21 w λt22 _=>
 Cl prog 240 #[t22] w λt23 w=>
 stN 10 t2 t23 w λ_ w=>
 ldN 10 t2 w λr0 _=>
 K (Value.tuple #[r0,(Value.bool true)]) w)
theorem Zgz (h:Zhi t0 w K):Cl prog 238 #[t0] w K:=
 ZMM 24 [(2,some 203),(3,none)] Tryz.func238 h
def ZeH (t0 t1:Value) (w:World) (K:KV):Prop:=
 al (Value.cells t0) 203 w λt2 w=>
 al (Value.cells t1) 79 w λt3 w=>
 fld 0 t2 w λt5 w=>
 fld 0 t5 w λt6 w=>
 ldN 3 t6 w λt7 w=>
 ldN 3 t3 w λt8 w=>
 Cl prog 130 #[t7,t8] w λt9 w=>
 bi .lss .i64 t9 (Iw 0) w λt10 w=>
 K t10 w
theorem ZeX (h:ZeH t0 t1 w K):Cl prog 239 #[t0,t1] w K:=
 ZML 11 [4] Tryz.func239 h
def ZrL (t0:Value) (w:World) (K:KV):Prop:=
 al (Value.cells t0) 203 w λt1 w=>
 al (Zl prog 203) 203 w λt2 w=>
 fld 9 t1 w λt3 w=>
 ld1 t3 w λt4 w=>
 Cl prog 174 #[t4] w λt5 w=>
 fld 9 t1 w λt6 w=>
 stN 1 t6 t5 w λ_ w=>
 ldN 10 t1 w λt7 w=>
 stN 10 t2 t7 w λ_ w=>
 ldN 10 t2 w λr0 _=>
 K r0 w
theorem ZmW (h:ZrL t0 w K):Cl prog 240 #[t0] w K:=
 ZMM 8 [(2,some 203)] Tryz.func240 h
def Zhm (t0:Value) (w:World) (K:KV):Prop:=
 ncP t0<|
 fld 1 t0 w λt8 w=>
 ld1 t8 w λt9 w=>
 lnS t9 w λt10 w=>
 lp [(Value.slice none 0 0),(Iw 0)] w (b2 λt3 t11 w g1=>
 bi .lss .i64 t11 t10 w λt12 w=>
 Zr t12
 (ixS 10 t9 t11 w λt13 w=>
 ldN 10 t13 w λt14 w=>
 al (Zl prog 203) 203 w λt5 w=>
 stN 10 t5 t14 w λ_ w=>
 fld 0 t5 w λt16 w=>
 fld 0 t16 w λt17 w=>
 ldN 3 t17 w λt18 w=>
 bsl 79 3 1 (Zl prog 79) [(0,t18)] w λt19 w=>
 apS prog #[316,316] 316 t3 t19 w λt20 w=>
 bi .add .i64 t11 (Iw 1) w λt21 w=>
 g1 [t20,t21] w)
 (K t3 w))
theorem Zgt (h:Zhm t0 w K):Cl prog 241 #[t0] w K:=
 ZML 23 [2] Tryz.func241 h
def Zay (t0 t1:Value) (w:World) (K:KV):Prop:=
 Cl prog 249 #[t0,t1] w λt7 w=>
 bi .geq .i64 t7 (Iw 0) w λt8 w=>
 K t8 w
theorem Zbi (h:Zay t0 t1 w K):Cl prog 242 #[t0,t1] w K:=
 ZML 9 [4] Tryz.func242 h
def Zfz (t0 t1:Value) (w:World) (K:KV):Prop:=
 al (Value.cells t0) 81 w λt2 w=>
 fld 0 t2 w λt4 w=>
 ldN 3 t4 w λt5 w=>
 ldN 3 t1 w λt6 w=>
 bO prog .eql 79 (Operand.tmp 5) (Operand.tmp 6) t5 t6 w λt7 w=>
 K t7 w
theorem Zfa (h:Zfz t0 t1 w K):Cl prog 243 #[t0,t1] w K:=
 ZML 8 [3] Tryz.func243 h
def Zg6 (t0 t1:Value) (w:World) (K:KV):Prop:=
 al (Value.cells t1) 79 w λt3 w=>
 ldN 3 t3 w λt8 w=>
 Cl prog 123 #[t0,(Value.func (.func 239) #[] #[]),t8] w λt9 w=>
 ncP t0<|
 fld 1 t0 w λt12 w=>
 ld1 t12 w λt13 w=>
 slc 10 t13 (some t9) none w λt15 w=>
 Cl prog 125 #[t15] w λt16 w=>
 Cl prog 250 #[t16] w λ_ w=>
 ncP t0<|
 fld 1 t0 w λt22 w=>
 ld1 t22 w λt23 w=>
 slc 10 t23 none (some t9) w λt25 w=>
 ncP t0<|
 fld 1 t0 w λt27 w=>
 stN 1 t27 t25 w λ_ w=>
 K t16 w
theorem ZgM (h:Zg6 t0 t1 w K):Cl prog 244 #[t0,t1] w K:=
 ZML 29 [4] Tryz.func244 h
def ZgZ (t0 t1:Value) (w:World) (K:KV):Prop:=
 al (Value.cells t1) 79 w λt3 w=>
 Cl prog 126 #[t0,(Value.func (Fn.func 251) #[] #[t3])] w λt7 w=>
 Cl prog 131 #[t7] w λt8 w=>
 K t8 w
theorem Zgp (h:ZgZ t0 t1 w K):Cl prog 245 #[t0,t1] w K:=
 ZML 9 [4] Tryz.func245 h
def Zl7 (t0 t1:Value) (w:World) (K:KV):Prop:=
 clI prog t0 "Len" #[] w λt7 w=>
 bi .sub .i64 t7 (Iw 1) w λt8 w=>
 bi .neq .i64 t8 t1 w λt11 w=>
 J0 (λw=>
 clI prog t0 "Pop" #[] w λt25 w=>
 K t25 w) λk1=>
 Zr t11
 (clI prog t0 "Swap" #[t1,t8] w λ_ w=>
 Cl prog 214 #[t0,t1,t8] w λt19 w=>
 Zb3 t19 w λt20 w=>
 Zr t20
 (Cl prog 213 #[t0,t1] w λ_ w=>
 k1 w)
 (k1 w))
 (k1 w)
theorem ZjV (h:Zl7 t0 t1 w K):Cl prog 246 #[t0,t1] w K:=
 ZML 26 [4] Tryz.func246 h
def Zo6 (t0 t1 t2:Value) (w:World) (K:KV):Prop:=
 lp [t0] w (b1 λt0_1 w g1=>
 gd t2 true (λk=>k t0_1 w) w λt16 w=>
 gd t2 true (λk=>k t1 w) w λt17 w=>
 gd t2 true (λk=>bO prog .eql 300 (Operand.tmp 16) (Operand.tmp 17) t16 t17 w k) w λt18 w=>
 pk t2 t18 (Value.bool false) w λt19 w=>
 Zr t19
 (K (Value.bool true) w)
 (tyA prog t0_1 300 335 true w λt22 w=>
 xt 0 t22 w λt23 w=>
 xt 1 t22 w λt24 w=>
 gd t24 true (λk=>k t23 w) w λt27 w=>
 gd t24 true (λk=>k t1 w) w λt28 w=>
 gd t24 true (λk=>clI prog t27 "Is" #[t28] w k) w λt29 w=>
 pk t24 t29 (Value.bool false) w λt30 w=>
 Zr t30
 (K (Value.bool true) w)
 (tyA prog t0_1 300 338 true w λt32 w=>
 xt 1 t32 w λt33 w=>
 xt 0 t32 w λt34 w=>
 Zr t33
 (clI prog t34 "Unwrap" #[] w λt36 w=>
 bO prog .eql 300 (Operand.tmp 37) (Operand.const Value.nilIface) t36 Value.nilIface w λt38 w=>
 Zr t38
 (K (Value.bool false) w)
 (g1 [t36] w))
 (tyA prog t0_1 300 340 true w λt39 w=>
 xt 1 t39 w λt40 w=>
 xt 0 t39 w λt41 w=>
 Zr t40
 (clI prog t41 "Unwrap" #[] w λt43 w=>
 lnS t43 w λt44 w=>
 lp [(Iw 0)] w (b1 λt45 w g2=>
 bi .lss .i64 t45 t44 w λt46 w=>
 Zr t46
 (ixS 1 t43 t45 w λt47 w=>
 ld1 t47 w λt48 w=>
 Cl prog 248 #[t48,t1,t2] w λt52 w=>
 Zr t52
 (K (Value.bool true) w)
 (bi .add .i64 t45 (Iw 1) w λt53 w=>
 g2 [t53] w))
 (K (Value.bool false) w)))
 (K (Value.bool false) w)))))
theorem Zl8 (h:Zo6 t0 t1 t2 w K):Cl prog 248 #[t0,t1,t2] w K:=
 ZML 54 [6] Tryz.func248 h
def ZaR (t0 t1:Value) (w:World) (K:KV):Prop:=
 lnS t0 w λt7 w=>
 lp [(Iw 0)] w (b1 λt8 w g1=>
 bi .lss .i64 t8 t7 w λt9 w=>
 Zr t9
 (ixS 6 t0 t8 w λt14 w=>
 ldN 6 t14 w λt15 w=>
 clV prog t1 #[t15] w λt16 w=>
 Zr t16
 (K t8 w)
 (bi .add .i64 t8 (Iw 1) w λt18 w=>
 g1 [t18] w))
 (K (Iw (-1)) w))
theorem Zbz (h:ZaR t0 t1 w K):Cl prog 249 #[t0,t1] w K:=
 ZML 19 [4] Tryz.func249 h
def Zax (t0:Value) (w:World) (K:KV):Prop:=
 lnS t0 w λt5 w=>
 bi .sub .i64 t5 (Iw 1) w λt6 w=>
 lp [(Iw 0),t6] w (b2 λt2 t3 w g1=>
 bi .lss .i64 t2 t3 w λt9 w=>
 Zr t9
 (dr w λw=>
 ixS 10 t0 t3 w λt20 _=>
 ldN 10 t20 w λt21 _=>
 ixS 10 t0 t2 w λt24 _=>
 ldN 10 t24 w λt25 _=>
 ixS 10 t0 t2 w λt26 _=>
 stN 10 t26 t21 w λ_ w=>
 ixS 10 t0 t3 w λt27 _=>
 stN 10 t27 t25 w λ_ w=>
 bi .add .i64 t2 (Iw 1) w λt11 w=>
 bi .sub .i64 t3 (Iw 1) w λt13 w=>
 g1 [t11,t13] w)
 (K (Value.tuple #[]) w))
theorem Zbe (h:Zax t0 w K):Cl prog 250 #[t0] w K:=
 ZML 28 [] Tryz.func250 h
def ZeJ (t0 t1:Value) (w:World) (K:KV):Prop:=
 al (Value.cells t0) 223 w λt2 w=>
 fld 0 t2 w λt4 w=>
 ldN 3 t4 w λt5 w=>
 ldN 3 t1 w λt6 w=>
 Cl prog 130 #[t5,t6] w λt7 w=>
 bi .geq .i64 t7 (Iw 0) w λt8 w=>
 K t8 w
theorem Ze4 (h:ZeJ t0 t1 w K):Cl prog 251 #[t0,t1] w K:=
 ZML 9 [3] Tryz.func251 h
def Zg1 (t0:Value) (w:World) (K:KV):Prop:=
 al (Value.cells t0) 286 w λt1 w=>
 fld 0 t1 w λt3 w=>
 ld1 t3 w λt4 w=>
 ncP t4<|
 fld 1 t4 w λt6 w=>
 ld1 t6 w λt7 w=>
 lnS t7 w λt8 w=>
 K t8 w
theorem ZgG (h:Zg1 t0 w K):Cl prog 254 #[t0] w K:=
 ZML 9 [2] Tryz.func254 h
def Zfg (t0 t1 t2:Value) (w:World) (K:KV):Prop:=
 al (Value.cells t0) 286 w λt3 w=>
 dr w λw=>
 fld 0 t3 w λt7 _=>
 ld1 t7 w λt8 _=>
 ncP t8<|
 fld 1 t8 w λt10 _=>
 ld1 t10 w λt11 _=>
 ixS 6 t11 t1 w λt13 _=>
 fld 0 t13 w λt14 _=>
 ldN 3 t14 w λt15 _=>
 fld 0 t3 w λt16 _=>
 ld1 t16 w λt17 _=>
 ncP t17<|
 fld 1 t17 w λt19 _=>
 ld1 t19 w λt20 _=>
 ixS 6 t20 t2 w λt22 _=>
 fld 0 t22 w λt23 _=>
 ldN 3 t23 w λt24 _=>
 Cl prog 130 #[t15,t24] w λt25 w=>
 bi .lss .i64 t25 (Iw 0) w λt26 _=>
 K t26 w
theorem Zf4 (h:Zfg t0 t1 t2 w K):Cl prog 255 #[t0,t1,t2] w K:=
 ZML 27 [6] Tryz.func255 h
def Zhd (t0:Value) (w:World) (K:KV):Prop:=
 al (Value.cells t0) 286 w λt1 w=>
 fld 0 t1 w λt5 w=>
 ld1 t5 w λt6 w=>
 ncP t6<|
 fld 1 t6 w λt8 w=>
 ld1 t8 w λt9 w=>
 lnS t9 w λt10 w=>
 bi .sub .i64 t10 (Iw 1) w λt11 w=>
 fld 0 t1 w λt12 w=>
 ld1 t12 w λt13 w=>
 ncP t13<|
 fld 1 t13 w λt15 w=>
 ld1 t15 w λt16 w=>
 ixS 6 t16 t11 w λt18 w=>
 ldN 6 t18 w λt19 w=>
 al (Zl prog 81) 81 w λt4 w=>
 stN 6 t4 t19 w λ_ w=>
 dr w λw=>
 fld 0 t1 w λt20 _=>
 ld1 t20 w λt21 _=>
 fld 0 t1 w λt22 _=>
 ld1 t22 w λt23 _=>
 ncP t23<|
 fld 1 t23 w λt25 _=>
 ld1 t25 w λt26 _=>
 slc 6 t26 none (some t11) w λt28 _=>
 ncP t21<|
 fld 1 t21 w λt30 _=>
 stN 1 t30 t28 w λ_ w=>
 dr w λw=>
 fld 0 t1 w λt31 _=>
 ld1 t31 w λt32 _=>
 ncP t32<|
 fld 2 t32 w λt34 _=>
 ld1 t34 w λt35 _=>
 fld 0 t4 w λt36 _=>
 ldN 3 t36 w λt37 _=>
 dlM prog #[175,79] 0 t35 t37 w λ_ w=>
 ldN 6 t4 w λt38 w=>
 K (Value.iface 81 t38) w
theorem Zgo (h:Zhd t0 w K):Cl prog 256 #[t0] w K:=
 ZML 40 [2] Tryz.func256 h
def Zf0 (t0 t1:Value) (w:World) (K:KV):Prop:=
 al (Value.cells t0) 286 w λt2 w=>
 tyA prog t1 20 81 false w λt6 w=>
 al (Zl prog 81) 81 w λt4 w=>
 stN 6 t4 t6 w λ_ w=>
 dr w λw=>
 fld 0 t2 w λt7 _=>
 ld1 t7 w λt8 _=>
 ncP t8<|
 fld 2 t8 w λt10 _=>
 ld1 t10 w λt11 _=>
 fld 0 t4 w λt12 _=>
 ldN 3 t12 w λt13 _=>
 fld 0 t2 w λt14 _=>
 ld1 t14 w λt15 _=>
 ncP t15<|
 fld 1 t15 w λt17 _=>
 ld1 t17 w λt18 _=>
 lnS t18 w λt19 _=>
 upM prog 175 t11 t13 t19 w λ_ w=>
 dr w λw=>
 fld 0 t2 w λt20 _=>
 ld1 t20 w λt21 _=>
 fld 0 t2 w λt22 _=>
 ld1 t22 w λt23 _=>
 ncP t23<|
 fld 1 t23 w λt25 _=>
 ld1 t25 w λt26 _=>
 ldN 6 t4 w λt27 _=>
 bsl 81 6 1 (Zl prog 81) [(0,t27)] w λt28 w=>
 (ld1 t25 w (λv' w''=>v'=t26∧w''=w))∧((ld1 t22 w (λv' w''=>v'=t23∧w''=w))∧((ld1 t20 w (λv' w''=>v'=t21∧w''=w))∧(apS prog #[76,76] 76 t26 t28 w λt29 w=>
 (ld1 t20 w (λv' w''=>v'=t21∧w''=w))∧(ncP t21<|
 fld 1 t21 w λt31 _=>
 stN 1 t31 t29 w λ_ w=>
 K (Value.tuple #[]) w))))
theorem Zff (h:Zf0 t0 t1 w K):Cl prog 257 #[t0,t1] w K:=
 ZML 32 [] Tryz.func257 h
def Zf2 (t0 t1 t2:Value) (w:World) (K:KV):Prop:=
 al (Value.cells t0) 286 w λt3 w=>
 dr w λw=>
 fld 0 t3 w λt6 _=>
 ld1 t6 w λt7 _=>
 ncP t7<|
 fld 1 t7 w λt9 _=>
 ld1 t9 w λt10 _=>
 fld 0 t3 w λt12 _=>
 ld1 t12 w λt13 _=>
 ncP t13<|
 fld 1 t13 w λt15 _=>
 ld1 t15 w λt16 _=>
 fld 0 t3 w λt18 _=>
 ld1 t18 w λt19 _=>
 ncP t19<|
 fld 1 t19 w λt21 _=>
 ld1 t21 w λt22 _=>
 ixS 6 t22 t2 w λt24 _=>
 ldN 6 t24 w λt25 _=>
 fld 0 t3 w λt26 _=>
 ld1 t26 w λt27 _=>
 ncP t27<|
 fld 1 t27 w λt29 _=>
 ld1 t29 w λt30 _=>
 ixS 6 t30 t1 w λt32 _=>
 ldN 6 t32 w λt33 _=>
 ixS 6 t10 t1 w λt34 _=>
 stN 6 t34 t25 w λ_ w=>
 ixS 6 t16 t2 w λt35 _=>
 stN 6 t35 t33 w λ_ w=>
 dr w λw=>
 fld 0 t3 w λt36 _=>
 ld1 t36 w λt37 _=>
 ncP t37<|
 fld 2 t37 w λt39 _=>
 ld1 t39 w λt40 _=>
 fld 0 t3 w λt41 _=>
 ld1 t41 w λt42 _=>
 ncP t42<|
 fld 1 t42 w λt44 _=>
 ld1 t44 w λt45 _=>
 ixS 6 t45 t1 w λt47 _=>
 fld 0 t47 w λt48 _=>
 ldN 3 t48 w λt49 _=>
 fld 0 t3 w λt50 _=>
 ld1 t50 w λt51 _=>
 ncP t51<|
 fld 2 t51 w λt53 _=>
 ld1 t53 w λt54 _=>
 fld 0 t3 w λt55 _=>
 ld1 t55 w λt56 _=>
 ncP t56<|
 fld 1 t56 w λt58 _=>
 ld1 t58 w λt59 _=>
 ixS 6 t59 t2 w λt61 _=>
 fld 0 t61 w λt62 _=>
 ldN 3 t62 w λt63 _=>
 meM prog 175 t40 t49 w λt66 w=>
 xt 1 t66 w λt67 _=>
 esM prog 175 t40 t67 t1 w λ_ w=>
 meM prog 175 t54 t63 w λt68 w=>
 xt 1 t68 w λt69 _=>
 esM prog 175 t54 t69 t2 w λ_ w=>
 K (Value.tuple #[]) w
theorem Zfd (h:Zf2 t0 t1 t2 w K):Cl prog 258 #[t0,t1,t2] w K:=
 ZML 70 [] Tryz.func258 h
def Zc7 (t0:Value) (w:World) (K:KV):Prop:=
 ncP t0<|
 fld 3 t0 w λt5 w=>
 ld1 t5 w λt6 w=>
 K t6 w
theorem ZdD (h:Zc7 t0 w K):Cl prog 260 #[t0] w K:=
 ZML 7 [2] Tryz.func260 h
def Inf:Int:=1125899906842624
def Zsq:Int:=1099511627776
def Yu (t:Int):Bool:=decide (t=Inf∨(0≤t∧t≤Zsq))
def ZaD (t:Int):Int:=if t<0 then 0 else if Zsq<t then Inf else t
def ZvS (t d:Int):Int:=ZaD (ZaD t+ZaD d)
def ZaP (l:List Int):Int:=l.foldl (λn t=>min n (ZaD t)) Inf
def Zlb (a b:Int):Int:=if a<b then -1 else if b<a then 1 else 0
def ZeU (a b:Key):Int:=if Zlb a.T b.T≠0 then Zlb a.T b.T else if Zlb a.From b.From≠0 then Zlb a.From b.From else Zlb a.Seq b.Seq
def ZmY (n:Int):Prop:=-9223372036854775808≤n∧n≤9223372036854775807
theorem ZmY.of_wf {n:Int} (h:(Lit.int .i64 n).wf=true):ZmY n:=by
 simp only[Lit.wf,IntKind.min,IntKind.max,IntKind.signed,IntKind.bits] at h
 simp at h
 unfold ZmY
 omega
theorem Zot {n:Int} (h:ZmY n):IntKind.u64.wrap n=if 0≤n then n else n+18446744073709551616:=by
 have e1:(2:Int) ^ 64=18446744073709551616:=by decide
 simp only[IntKind.wrap,IntKind.bits,IntKind.signed,Bool.false_and,Bool.false_eq_true,if_false,e1]
 unfold ZmY at h
 split <;> omega
theorem Zp1 (t:Int):0≤ZaD t∧ZaD t≤Inf:=by unfold ZaD Inf Zsq;split <;> (try split) <;> omega
variable {e:World} {R:List HP}
theorem ZcO {t:Int} (ht:ZmY t) (hk:K (.bool (Yu t)) w):Cl prog 97 #[.int .i64 t] w K:=by
 refine Zka ?_
 unfold ZmB
 have h64:=ht
 unfold ZmY at h64
 refine ZoR (λc=>?_) (λc=>?_)
 ·refine Zd (Zd (Zd (Yv ?_)))
  rw[show Yu t=true from by simp[Yu,Inf,c]] at hk
  exact hk
 ·refine Zj (Zj (ZDy (Zj ?_)))
  rw[Zot ht]
  by_cases h:0≤t∧t≤Zsq
  ·rw[if_pos h.1]
   refine ZCA (by unfold Zsq at h;omega) (Yd ?_)
   rw[show Yu t=true from by simp[Yu,h]] at hk
   exact hk
  ·refine ZCF (by unfold Zsq at h;split <;> omega) (Yd ?_)
   rw[show Yu t=false from by simp only[Yu,decide_eq_false_iff_not];unfold Inf;omega] at hk
   exact hk
theorem ZcN {t:Int} (hk:K (.int .i64 (ZaD t)) w):Cl prog 102 #[.int .i64 t] w K:=by
 refine ZjL ?_
 unfold Zl0
 unfold ZaD Inf Zsq at hk
 refine Za7 (λc=>Zi ?_) (λc=>Zf ?_)
 ·rw[if_pos c] at hk;exact hk
 ·rw[if_neg c] at hk
  refine Ztu (λc=>Zi ?_) (λc=>Zf ?_)
  ·rw[if_pos c] at hk;exact hk
  ·rw[if_neg c] at hk;exact hk
theorem ZKu {t:Int} (hk:K (.int .i64 (ZaD t)) w):Cl prog 144 #[.int .i64 t] w K:=by
 refine ZJ4 ?_
 unfold ZJV
 unfold ZaD Inf Zsq at hk
 refine Za7 (λc=>Zi ?_) (λc=>Zf ?_)
 ·rw[if_pos c] at hk;exact hk
 ·rw[if_neg c] at hk
  refine Ztu (λc=>Zi ?_) (λc=>Zf ?_)
  ·rw[if_pos c] at hk;exact hk
  ·rw[if_neg c] at hk;exact hk
theorem ZhT {t d:Int} (hk:K (.int .i64 (ZvS t d)) w):Cl prog 111 #[.int .i64 t,.int .i64 d] w K:=by
 refine Zms ?_
 unfold Zqb
 have h1:=Zp1 t
 have h2:=Zp1 d
 unfold Inf at h1 h2
 exact ZcN (ZcN (ZcD (by omega) (by omega) (ZcN hk)))
theorem ZLe {t d:Int} (hk:K (.int .i64 (ZvS t d)) w):Cl prog 135 #[.int .i64 t,.int .i64 d] w K:=by
 refine ZKk ?_
 unfold ZJ6
 have h1:=Zp1 t
 have h2:=Zp1 d
 unfold Inf at h1 h2
 have key:∀a b:Int,0≤a→0≤b→(a=1125899906842624∨b=1125899906842624)→ZaD (a+b)=1125899906842624:=by
  intro a b ha hb h
  unfold ZaD Zsq Inf
  rw[if_neg (by omega),if_pos (by omega)]
 refine ZKu (ZKu ?_)
 refine ZoR (λc=>Zd (Zd (Yv (Zi ?_)))) (λc=>Zj (Zj (ZoR (λc2=>Yd (Zi ?_)) (λc2=>Yd (Zf ?_)))))
 ·unfold ZvS at hk;rw[key _ _ h1.1 h2.1 (.inl c)] at hk;exact hk
 ·unfold ZvS at hk;rw[key _ _ h1.1 h2.1 (.inr c2)] at hk;exact hk
 ·exact ZcD (by omega) (by omega) (ZKu hk)
theorem ZqA (l:List Int) (t:Int):ZaP (l++[t])=min (ZaP l) (ZaD t):=by simp[ZaP]
theorem Zeu {v:Value} {l:List Int} {S:HP} (hS:Sat e w (S::R)) (hr:∀g,S g→rdS 1 (Ye .i64) v l g) (hl:l.length≤1000000000000) (hk:∀w',Sat e w' (S::R)→K (.int .i64 (ZaP l)) w'):Cl prog 70 #[v] w K:=by
 refine ZjX ?_
 unfold Zmt
 refine Zt hS 0 rfl hr ?_
 refine lp2 (λt3 t8 w=>∃j:Nat,j≤l.length∧t8=.int .i64 j∧t3=.int .i64 (ZaP (l.take j))∧Sat e w (S::R)) (λ_ t8 _=>l.length - nOf t8) ⟨0,Nat.zero_le _,rfl,rfl,hS⟩ ?_
 rintro _ _ w g ⟨j,hj,rfl,rfl,h1⟩ hg
 refine Za7 (λc=>Zi ?_) (λc=>Zf ?_)
 ·obtain ⟨x,hx⟩:=Zk (l:=l) (j:=j) (by omega)
  refine Zw h1 0 rfl hr (λ_=>rfl) hx λa ha=>?_
  refine Yt h1 0 rfl ha (by rfl) ?_
  refine ZcN (Zty (Yr (by omega) ?_))
  exact hg _ _ _ ⟨j+1,by omega,rfl,by rw[Zx hx,ZqA],h1⟩ (by simp[nOf];omega)
 ·obtain rfl:j=l.length:=by omega
  rw[List.take_length]
  exact hk _ h1
theorem Zvf {a:Int} (hk:K (.bool false) w):Cl prog 147 #[.int .i64 a] w K:=by
 refine Zhv ?_
 unfold ZiL
 exact ZoP rfl hk
theorem ZmJ {a b:Int} (hk:K (.int .i64 (Zlb a b)) w):Cl prog 141 #[.int .i64 a,.int .i64 b] w K:=by
 refine ZfO ?_
 unfold ZfG
 unfold Zlb at hk
 refine Zvf (Zvf (Zf (Zf (Za7 (λc=>Zi ?_) (λc=>Zf (Ztu (λc2=>Zi ?_) (λc2=>Zf ?_)))))))
 ·rw[if_pos c] at hk;exact hk
 ·rw[if_neg c,if_pos c2] at hk;exact hk
 ·rw[if_neg c,if_neg c2] at hk;exact hk
theorem ZIl {v:Value} {l:List Int} {S:HP} (hS:Sat e w (S::R)) (hr:∀g,S g→rdS 1 (Ye .i64) v l g) (hl:l.length≤1000000) (hk:∀w',Sat e w' (S::R)→K (.int .i64 ((l.find? (λn=>decide (n≠0))).getD 0)) w'):Cl prog 140 #[v] w K:=by
 refine Zk0 ?_
 unfold Znv
 refine Zt hS 0 rfl hr ?_
 refine lp1 (λt8 w=>∃j:Nat,j≤l.length∧t8=.int .i64 j∧(l.take j).find? (λn=>decide (n≠0))=none∧Sat e w (S::R)) (λt8 _=>l.length - nOf t8) ⟨0,Nat.zero_le _,rfl,rfl,hS⟩ ?_
 rintro _ w g ⟨j,hj,rfl,hn,h1⟩ hg
 refine Za7 (λc=>Zi ?_) (λc=>Zf ?_)
 ·obtain ⟨x,hx⟩:=Zk (l:=l) (j:=j) (by omega)
  refine Zw h1 0 rfl hr (λ_=>rfl) hx λa ha=>?_
  refine Yt h1 0 rfl ha (by rfl) ?_
  refine ZrP (λc=>Zi ?_) (λc=>Zf ?_)
  ·have h2:=hk _ h1
   have:l.find? (λn=>decide (n≠0))=some x:=by
    rw[←List.take_append_drop j l,List.find?_append,hn,Option.none_or]
    have hd:l.drop j=x::l.drop (j+1):=by
     obtain ⟨hlt,e⟩:=List.getElem?_eq_some_iff.1 hx
     rw[List.drop_eq_getElem_cons hlt,e]
    rw[hd,List.find?_cons_of_pos (by simpa using c)]
   rw[this] at h2
   exact h2
  ·refine Yr (by omega) ?_
   exact hg _ _ ⟨j+1,by omega,rfl,by rw[Zx hx,List.find?_append,hn];simp[c],h1⟩ (by simp[nOf];omega)
 ·obtain rfl:j=l.length:=by omega
  rw[List.take_length] at hn
  have h2:=hk _ h1
  rw[hn] at h2
  exact h2
theorem Zcr {a b:Key} (hS:Sat e w R) (hk:∀w',Sat e w' R→K (.int .i64 (ZeU a b)) w'):Cl prog 130 #[.agg a.cs.toArray,.agg b.cs.toArray] w K:=by
 refine ZlC ?_
 unfold Zpp
 rw[Zr6]
 refine Yp (cs:=a.cs) hS rfl λb2 w1 h1=>?_
 refine Yp (cs:=b.cs) h1 rfl λb3 w2 h2=>?_
 refine ZaY h2 λw3 h3=>?_
 refine Za (Zb h3 1 rfl rfl (Za (Zb h3 0 rfl rfl ?_)))
 refine Za (Zb h3 1 rfl rfl (Za (Zb h3 0 rfl rfl ?_)))
 refine Za (Zb h3 1 rfl rfl (Za (Zb h3 0 rfl rfl ?_)))
 refine ZmJ ⟨Zb h3 0 rfl rfl ⟨rfl,rfl⟩,Zb h3 1 rfl rfl ⟨rfl,rfl⟩,Zb h3 0 rfl rfl ⟨rfl,rfl⟩,Zb h3 1 rfl rfl ⟨rfl,rfl⟩,?_⟩
 refine ZmJ ⟨Zb h3 0 rfl rfl ⟨rfl,rfl⟩,Zb h3 1 rfl rfl ⟨rfl,rfl⟩,?_⟩
 refine ZmJ ?_
 refine Zfk (Yi [Zlb a.T b.T,Zlb a.From b.From,Zlb a.Seq b.Seq]) h3 (by kernel_rfl) λb20 w4 h4=>?_
 refine ZIl h4 (l:=[Zlb a.T b.T,Zlb a.From b.From,Zlb a.Seq b.Seq]) (Zbx (f:=Ye .i64) [Zlb a.T b.T,Zlb a.From b.From,Zlb a.Seq b.Seq] rfl (Nat.le_refl _)) (by simp) λw5 h5=>?_
 have h6:=hk w5 (h5.drop.drop.drop)
 have e1:([Zlb a.T b.T,Zlb a.From b.From,Zlb a.Seq b.Seq].find? (λn=>decide (n≠0))).getD 0=ZeU a b:=by
  unfold ZeU
  by_cases h1:Zlb a.T b.T=0
  ·by_cases h2:Zlb a.From b.From=0
   ·by_cases h3:Zlb a.Seq b.Seq=0 <;> simp[h1,h2,h3]
   ·simp[h1,h2]
  ·simp[h1]
 rw[e1]
 exact h6
end Go.Proofs.YtnhaekgogppbiaaGreat
end
section
namespace Go.E
open Go.RowKit
theorem Zwz {x:Addr} {w:World} {K:KV} (h:K (.pointer (some x)) w):nc (.pointer (some x)) w K:=⟨rfl,h⟩
section
variable {e w:World} {L R l:List HP} {K:KV} {P Q:HP}
theorem Sat.focus {l':List HP} (h:Sat e w (Yh l'::R)) (i:Nat) (hi:l'[i]?=some P):Sat e w (P::Yh (l'.eraseIdx i)::R):=by
 have h1:=h.split
 have h2:=h1.perm ((ZfR l' i P hi).append_right R)
 exact (Sat.join (l':=l'.eraseIdx i) (l:=P::R) (h2.perm (by
  have:(P::l'.eraseIdx i++R).Perm (l'.eraseIdx i++P::R):=List.perm_middle.symm
  exact this))).swap
theorem Sat.unfocus {l':List HP} (i:Nat) (hi:l'[i]?=some P) (h:Sat e w (Q::Yh (l'.eraseIdx i)::R)):Sat e w (Yh (l'.set i Q)::R):=by
 have h1:=h.swap.split
 have h2:Sat e w (Q::l'.eraseIdx i++R):=h1.perm (List.perm_middle (l₁:=l'.eraseIdx i) (a:=Q) (l₂:=R))
 exact Sat.join (h2.perm ((Zjm l' i P Q hi).append_right R))
end
section
variable {α:Type} {e w:World} {L:List HP} {K:KV} {size:Nat} {f:α→List Value} {v:Value} {l:List α} {t:TypeId}
theorem Sat.own_open (h:Sat e w L) (i:Nat) (hi:L[i]?=some (Zz t size f v l)) (hl:0<l.length) :
  ∃b c cs,v=.slice (some ⟨b,0,none⟩) l.length c∧cs.length=c*size∧l.length≤c∧cs.take (l.length*size)=l.flatMap f∧Sat e w (L.set i (blk b t cs)):=by
 have h1:=h.pick i hi
 obtain ⟨k1,k2,d,s1,s2,q,rr⟩:=h1.mem
 rcases q with ⟨_,rfl⟩ | ⟨b,c,cs,hv,hb,hc,hn,hx⟩
 ·simp at hl
 ·refine ⟨b,c,cs,hv,hc,hn,hx,?_⟩
  have h2:Sat e w (blk b t cs::L.eraseIdx i):=⟨h1.os,h1.tape,h1.output,h1.drawn,h1.size,k1,k2,d,s1,s2,hb,rr⟩
  exact h2.perm (Zjm L i _ _ hi)
theorem Zu3 {b off n c j:Nat} {k:IntKind} (hj:j<n) (hk:K (.pointer (some ⟨b,off+j*size,none⟩)) w):ixS size (.slice (some ⟨b,off,none⟩) n c) (.int k (j:Int)) w K:=by
 refine ⟨_,_,_,_,_,rfl,rfl,by omega,by omega,?_⟩
 have e1:((⟨b,off,none⟩:Addr).add ((j:Int).toNat*size))=⟨b,off+j*size,none⟩:=by
  unfold Addr.add
  split
  ·rename_i h0
   have h1:j*size=0:=by simpa using h0
   rw[h1];rfl
  ·simp
 rw[e1]
 exact hk
theorem Zl4 (hf:∀x,(f x).length=size):∀(l:List α) (j:Nat) (x:α) (rest:List Value),j<l.length→wrL (l.flatMap f++rest) (j*size) (f x)=(l.set j x).flatMap f++rest
 | [],j,x,rest,h=>by simp at h
 | y::l,0,x,rest,h=>by
  simp only[wrL,Nat.zero_mul,List.take_zero,List.nil_append,Nat.zero_add,List.flatMap_cons,List.append_assoc,List.set_cons_zero]
  rw[hf x,←hf y,List.drop_left]
 | y::l,j+1,x,rest,h=>by
  have ih:=Zl4 hf l j x rest (by simpa using h)
  simp only[List.flatMap_cons,List.set_cons_succ,List.append_assoc]
  rw[←ih]
  simp only[wrL]
  rw[show (j+1)*size=(f y).length+j*size from by rw[hf,Nat.add_mul];omega,List.take_append,List.take_of_length_le (by omega),Nat.add_sub_cancel_left,show (f y).length+j*size+(f x).length=(f y).length+(j*size+(f x).length) from by omega,←List.drop_drop,List.drop_left]
  simp
theorem Zt2 {b c j:Nat} {cs cs':List Value} {x:α} {g:Hp} (hf:∀x,(f x).length=size) (hc:cs.length=c*size) (hn:l.length≤c) (hx:cs.take (l.length*size)=l.flatMap f) (hj:j<l.length) (hw:wrL cs (j*size) (f x)=cs') (h:blk b t cs' g) :
  Zz t size f (.slice (some ⟨b,0,none⟩) l.length c) (l.set j x) g:=by
 have e1:cs=l.flatMap f++cs.drop (l.length*size):=by rw[←hx,List.take_append_drop]
 have e2:cs'=(l.set j x).flatMap f++cs.drop (l.length*size):=by rw[←hw,e1,Zl4 hf l j x _ hj,←e1]
 have e3:((l.set j x).flatMap f).length=l.length*size:=by rw[Zy hf,List.length_set]
 have e4:l.length*size≤c*size:=Nat.mul_le_mul_right _ hn
 refine .inr ⟨b,c,cs',by rw[List.length_set],h,?_,by simpa using hn,?_⟩
 ·rw[e2,List.length_append,e3,List.length_drop,hc];omega
 ·rw[e2,List.length_set,←e3,List.take_left]
theorem Zpo {z:Array Value} {x:α} (hz:z.toList=f x) (hs:z.size=size):∀n,((Array.range (n*size)).map (z[· % z.size]!)).toList=(List.replicate n x).flatMap f
 | 0=>by simp
 | n+1=>by
  have ih:=Zpo hz hs n
  simp only[Array.toList_map,Array.toList_range] at ih ⊢
  rw[Nat.add_mul,Nat.one_mul,List.range_add,List.map_append,ih,List.replicate_succ',List.flatMap_append]
  congr 1
  rw[List.map_map,List.flatMap_cons,List.flatMap_nil,List.append_nil,←hz]
  apply List.ext_getElem
  ·simp[hs]
  ·intro i h1 h2
   simp only[List.length_map,List.length_range] at h1
   simp only[List.getElem_map,List.getElem_range,Function.comp,hs]
   rw[Nat.mul_add_mod_self_right,Nat.mod_eq_of_lt h1,Array.getElem_toList]
   rw[getElem!_pos z i (by omega)]
theorem Zyg {P:Program} {st:TypeId} {bytes:Nat} (T:TE P st t size bytes) {n:Nat} (hb:n*bytes≤140737488355328) (hS:Sat e w L) (f:α→List Value) (hf:∀x,(f x).length=size) (x:α) (hz:(Zl P t).toList=f x)
  (hk:∀v w',Sat e w' (Zz t size f v (List.replicate n x)::L)→K v w'):mkS P st (.int .i64 (n:Int)) (.int .i64 (n:Int)) w K:=by
 obtain ⟨i,z,hi,h1,h2,h3,h4⟩:=T.inf
 have hn:n≤140737488355328:=Nat.le_trans (Nat.le_mul_of_pos_right _ T.pos.2) hb
 have hzz:z.cells.toList=f x:=by
  rw[←hz]
  unfold Zl
  simp only[hi,Option.bind_some,h3]
 have hask:∀(x:Nat) (w':World),(askRoom x).run P w'=.ok () w':=by
  intro x w'
  unfold askRoom
  split <;> rfl
 have hbi:¬((bytes:Int)*(n:Int) > 2 ^ 48):=by
  have h0:((bytes*n:Nat):Int)≤140737488355328:=by rw[Nat.mul_comm];exact Int.ofNat_le.2 hb
  rw[Int.natCast_mul] at h0
  have e1:(2:Int) ^ 48=281474976710656:=by decide
  rw[e1]
  omega
 obtain ⟨A,hA⟩:∃A:Array Value,A=(Array.range (n*size)).map ((if n*size=0 then #[] else z.cells)[· % (if n*size=0 then #[] else z.cells).size]!):=⟨_,rfl⟩
 have hAl:A.toList=(List.replicate n x).flatMap f:=by
  rw[hA]
  by_cases h0:n*size=0
  ·have:n=0:=by
    rcases Nat.mul_eq_zero.1 h0 with h | h
    ·exact h
    ·have:=T.pos.1;omega
   subst this
   simp
  ·simp only[if_neg h0]
   exact Zpo hzz h4 n
 have g1:decide ((bytes:Int)*(n:Int) > 2 ^ 48)=false:=decide_eq_false hbi
 have g2:decide ((n:Int)<0)=false:=decide_eq_false (by omega)
 have g3:decide ((n:Int) > (n:Int))=false:=decide_eq_false (by omega)
 refine Yn (w':=w.alloc (.cells A t)) (v:=.slice (some ⟨w.heap.size,0,none⟩) n n) ?_ (hk _ _ ?_)
 ·unfold Instr.makeSlice
  simp only[Sem.run_bind,Yb T.und,Result.andThen_ok,asInt,asIntOf,Sem.run_pure,ZnL hi,h2,Zdl (show -9223372036854775808≤(n:Int) from by omega) (show (n:Int)≤9223372036854775807 from by omega),g1,g2,g3,Bool.or_false,Bool.false_eq_true,if_false,hask,Int.toNat_natCast,Zcj hi,h1]
  by_cases h0:n*size=0
  ·simp only[if_pos h0,Sem.run_bind,Sem.run_pure,Result.andThen_ok,newRow,newObj,Sem.run,hA,World.alloc]
  ·simp only[if_neg h0,Sem.run_bind,Sem.run_pure,Result.andThen_ok,Zdn hi h3,newRow,newObj,Sem.run,hA,World.alloc]
 ·refine ((hS.alloc _).imp λg hg=>?_)
  refine .inr ⟨w.heap.size,n,A.toList,by simp,by simpa using hg,?_,by simp,?_⟩
  ·rw[hAl,Zy hf,List.length_replicate]
  ·rw[hAl,List.take_of_length_le (by rw[Zy hf];exact Nat.le_refl _)]
end
section
variable {P:Program} {w:World} {K:KV}
theorem ZxU {t:TypeId} {xo yo:Operand} {a:Int} (hk:K (.int .i64 (a % 2)) w):bO P .and t xo yo (.int .i64 a) (.int .i64 1) w K:=by
 refine Yn (w':=w) (v:=.int .i64 (a % 2)) ?_ hk
 have h1:IntKind.i64.wrap ((BitVec.ofInt 64 a &&&BitVec.ofInt 64 1).toNat:Int)=a % 2:=by
  have h2:(BitVec.ofInt 64 a &&&BitVec.ofInt 64 1).toNat=(a % 2).toNat:=by
   rw[BitVec.toNat_and,BitVec.toNat_ofInt,BitVec.toNat_ofInt]
   have e1:((1:Int) % ((2 ^ 64:Nat):Int)).toNat=2 ^ 1 - 1:=by decide
   rw[e1,Nat.and_two_pow_sub_one_eq_mod]
   omega
  rw[h2]
  exact Zdl (by omega) (by omega) |>.trans (by omega)
 simp only[Sem.run_bind,Zjq,Result.andThen_ok,binOp,Op.intBits,ne_eq,not_true_eq_false,if_false,Sem.run_pure]
 exact congrArg (λz=>Result.ok (Value.int .i64 z) w) h1
theorem Zx8 {t:TypeId} {xo yo:Operand} {a:Int} {j:IntKind} (hk:K (.int .i64 (a / 2)) w):bO P .shr t xo yo (.int .i64 a) (.int j 1) w K:=by
 refine Yn (w':=w) (v:=.int .i64 (a / 2)) ?_ hk
 have hg:(eqGuard .shr t xo yo (.int .i64 a) (.int j 1)).run P w=.ok () w:=rfl
 simp only[Sem.run_bind,hg,Result.andThen_ok,binOp,Op.shift,Sem.run_pure,Int.reduceLT,if_false]
 have e1:min (1:Int).toNat IntKind.i64.bits=1:=by decide
 rw[e1]
 have e2:a.fdiv (2 ^ 1)=a / 2:=by
  rw[show (2:Int) ^ 1=2 from by decide,Int.fdiv_eq_ediv_of_nonneg _ (by decide)]
 rw[e2]
theorem Zcb {b off len size j:Nat} {k:IntKind} (hj:j<len) (hk:K (.pointer (some ⟨b,off+j*size,none⟩)) w):ixA len size (.pointer (some ⟨b,off,none⟩)) (.int k (j:Int)) w K:=by
 refine ⟨_,_,_,rfl,rfl,by omega,by omega,?_⟩
 have e1:((⟨b,off,none⟩:Addr).add ((j:Int).toNat*size))=⟨b,off+j*size,none⟩:=by
  unfold Addr.add
  split
  ·rename_i h0
   have h1:j*size=0:=by simpa using h0
   rw[h1];rfl
  ·simp
 rw[e1]
 exact hk
theorem ZGk {t e:TypeId} {n b off:Nat} {i:TypeInfo} {h:Nat} (hu:P.underlying t=some (.array n e)) (hi:P.info? e=some i) (hh:h≤n) (hk:K (.slice (some ⟨b,off,none⟩) h n) w) :
  slA P t (.pointer (some ⟨b,off,none⟩)) none (some (.int .i64 (h:Int))) w K:=by
 refine Yn (w':=w) (v:=.slice (some ⟨b,off,none⟩) h n) ?_ hk
 have hb:(Instr.sliceBounds false n n none (some (.int .i64 (h:Int))) none).run P w=.ok (0,h,n) w:=by
  unfold Instr.sliceBounds Instr.sliceBound
  simp only[Sem.run_bind,asIntOf,Sem.run_pure,Result.andThen_ok,Bool.false_eq_true,if_false]
  rw[if_pos ⟨by omega,by omega⟩]
  simp
 unfold Instr.sliceAt
 simp only[Sem.run_bind,Yb hu,Result.andThen_ok,Instr.sureAddr,Sem.run_pure,hb,Zcj hi,Nat.zero_mul,Nat.sub_zero]
 have e1:(⟨b,off,none⟩:Addr).add 0=⟨b,off,none⟩:=rfl
 rw[e1]
 simp
end
end Go.E
end
section
namespace Go.E
open Go.RowKit
section
variable {α:Type} {e w:World} {L R:List HP} {K:KV} {size:Nat} {f:α→List Value} {v:Value} {l:List α} {t:TypeId} {S:HP}
theorem Sat.imp_at {P Q:HP} (h:Sat e w L) (i:Nat) (hi:L[i]?=some P) (k:∀g,P g→Q g):Sat e w (L.set i Q):=
 ((h.pick i hi).imp k).perm (Zjm L i P Q hi)
theorem Zkx {P Q:HP} {i:Nat} (hi:L[i]?=some P):(L.set i Q)[i]?=some Q:=by
 have:=(List.getElem?_eq_some_iff.1 hi).1
 rw[List.getElem?_set_self this]
theorem ZFt {j:Nat} {x:α} {xv:Value} {k:IntKind} (hS:Sat e w L) (i:Nat) (hi:L[i]?=some (Zz t size f v l)) (hf:∀x,(f x).length=size) (hj:j<l.length) (hx:xv.cells.toList=f x) (hff:∀c∈f x,flat c=true)
  (hk:∀w',Sat e w' (L.set i (Zz t size f v (l.set j x)))→K undef w'):ixS size v (.int k (j:Int)) w λp w=>stN size p xv w K:=by
 obtain ⟨b,c,cs,hv,hc,hn,ht,h1⟩:=hS.own_open i hi (by omega)
 subst hv
 refine Zu3 hj ?_
 have hlen:(j+1)*size≤cs.length:=by rw[hc];exact Nat.mul_le_mul_right _ (by omega)
 rw[Nat.add_mul,Nat.one_mul] at hlen
 refine Zq h1 i (Zkx hi) hx (hf x) (by omega) hff rfl λw2 h2=>?_
 refine hk _ ?_
 rw[List.set_set] at h2
 have h3:=h2.imp_at (Q:=Zz t size f (.slice (some ⟨b,0,none⟩) l.length c) (l.set j x)) i (Zkx hi) λg hg=>Zt2 (f:=f) (x:=x) hf hc hn ht hj (by rw[Nat.zero_add]) hg
 rw[List.set_set] at h3
 exact h3
theorem ZdJ {j:Nat} {x:α} {xv:Value} {k:IntKind} (hS:Sat e w L) (i:Nat) (hi:L[i]?=some (Zz t size f v l)) (hf:∀x,(f x).length=size) (hj:j<l.length) (hx:xv.cells.toList=f x) (hff:∀c∈f x,flat c=true)
  (hk:∀w',Sat e w' (L.set i (Zz t size f v (l.set j x)))→K undef w'):ixS size v (.int k (j:Int)) w λp _=>stN size p xv w K:=by
 obtain ⟨a,n,c,k',j',h1,h2,h3,h4,h5⟩:=ZFt (k:=k) hS i hi hf hj hx hff hk
 exact ⟨a,n,c,k',j',h1,h2,h3,h4,h5⟩
theorem Zt3 {lo hi c:Nat} {A:Option Addr} {g:Hp} (hf:∀x,(f x).length=size) (hr:rdS size f (.slice A l.length c) l g) (h1:lo≤hi) (h2:hi≤l.length) :
  rdS size f (.slice (if c=lo then A else A.map (·.add (lo*size))) (hi - lo) (c - lo)) ((l.drop lo).take (hi - lo)) g:=by
 obtain ⟨A',c',e1,e2,e3⟩:=hr
 injection e1 with e4 e5 e6
 subst e4 e6
 have hlen:((l.drop lo).take (hi - lo)).length=hi - lo:=by rw[List.length_take,List.length_drop];omega
 refine ⟨_,c - lo,by rw[hlen],by rw[hlen];omega,λh0=>?_⟩
 rw[hlen] at h0
 obtain ⟨a,ha,hc⟩:=e3 (by omega)
 rw[if_neg (by omega),ha]
 refine ⟨_,rfl,?_⟩
 have e7:(l.drop lo).flatMap f=(l.flatMap f).drop (lo*size):=by
  have:l.flatMap f=(l.take lo).flatMap f++(l.drop lo).flatMap f:=by rw[←List.flatMap_append,List.take_append_drop]
  rw[this]
  have e8:((l.take lo).flatMap f).length=lo*size:=by rw[Zy hf,List.length_take,Nat.min_eq_left (by omega)]
  rw[←e8,List.drop_left]
 have e9:((l.drop lo).take (hi - lo)).flatMap f=((l.drop lo).flatMap f).take ((hi - lo)*size):=by
  have:(l.drop lo).flatMap f=((l.drop lo).take (hi - lo)).flatMap f++((l.drop lo).drop (hi - lo)).flatMap f:=by rw[←List.flatMap_append,List.take_append_drop]
  rw[this]
  have e8:(((l.drop lo).take (hi - lo)).flatMap f).length=(hi - lo)*size:=by rw[Zy hf,hlen]
  rw[←e8,List.take_left]
 rw[e9,e7]
 exact (hc.drop _).take _
theorem ZD8 {hi:Nat} {k:IntKind} (hS:Sat e w L) (i:Nat) (hiL:L[i]?=some S) (hr:∀g,S g→rdS size f v l g) (hf:∀x,(f x).length=size) (h2:hi≤l.length)
  (hk:∀v',(∀g,S g→rdS size f v' (l.take hi) g)→K v' w):slc size v none (some (.int k (hi:Int))) w K:=by
 obtain ⟨A,c,rfl,hlc⟩:=hS.shape i hiL hr
 refine ⟨A,l.length,c,0,hi,rfl,rfl,⟨k,hi,rfl,by omega,by omega⟩,by omega,by omega,hk _ λg hg=>?_⟩
 have:=Zt3 hf (hr g hg) (Nat.zero_le hi) h2
 rw[List.drop_zero,Nat.sub_zero] at this
 exact this
theorem Zox {lo:Nat} {k:IntKind} (hS:Sat e w L) (i:Nat) (hiL:L[i]?=some S) (hr:∀g,S g→rdS size f v l g) (hf:∀x,(f x).length=size) (h2:lo≤l.length)
  (hk:∀v',(∀g,S g→rdS size f v' (l.drop lo) g)→K v' w):slc size v (some (.int k (lo:Int))) none w K:=by
 obtain ⟨A,c,rfl,hlc⟩:=hS.shape i hiL hr
 refine ⟨A,l.length,c,lo,l.length,rfl,⟨k,lo,rfl,by omega,by omega⟩,rfl,by omega,by omega,hk _ λg hg=>?_⟩
 have:=Zt3 hf (hr g hg) h2 (Nat.le_refl _)
 rw[List.take_of_length_le (by rw[List.length_drop];omega)] at this
 exact this
theorem ZuF {hi:Nat} {k:IntKind} (hS:Sat e w L) (i:Nat) (hiL:L[i]?=some (Zz t size f v l)) (hf:∀x,(f x).length=size) (h2:hi≤l.length)
  (hk:∀v',(Sat e w (L.set i (Zz t size f v' (l.take hi))))→K v' w):slc size v none (some (.int k (hi:Int))) w K:=by
 obtain ⟨A,c,rfl,hlc⟩:=hS.shape i hiL (λ_=>Zp)
 refine ⟨A,l.length,c,0,hi,rfl,rfl,⟨k,hi,rfl,by omega,by omega⟩,by omega,by omega,hk _ ?_⟩
 have hA:(if c=0 then A else A.map (·.add (0*size)))=A:=by
  split
  ·rfl
  ·cases A with
   | none=>rfl
   | some a=>simp[Addr.add]
 rw[hA]
 refine hS.imp_at i hiL λg hg=>?_
 have hlt:(l.take hi).length=hi:=by rw[List.length_take];omega
 rcases hg with ⟨h3,rfl⟩ | ⟨b,c',cs,h3,hb,hc,hn,hx⟩
 ·injection h3 with e1 e2 e3
  subst e1 e3
  have:hi=0:=by simpa using h2
  subst this
  exact .inl ⟨rfl,rfl⟩
 ·injection h3 with e1 e2 e3
  subst e1 e3
  refine .inr ⟨b,c,cs,by rw[hlt];rfl,hb,hc,by omega,?_⟩
  rw[hlt]
  have e7:(l.take hi).flatMap f=(l.flatMap f).take (hi*size):=by
   have:l.flatMap f=(l.take hi).flatMap f++(l.drop hi).flatMap f:=by rw[←List.flatMap_append,List.take_append_drop]
   rw[this]
   have e8:((l.take hi).flatMap f).length=hi*size:=by rw[Zy hf,hlt]
   rw[←e8,List.take_left]
  rw[e7,←hx,List.take_take,Nat.min_eq_left (Nat.mul_le_mul_right _ h2)]
end
end Go.E
end
section
namespace Go.E
open Go.RowKit
section
variable {P:Program} {w:World} {K:KV}
theorem Zb9 {a b:Nat} (h1:a+b<9223372036854775807) (h:K (.int .i64 ((a+b:Nat):Int)) w):bi .add .i64 (.int .i64 (a:Int)) (.int .i64 (b:Int)) w K:=
 ZcD (by omega) (by omega) (by rw[show (a:Int)+(b:Int)=((a+b:Nat):Int) from by omega];exact h)
theorem Zdh {a b:Nat} (h1:b≤a) (h2:a<9223372036854775807) (h:K (.int .i64 ((a - b:Nat):Int)) w):bi .sub .i64 (.int .i64 (a:Int)) (.int .i64 (b:Int)) w K:=
 ZoJ (by omega) (by omega) (by rw[show (a:Int) - (b:Int)=((a - b:Nat):Int) from by omega];exact h)
theorem ZjR {a:Nat} (h1:1≤a) (h2:a<9223372036854775807) (h:K (.int .i64 ((a - 1:Nat):Int)) w):bi .sub .i64 (.int .i64 (a:Int)) (.int .i64 1) w K:=Zdh (b:=1) h1 h2 h
theorem Zp5 {a b:Nat} (h1:a*b<9223372036854775807) (h:K (.int .i64 ((a*b:Nat):Int)) w):bi .mul .i64 (.int .i64 (a:Int)) (.int .i64 (b:Int)) w K:=
 ZGn (by have:(0:Int)≤((a*b:Nat):Int):=(by omega);rw[Int.natCast_mul] at this;omega) (by have:((a*b:Nat):Int)<9223372036854775807:=(by omega);rw[Int.natCast_mul] at this;omega) (by rw[←Int.natCast_mul];exact h)
theorem Zpd {k:IntKind} {a b:Nat} (h1:a<b→K (.bool true) w) (h2:b≤a→K (.bool false) w):bi .lss k (.int k (a:Int)) (.int k (b:Int)) w K:=
 Za7 (λc=>h1 (by omega)) (λc=>h2 (by omega))
theorem Zt6 {n:Nat} (h:n<9223372036854775807):IntKind.u64.wrap (n:Int)=n:=by
 unfold IntKind.wrap
 simp only[IntKind.bits,IntKind.signed]
 have:(n:Int) % 2 ^ 64=n:=Int.emod_eq_of_lt (by omega) (by omega)
 simp
 omega
theorem Zqe {t:TypeId} {xo yo:Nat→Operand} {n:Nat} (h:n<9223372036854775807) (hk:K (.int .i64 ((n / 2:Nat):Int)) w) :
  cvI .u64 (.int .i64 (n:Int)) w λx w=>bO P .shr t (xo 0) (yo 0) x (.int .u64 1) w λy w=>cvI .i64 y w K:=by
 refine ZDy ?_
 rw[Zt6 h]
 refine Yn (w':=w) (v:=.int .u64 ((n / 2:Nat):Int)) ?_ ?_
 ·have hg:(eqGuard .shr t (xo 0) (yo 0) (.int .u64 (n:Int)) (.int .u64 1)).run P w=.ok () w:=rfl
  simp only[Sem.run_bind,hg,Result.andThen_ok,binOp,Op.shift,Sem.run_pure,Int.reduceLT,if_false]
  have e1:min (1:Int).toNat IntKind.u64.bits=1:=by decide
  rw[e1]
  have e2:(n:Int).fdiv (2 ^ 1)=((n / 2:Nat):Int):=by
   rw[show (2:Int) ^ 1=2 from by decide,Int.fdiv_eq_ediv_of_nonneg _ (by decide)]
   omega
  rw[e2]
 ·refine ZDy ?_
  rw[Zdl (by omega) (by omega)]
  exact hk
end
section
variable {α:Type} {e w:World} {R:List HP} {K:KV} {size:Nat} {f:α→List Value} {v:Value} {l:List α} {t:TypeId}
theorem ZuH {i j:Nat} {x y:α} (hf:∀x,(f x).length=size) (hff:∀x,∀c∈f x,flat c=true) (hx:l[i]?=some x) (hy:l[j]?=some y) (hS:Sat e w (Zz t size f v l::R))
  (hk:∀w',Sat e w' (Zz t size f v ((l.set i y).set j x)::R)→K undef w') :
  ixS size v (.int .i64 (j:Int)) w λp _=>ldN size p w λa _=>ixS size v (.int .i64 (i:Int)) w λq _=>ldN size q w λb _=>
   ixS size v (.int .i64 (i:Int)) w λq _=>stN size q a w λ_ w=>ixS size v (.int .i64 (j:Int)) w λp _=>stN size p b w K:=by
 have hi:i<l.length:=(List.getElem?_eq_some_iff.1 hx).1
 have hj:j<l.length:=(List.getElem?_eq_some_iff.1 hy).1
 refine Zw hS 0 rfl (λ_=>Zp) hf hy λp hp=>?_
 refine Ym hS 0 rfl hp (hf y) ?_
 refine Zw hS 0 rfl (λ_=>Zp) hf hx λq hq=>?_
 refine Ym hS 0 rfl hq (hf x) ?_
 refine ZdJ hS 0 rfl hf hi (x:=y) rfl (hff y) λw1 h1=>?_
 refine ZdJ h1 0 rfl hf (by rw[List.length_set];exact hj) (x:=x) rfl (hff x) λw2 h2=>?_
 exact hk _ h2
end
section
variable {α:Type}
theorem Zj2 {X Y:List α} {a:α} {n:Nat} (h:n=X.length):(X++a::Y)[n]?=some a:=by subst h;simp
theorem ZrB {X Y:List α} {a b:α} {n:Nat} (h:n=X.length):(X++a::Y).set n b=X++b::Y:=by subst h;simp
theorem ZiK {X M Y:List α} {a b:α} {n:Nat} (h:n=X.length+1+M.length):(X++a::(M++b::Y))[n]?=some b:=by
 rw[show X++a::(M++b::Y)=(X++a::M)++b::Y from by simp]
 exact Zj2 (by rw[h];simp;omega)
theorem Zsx {X M Y:List α} {a b c:α} {n:Nat} (h:n=X.length+1+M.length):(X++a::(M++b::Y)).set n c=X++a::(M++c::Y):=by
 rw[show X++a::(M++b::Y)=(X++a::M)++b::Y from by simp,ZrB (by rw[h];simp;omega)]
 simp
theorem Zsz {X M Y:List α} {a b:α} {i j:Nat} (h1:i=X.length) (h2:j=X.length+1+M.length):((X++a::(M++b::Y)).set i b).set j a=X++b::(M++a::Y):=by
 rw[ZrB h1,Zsx h2]
theorem Zp0 {X M Y:List α} {a b:α} {i j:Nat} (h1:i=X.length) (h2:j=X.length+1+M.length):((X++a::(M++b::Y)).set j a).set i b=X++b::(M++a::Y):=by
 rw[Zsx h2,ZrB h1]
theorem Zaq {l:List α} {i:Nat} {x:α} (h:l[i]?=some x):l.drop i=x::l.drop (i+1):=by
 obtain ⟨hi,he⟩:=List.getElem?_eq_some_iff.1 h
 rw[←he,←List.drop_eq_getElem_cons]
end
end Go.E
end
section
namespace Go.Proofs.YtnhaekgogppbiaaGreat
open Go Go.E Go.RowKit Go.WideShapes Go.Deep
set_option maxRecDepth 100000
structure Out where
 Class:Int
 Delay:Int
 Add:Int
 deriving DecidableEq
def Out.ns (x:Out):List Int:=[x.Class,x.Delay,x.Add]
abbrev Out.cs (x:Out):List Value:=Yi x.ns
structure Zsp where
 State:Int
 Class:Int
 Next:Int
 Sends:List Out
structure Fed where
 Kind:Int
 Look:Int
 Start:Int
 Rules:List Zsp
 Pubs:List Int
 Subs:List Int
 Init:List Out
structure Wd where
 Parents:List Int
 Feds:List Fed
 End:Int
structure Yg where
 State:Int
 Class:Int
 Next:Int
 sv:Value
 Sends:List Out
def Yg.cs (x:Yg):List Value:=[.int .i64 x.State,.int .i64 x.Class,.int .i64 x.Next,x.sv]
def Yg.r (x:Yg):Zsp:=⟨x.State,x.Class,x.Next,x.Sends⟩
structure Zao where
 Kind:Int
 Look:Int
 Start:Int
 rv:Value
 Rules:List Yg
 pv:Value
 Pubs:List Int
 sv:Value
 Subs:List Int
 iv:Value
 Init:List Out
def Zao.cs (x:Zao):List Value:=[.int .i64 x.Kind,.int .i64 x.Look,.int .i64 x.Start,x.rv,x.pv,x.sv,x.iv]
def Zao.f (x:Zao):Fed:=⟨x.Kind,x.Look,x.Start,x.Rules.map Yg.r,x.Pubs,x.Subs,x.Init⟩
structure WdX where
 pv:Value
 Parents:List Int
 fv:Value
 Feds:List Zao
 End:Int
def WdX.cs (x:WdX):List Value:=[x.pv,x.fv,.int .i64 x.End]
def WdX.w (x:WdX):Wd:=⟨x.Parents,x.Feds.map Zao.f,x.End⟩
structure Zew (v:Value) (l:List Yg) (g:Hp):Prop where
 s:rdS 4 Yg.cs v l g
 e:∀r∈l,rdS 3 Out.cs r.sv r.Sends g
structure ZmQ (f:Zao) (g:Hp):Prop where
 rules:Zew f.rv f.Rules g
 pubs:rdS 1 (Ye .i64) f.pv f.Pubs g
 subs:rdS 1 (Ye .i64) f.sv f.Subs g
 init:rdS 3 Out.cs f.iv f.Init g
structure ZtG (x:WdX) (g:Hp):Prop where
 par:rdS 1 (Ye .i64) x.pv x.Parents g
 feds:rdS 7 Zao.cs x.fv x.Feds g
 fed:∀f∈x.Feds,ZmQ f g
def i64 (n:Int):Prop:=(Lit.int .i64 n).wf=true
def Out.wf (o:Out):Prop:=i64 o.Class∧i64 o.Delay∧i64 o.Add
def Yg.wf (r:Yg):Prop:=i64 r.State∧i64 r.Class∧i64 r.Next∧∀o∈r.Sends,o.wf
def Zao.wf (f:Zao):Prop:=i64 f.Kind∧i64 f.Look∧i64 f.Start∧(∀r∈f.Rules,r.wf)∧(∀n∈f.Pubs,i64 n)∧(∀n∈f.Subs,i64 n)∧∀o∈f.Init,o.wf
def WdX.wf (x:WdX):Prop:=(∀n∈x.Parents,i64 n)∧(∀f∈x.Feds,f.wf)∧i64 x.End
section
variable {H:Type} {enc:TypeId × Value→H} {P:Program} {w:World} {base:Nat} {spare:Nat→Bool} {held:Bool}
theorem ZKi {α:Type} {st t:TypeId} {s:Nat} {f:α→List Value} (Good:α→Prop) (hu:P.underlying st=some (.slice t)) (hsz:szD P t=s) (hs:0<s) (hf:∀x,(f x).length=s)
  (hdec:∀fuel cs x,DataW.trod enc P w base spare held fuel t cs=some x→∃a:α,f a=cs∧Good a) {fuel:Nat} {cs:List Value} {x:DataW H × List MemPlace}
  (h:DataW.trod enc P w base spare held fuel st cs=some x):∃(v:Value) (l:List α),cs=[v]∧(∀a∈l,Good a)∧∀g,Old w g→rdS s f v l g:=by
 rcases open_slice hu h with ⟨hcs,_⟩ | ⟨a',len,cap,m,k,D,Pl,hcs,hb,hl,hm,hmm,hx,hi⟩
 ·exact ⟨_,[],hcs,by simp,λg _=>⟨none,0,rfl,Nat.le_refl _,λh=>absurd h (by simp)⟩⟩
 ·rw[ZsI,hsz] at hi
  have hlm:len≤m:=by rw[hmm];split <;> omega
  have hex:∀i,i<len→∃a:α,Good a∧w.cells? base (a'.add (i*s)) s=some (f a):=by
   intro i hil
   obtain ⟨cs',h1,h2⟩:=hi i (by omega)
   obtain ⟨a,h3,h4⟩:=hdec _ _ _ h2
   exact ⟨a,h4,by rw[h3];exact h1⟩
  rcases Nat.eq_zero_or_pos len with h0 | h0
  ·subst h0
   exact ⟨_,[],hcs,by simp,λg _=>⟨some a',cap,rfl,Nat.zero_le _,λh=>absurd h (by simp)⟩⟩
  obtain ⟨a0,_⟩:=hex 0 h0
  obtain ⟨F,hF⟩:∃F:Nat→α,∀i,i<len→Good (F i)∧w.cells? base (a'.add (i*s)) s=some (f (F i)):=
   ⟨λi=>if h:i<len then (hex i h).choose else a0,λi h=>by simp only[dif_pos h];exact (hex i h).choose_spec⟩
  refine ⟨_,(List.range len).map F,hcs,λa ha=>?_,λg hg=>⟨some a',cap,by simp,by simpa using hl,λ_=>⟨a',rfl,?_⟩⟩⟩
  ·obtain ⟨i,hi,rfl⟩:=List.mem_map.1 ha
   exact (hF i (by simpa using hi)).1
  ·have hblk:a'.block<w.heap.size:=by
    have:=Zuq hs (hF 0 h0).2
    simpa [Addr.add] using this
   refine Old.cells hblk (λi v hv=>?_) g hg
   have hli:i<len*s:=by
    have h1:=(List.getElem?_eq_some_iff.1 hv).1
    rw[Zy hf,List.length_map,List.length_range] at h1
    exact h1
   have hq:i / s<len:=by rw[Nat.div_lt_iff_lt_mul hs];exact hli
   have hmod:=Nat.mod_lt i hs
   obtain ⟨_,h2⟩:=hF (i / s) hq
   obtain ⟨_,_,h3⟩:=World.cells?_some h2
   have h4:=h3 (i % s) hmod
   have hdm:i / s*s+i % s=i:=by rw[Nat.mul_comm];exact Nat.div_add_mod i s
   rw[E.add_add,hdm] at h4
   rw[h4]
   have h5:=ZjU hf ((List.range len).map F) (i / s) (F (i / s)) (by simp[hq])
   have h6:=congrArg (λl=>l[i % s]?) h5
   simp only[List.getElem?_take,List.getElem?_drop,hdm,if_pos hmod] at h6
   rw[←h6]
   exact hv
def ZLB (P:Program) (t:TypeId) (l:List (TypeId × Nat)):Bool:=match P.underlying t with
 | some (.struct fs)=>fs.toList.map (λf=>(f.type,f.offset))==l
 | _=>false
theorem ZKH {t:TypeId} {l:List (TypeId × Nat)} (hB:ZLB P t l=true) {fuel:Nat} {cs:List Value} {x:DataW H × List MemPlace} (h:DataW.trod enc P w base spare held fuel t cs=some x) :
  cs.length=szD P t∧∀(i:Nat) (ty:TypeId) (off:Nat),l[i]?=some (ty,off)→∃n y,DataW.trod enc P w base spare held n ty ((cs.drop off).take (szD P ty))=some y:=by
 unfold ZLB at hB
 split at hB
 ·rename_i fs hu
  have hl:=beq_iff_eq.1 hB
  obtain ⟨xs,n,_,_,hlen,hxl,hg⟩:=DataW.trod_struct hu h
  refine ⟨hlen.trans (ZsI t),λi ty off hi=>?_⟩
  rw[←hl,List.getElem?_map,Array.getElem?_toList] at hi
  cases hf:fs[i]? with
  | none=>rw[hf] at hi;cases hi
  | some f=>
   rw[hf] at hi
   simp only[Option.map_some,Option.some.injEq,Prod.mk.injEq] at hi
   obtain ⟨rfl,rfl⟩:=hi
   have h1:=hg i f hf
   rw[ZsI] at h1
   have h2:=(Array.getElem?_eq_some_iff.1 hf).1
   cases hy:xs[i]? with
   | none=>rw[List.getElem?_eq_none_iff] at hy;omega
   | some y=>exact ⟨n,y,h1.trans hy⟩
 ·cases hB
end
section
variable {H:Type} {enc:TypeId × Value→H} {w:World} {base:Nat} {spare:Nat→Bool} {held:Bool} {fuel:Nat} {cs:List Value} {x:DataW H × List MemPlace}
theorem ZKw (h:DataW.trod enc prog w base spare held fuel 3 cs=some x):∃n,cs=[.int .i64 n]∧i64 n:=Zs8 (by kernel_rfl) h
theorem ZLS (h:DataW.trod enc prog w base spare held fuel 102 cs=some x):∃a:Out,Out.cs a=cs∧a.wf:=by
 obtain ⟨ns,h1,h2,h3⟩:=Zup 6 102 3 ZVd (by kernel_rfl) _ _ _ h
 match ns,h1 with
 | [a,b,c],_=>exact ⟨⟨a,b,c⟩,h2.symm,h3 a (by simp),h3 b (by simp),h3 c (by simp)⟩
theorem ZLp (h:DataW.trod enc prog w base spare held fuel 44 cs=some x):∃(v:Value) (l:List Out),cs=[v]∧(∀a∈l,a.wf)∧∀g,Old w g→rdS 3 Out.cs v l g:=
 ZKi (f:=Out.cs) (s:=3) Out.wf ZUp (by kernel_rfl) (by decide) (λ_=>rfl) (λ_ _ _ h=>ZLS h) h
theorem ZK1 (h:DataW.trod enc prog w base spare held fuel 22 cs=some x):∃(v:Value) (l:List Int),cs=[v]∧(∀a∈l,i64 a)∧∀g,Old w g→rdS 1 (Ye .i64) v l g:=
 ZKi (f:=Ye .i64) (s:=1) i64 ZxC (by kernel_rfl) (by decide) (λ_=>rfl) (λ_ cs _ h=>by obtain ⟨n,h1,h2⟩:=ZKw h;exact ⟨n,h1.symm,h2⟩) h
theorem ZLM (h:DataW.trod enc prog w base spare held fuel 48 cs=some x):∃a:Yg,Yg.cs a=cs∧a.wf∧∀g,Old w g→rdS 3 Out.cs a.sv a.Sends g:=by
 obtain ⟨h1,h2⟩:=ZKH (l:=[(3,0),(3,1),(3,2),(44,3)]) (by kernel_rfl) h
 have hsz:szD prog 48=4:=by kernel_rfl
 have hs1:szD prog 3=1:=by kernel_rfl
 have hs2:szD prog 44=1:=by kernel_rfl
 rw[hsz] at h1
 match cs,h1 with
 | [a,b,c,d],_=>
  obtain ⟨_,_,k1⟩:=h2 0 _ _ rfl
  obtain ⟨_,_,k2⟩:=h2 1 _ _ rfl
  obtain ⟨_,_,k3⟩:=h2 2 _ _ rfl
  obtain ⟨_,_,k4⟩:=h2 3 _ _ rfl
  rw[hs1] at k1 k2 k3
  rw[hs2] at k4
  obtain ⟨n1,e1,f1⟩:=ZKw k1
  obtain ⟨n2,e2,f2⟩:=ZKw k2
  obtain ⟨n3,e3,f3⟩:=ZKw k3
  obtain ⟨v,l,e4,f4,r4⟩:=ZLp k4
  injection e1 with e1
  injection e2 with e2
  injection e3 with e3
  injection e4 with e4
  subst e1 e2 e3 e4
  exact ⟨⟨n1,n2,n3,d,l⟩,rfl,⟨f1,f2,f3,f4⟩,r4⟩
theorem ZLC (h:DataW.trod enc prog w base spare held fuel 43 cs=some x):∃(v:Value) (l:List Yg),cs=[v]∧(∀a∈l,a.wf)∧∀g,Old w g→Zew v l g:=by
 obtain ⟨v,l,h1,h2,h3⟩:=ZKi (f:=Yg.cs) (s:=4) (λa:Yg=>a.wf∧∀g,Old w g→rdS 3 Out.cs a.sv a.Sends g) ZUE (by kernel_rfl) (by decide) (λ_=>rfl) (λ_ _ _ h=>ZLM h) h
 exact ⟨v,l,h1,λa ha=>(h2 a ha).1,λg hg=>⟨h3 g hg,λr hr=>(h2 r hr).2 g hg⟩⟩
theorem ZL5 (h:DataW.trod enc prog w base spare held fuel 46 cs=some x):∃a:Zao,Zao.cs a=cs∧a.wf∧∀g,Old w g→ZmQ a g:=by
 obtain ⟨h1,h2⟩:=ZKH (l:=[(3,0),(3,1),(3,2),(43,3),(22,4),(22,5),(44,6)]) (by kernel_rfl) h
 have hsz:szD prog 46=7:=by kernel_rfl
 have hs1:szD prog 3=1:=by kernel_rfl
 have hs2:szD prog 44=1:=by kernel_rfl
 have hs3:szD prog 43=1:=by kernel_rfl
 have hs4:szD prog 22=1:=by kernel_rfl
 rw[hsz] at h1
 match cs,h1 with
 | [a,b,c,d,e,f,i],_=>
  obtain ⟨_,_,k1⟩:=h2 0 _ _ rfl
  obtain ⟨_,_,k2⟩:=h2 1 _ _ rfl
  obtain ⟨_,_,k3⟩:=h2 2 _ _ rfl
  obtain ⟨_,_,k4⟩:=h2 3 _ _ rfl
  obtain ⟨_,_,k5⟩:=h2 4 _ _ rfl
  obtain ⟨_,_,k6⟩:=h2 5 _ _ rfl
  obtain ⟨_,_,k7⟩:=h2 6 _ _ rfl
  rw[hs1] at k1 k2 k3
  rw[hs3] at k4
  rw[hs4] at k5 k6
  rw[hs2] at k7
  obtain ⟨n1,e1,f1⟩:=ZKw k1
  obtain ⟨n2,e2,f2⟩:=ZKw k2
  obtain ⟨n3,e3,f3⟩:=ZKw k3
  obtain ⟨v4,l4,e4,f4,r4⟩:=ZLC k4
  obtain ⟨v5,l5,e5,f5,r5⟩:=ZK1 k5
  obtain ⟨v6,l6,e6,f6,r6⟩:=ZK1 k6
  obtain ⟨v7,l7,e7,f7,r7⟩:=ZLp k7
  injection e1 with e1
  injection e2 with e2
  injection e3 with e3
  injection e4 with e4
  injection e5 with e5
  injection e6 with e6
  injection e7 with e7
  subst e1 e2 e3 e4 e5 e6 e7
  exact ⟨⟨n1,n2,n3,d,l4,e,l5,f,l6,i,l7⟩,rfl,⟨f1,f2,f3,f4,f5,f6,f7⟩,λg hg=>⟨r4 g hg,r5 g hg,r6 g hg,r7 g hg⟩⟩
theorem ZLu {base:Nat} {v:Value} {d:DataW H} {p:List MemPlace} {cs:Array Value} (hv:v=.agg cs) (h:DataW.Trod enc prog w base spare held 25 v d p):∃a:WdX,v=.agg a.cs.toArray∧a.wf∧∀g,Old w g→ZtG a g:=by
 subst hv
 obtain ⟨fuel,hf⟩:=h
 obtain ⟨h1,h2⟩:=ZKH (l:=[(22,0),(23,1),(3,2)]) (by kernel_rfl) hf
 have hsz:szD prog 25=3:=by kernel_rfl
 have hs1:szD prog 3=1:=by kernel_rfl
 have hs2:szD prog 22=1:=by kernel_rfl
 have hs3:szD prog 23=1:=by kernel_rfl
 rw[hsz] at h1
 have hc:(Value.agg cs).cells.toList=cs.toList:=rfl
 rw[hc] at h1 h2
 obtain ⟨a,b,c,hl⟩:∃a b c,cs.toList=[a,b,c]:=by
  match hcs:cs.toList,h1 with
  | [a,b,c],_=>exact ⟨a,b,c,rfl⟩
 rw[hl] at h2
 obtain ⟨_,_,k1⟩:=h2 0 _ _ rfl
 obtain ⟨_,_,k2⟩:=h2 1 _ _ rfl
 obtain ⟨_,_,k3⟩:=h2 2 _ _ rfl
 rw[hs2] at k1
 rw[hs3] at k2
 rw[hs1] at k3
 obtain ⟨v1,l1,e1,f1,r1⟩:=ZK1 k1
 obtain ⟨v2,l2,e2,f2,r2⟩:=ZKi (f:=Zao.cs) (s:=7) (λa:Zao=>a.wf∧∀g,Old w g→ZmQ a g) ZxQ (by kernel_rfl) (by decide) (λ_=>rfl) (λ_ _ _ h=>ZL5 h) k2
 obtain ⟨n3,e3,f3⟩:=ZKw k3
 injection e1 with e1
 injection e2 with e2
 injection e3 with e3
 subst e1 e2 e3
 refine ⟨⟨a,l1,b,l2,n3⟩,?_,⟨f1,λf hf=>(f2 f hf).1,f3⟩,λg hg=>⟨r1 g hg,r2 g hg,λf hf=>(f2 f hf).2 g hg⟩⟩
 congr 1
 apply Array.ext'
 exact hl
end
end Go.Proofs.YtnhaekgogppbiaaGreat
end
section
namespace Go.E
open Go.RowKit
section
variable {κ:Type} [DecidableEq κ] {P:Program} {kt:TypeId} {ns:κ→List Int} {s n m D:Nat}
theorem ZiB (d:Nat):∀l:List Int,((Yi l).zip (Yi l)).all (λ(x,y)=>Instr.sameBits d x y)=true
 | []=>rfl
 | a::l=>by
  have ih:=ZiB d l
  simp only[Yi,List.map_cons,List.zip_cons_cons,List.all_cons] at ih ⊢
  rw[ih]
  cases d <;> simp[Instr.sameBits]
theorem Zhl (hT:eqT P n kt=some s) (hag:Zb7 P kt=true) (hn:n≤10000) (hl:∀k,(ns k).length=s) (hinj:∀a b,(ns a==ns b)=decide (a=b)) (k:κ) :
  ∀(es:List MapEntry) (ks:List κ) (i:Nat) (w:World),es.map (·.key)=ks.map (λk=>Value.agg (Yi (ns k)).toArray)→
   (Instr.findAsking kt (.agg (Yi (ns k)).toArray) es i).run P w=.ok ((ks.findIdx? λx=>decide (x=k)).bind λj=>(es[j]?).map λe=>(i+j,e.val)) w
 | [],ks,i,w,h=>by
  cases ks with
  | nil=>rfl
  | cons=>cases h
 | e::es,ks,i,w,h=>by
  cases ks with
  | nil=>cases h
  | cons x ks=>
   simp only[List.map_cons,List.cons.injEq] at h
   have he:=(Zn4 n kt s hT (10000 - n) (ns k) (ns x) (hl k) (hl x) w).2 hag
   rw[show 10000 - n+n=10000 from by omega,hinj] at he
   have he':(Op.equal kt (.agg (Yi (ns k)).toArray) (.agg (Yi (ns x)).toArray)).run P w=.ok (decide (k=x)) w:=he
   simp only[Instr.findAsking,Sem.run_bind,h.1,he',Result.andThen_ok,List.findIdx?_cons]
   by_cases hx:x=k
   ·subst hx
    simp
   ·have hk:¬k=x:=λe=>hx e.symm
    simp only[hk,hx,decide_false,Bool.false_eq_true,if_false]
    rw[Zhl hT hag hn hl hinj k es ks (i+1) w h.2]
    cases ks.findIdx? (λx=>decide (x=k)) with
    | none=>rfl
    | some j=>simp[Nat.add_comm,Nat.add_left_comm]
theorem Zr0 {fs:Array Field} (hu:P.underlying kt=some (.struct fs)) (hT:eqT P n kt=some s) (hag:Zb7 P kt=true) (hn:n≤10000) (hl:∀k,(ns k).length=s) (hinj:∀a b,(ns a==ns b)=decide (a=b))
  (hc:∀(b:Bool) (k:κ) (w:World),(Instr.checkKey b 10000 kt (.agg (Yi (ns k)).toArray)).run P w=.ok () w):ZvT P kt (λk=>.agg (Yi (ns k)).toArray) where
 chk:=hc
 fnd k es ks h w:=by
  unfold Instr.findKey
  have h1:=Zhl (w:=w) hT hag hn hl hinj k es ks 0 h
  cases es with
  | nil=>
   cases ks with
   | nil=>simp only[Sem.run_bind,Yb hu,Result.andThen_ok,Instr.findNow,Sem.run_pure];rfl
   | cons=>cases h
  | cons e es=>
   have h2:Instr.findNow (.struct fs) (.agg (Yi (ns k)).toArray) (e::es) 0=none:=by
    unfold Instr.findNow
    simp[Instr.sameNow]
   simp only[Sem.run_bind,Yb hu,Result.andThen_ok,h2,h1,Nat.zero_add]
 sam k:=by
  show Instr.sameBits (9999+1) _ _=true
  simp only[Instr.sameBits,beq_self_eq_true,Bool.true_and]
  exact ZiB 9999 (ns k)
end
section
variable {κ ν:Type} [DecidableEq κ] {P:Program} {kt vt t:TypeId} {kf:κ→Value} {vf:ν→Value} {zv:Value} {e w:World} {L:List HP} {K:KV} {b:Nat} {m:List (κ × ν)}
def dlA (m:List (κ × ν)) (k:κ):List (κ × ν):=match (m.map (·.1)).findIdx? λx=>decide (x=k) with
 | some i=>m.eraseIdx i
 | none=>m
theorem ZGa {ty:TypeId} (KT:ZvT P kt kf) (MT:Zx6 P t kt vt zv) {x:TypeId} (hS:Sat e w (Zaj kf vf b m::L)) (k:κ)
  (hk:∀w',Sat e w' (Zaj kf vf b (dlA m k)::L)→K (.tuple #[]) w'):dlM P #[t,x] ty (.map (some b)) (kf k) w K:=by
 obtain ⟨h1,h2,d,s1,s2,⟨es,clock,hb,hm,hbo⟩,r⟩:=hS.mem
 have hh:w.heap[b]?=some (.map es clock):=s1 _ _ hb
 have hS0:Sat e w ((λg=>g b=some (.map es clock))::L):=⟨hS.os,hS.tape,hS.output,hS.drawn,hS.size,h1,h2,d,s1,s2,hb,r⟩
 have hf:=KT.fnd k es.toList (m.map (·.1)) (ZlZ hm) w
 cases hx:(m.map (·.1)).findIdx? (λx=>decide (x=k)) with
 | none=>
  rw[hx] at hf
  simp only[Option.bind_none] at hf
  refine Yn (w':=World.setB w b (.map es clock)) (v:=.tuple #[]) ?_ (hk _ ?_)
  ·unfold Builtin.delete_
   simp only[List.getElem?_toArray,List.getElem?_cons_zero,List.getElem?_cons_succ,Sem.run_bind,Yb MT.und,Result.andThen_ok,Zbf hh,KT.chk,hf,setObj,Sem.run,hh,World.setB,Sem.run_pure]
  ·refine hS0.setB.imp λg hg=>⟨_,_,hg,?_,hbo⟩
   rw[show dlA m k=m from by unfold dlA;rw[hx]]
   exact hm
 | some i=>
  rw[hx] at hf
  simp only[Option.bind_some] at hf
  obtain ⟨hi,_,_⟩:=List.findIdx?_eq_some_iff_getElem.1 hx
  simp only[List.length_map] at hi
  have hle:es.toList.length=m.length:=by simpa using congrArg List.length hm
  have hie:i<es.toList.length:=by omega
  rw[List.getElem?_eq_getElem hie] at hf
  simp only[Option.map_some] at hf
  have he:(es.eraseIdxIfInBounds i).toList=es.toList.eraseIdx i:=by
   unfold Array.eraseIdxIfInBounds
   rw[dif_pos (by simpa using hie),Array.toList_eraseIdx]
  refine Yn (w':=World.setB w b (.map (es.eraseIdxIfInBounds i) clock)) (v:=.tuple #[]) ?_ (hk _ ?_)
  ·unfold Builtin.delete_
   simp only[List.getElem?_toArray,List.getElem?_cons_zero,List.getElem?_cons_succ,Sem.run_bind,Yb MT.und,Result.andThen_ok,Zbf hh,KT.chk,hf,setObj,Sem.run,hh,World.setB,Sem.run_pure]
  ·refine hS0.setB.imp λg hg=>⟨_,_,hg,?_,?_,?_⟩
   ·rw[show dlA m k=m.eraseIdx i from by unfold dlA;rw[hx],he,List.eraseIdx_map_c,hm,←List.eraseIdx_map_c]
   ·rw[he]
    exact hbo.1.sublist (List.eraseIdx_sublist _ _)
   ·intro x hx
    rw[he] at hx
    exact hbo.2 x (List.mem_of_mem_eraseIdx hx)
theorem Zj8:∀{m:List (κ × ν)},Znz m→∀k,dlA m k=m.filter λp=>!decide (p.1=k)
 | [],_,k=>rfl
 | p::m,h,k=>by
  unfold Znz at h
  rw[List.map_cons,List.nodup_cons] at h
  by_cases hp:p.1=k
  ·have h1:dlA (p::m) k=m:=by unfold dlA;simp[List.findIdx?_cons,hp]
   rw[h1,List.filter_cons]
   simp only[hp,decide_true,Bool.not_true,Bool.false_eq_true,if_false]
   symm
   apply List.filter_eq_self.2
   intro q hq
   have:¬q.1=k:=λe=>h.1 (by rw[hp,←e];exact List.mem_map.2 ⟨q,hq,rfl⟩)
   simp[this]
  ·have ih:=Zj8 (m:=m) h.2 k
   have h1:dlA (p::m) k=p::dlA m k:=by
    unfold dlA
    rw[List.map_cons,List.findIdx?_cons]
    simp only[hp,decide_false,Bool.false_eq_true,if_false]
    cases (m.map (·.1)).findIdx? (λx=>decide (x=k)) with
    | none=>rfl
    | some i=>rfl
   rw[h1,ih,List.filter_cons]
   simp[hp]
theorem Znz.dl {m:List (κ × ν)} (h:Znz m) (k:κ):Znz (dlA m k):=by
 rw[Zj8 h]
 exact (List.Sublist.map _ List.filter_sublist).nodup h
theorem ZEP {m:List (κ × ν)} (h:Znz m) (k j:κ):lkA (dlA m k) j=if j=k then none else lkA m j:=by
 rw[Zj8 h]
 unfold lkA
 rw[List.find?_filter]
 by_cases hj:j=k
 ·subst hj
  rw[if_pos rfl]
  simp
 ·rw[if_neg hj]
  congr 1
  congr 1
  funext p
  by_cases hp:p.1=j
  ·have:¬p.1=k:=λe=>hj (hp.symm.trans e)
   simp[hp,hj]
  ·simp[hp]
end
end Go.E
end
section
namespace Go.Proofs.YtnhaekgogppbiaaGreat
open Go Go.E
set_option maxRecDepth 100000
variable {e w:World} {L R:List HP} {K:KV} {S:HP}
def ZkT (ps:List Int):Prop:=1≤ps.length∧ps.length≤16∧∀(i:Nat) p,ps[i]?=some p→-1≤p∧p<i
def ZuI (o:Out):Prop:=0≤o.Class∧o.Class<16∧0≤o.Delay∧o.Delay<1048577∧0≤o.Add∧o.Add<1000
def ZrU (r:Zsp):Prop:=0≤r.State∧r.State<8∧0≤r.Next∧r.Next<8∧0≤r.Class∧r.Class<16∧r.Sends.length≤3∧∀o∈r.Sends,ZuI o
def ZFW (r:Zsp):Int × Int:=(r.State,r.Class)
def Zc4 (l:List Zsp):Prop:=l.length≤32∧(∀r∈l,ZrU r)∧(l.map ZFW).Nodup
def ZaF (most:Int):Int→List Int→Prop
 | _,[]=>True
 | lo,c::l=>lo<c∧c<most∧ZaF most c l
def ZbW (f:Fed):List Out→Int
 | []=>0
 | o::l=>if o.Class∉f.Pubs then 81 else if o.Delay<f.Look then 80 else ZbW f l
def Zca (f:Fed) (most:Int):List Zsp→Int
 | []=>0
 | r::l=>if most≤r.Class then 81 else if ZbW f r.Sends≠0 then ZbW f r.Sends else Zca f most l
def ZlW (f:Fed):Prop:=f.Init.length≤4∧∀o∈f.Init,o.Class∈f.Pubs∧0≤o.Delay∧o.Delay≤1099511627776∧0≤o.Add∧o.Add≤999
open Classical in
noncomputable def Zs3 (f:Fed) (most:Int):List Int:=[if 0≤f.Kind∧f.Kind≤1 then 0 else 1,if 1≤f.Look∧f.Look≤1048576 then 0 else 80,if 0≤f.Start∧f.Start≤7 then 0 else 70,
 if Zc4 f.Rules then 0 else 70,if ZaF most (-1) f.Pubs∧ZaF most (-1) f.Subs then 0 else 81,Zca f most f.Rules,if ZlW f then 0 else 82]
def Zkm (l:List Int):Int:=(l.find? λn=>decide (n≠0)).getD 0
theorem Zbt (a:Int) (l:List Int):Zkm (a::l)=if a=0 then Zkm l else a:=by
 unfold Zkm
 by_cases h:a=0 <;> simp[h]
theorem ZjN:Zkm []=0:=rfl
noncomputable def Zre (f:Fed) (most:Int):Int:=Zkm (Zs3 f most)
open Classical in
noncomputable def ZhY (ps:List Int):Int:=if ZkT ps then 0 else 50
noncomputable def Zm3 (most:Int):Nat→List Fed→Int × Int
 | _,[]=>(-1,0)
 | i,f::l=>if Zre f most≠0 then ((i:Int),Zre f most) else Zm3 most (i+1) l
noncomputable def Za4 (x:Wd):Int × Int:=
 if ZhY x.Parents≠0 then (-1,ZhY x.Parents)
 else if ¬((0≤x.End∧x.End≤1099511627776)∧(1≤(x.Feds.length:Int)∧(x.Feds.length:Int)≤8)) then (-1,1)
 else Zm3 x.Parents.length 0 x.Feds
theorem Zet {n a b:Int} (hk:K (.bool (decide (a≤n∧n≤b))) w):Cl prog 44 #[.int .i64 n,.int .i64 a,.int .i64 b] w K:=by
 refine Zh6 ?_
 unfold Zjk
 by_cases c1:a≤n
 ·by_cases c2:n≤b
  ·rw[decide_eq_true ⟨c1,c2⟩] at hk
   refine Zqv (by omega) (Ze (Ze (Ze (ZCA (by omega) (Yv ?_)))))
   exact hk
  ·rw[decide_eq_false λh=>c2 h.2] at hk
   refine Zqv (by omega) (Ze (Ze (Ze (ZCF (by omega) (Yv ?_)))))
   exact hk
 ·rw[decide_eq_false λh=>c1 h.1] at hk
  refine ZnR (by omega) (Zu (Zu (Zd (Yd ?_))))
  exact hk
theorem ZjW {n m:Int} (hn:i64 n) (h0:0≤m) (h1:m≤4611686018427387904) (hk:K (.bool (decide (0≤n∧n<m))) w):Cl prog 109 #[.int .i64 n,.int .i64 m] w K:=by
 refine Zj0 ?_
 unfold ZmF
 have hn':=ZmY.of_wf hn
 have hm:ZmY m:=by unfold ZmY;omega
 refine ZDy (ZDy ?_)
 rw[Zot hn',Zot hm,if_pos h0]
 unfold ZmY at hn'
 by_cases c1:0≤n
 ·rw[if_pos c1]
  by_cases c2:n<m
  ·rw[decide_eq_true ⟨c1,c2⟩] at hk
   exact Ztt c2 hk
  ·rw[decide_eq_false λh=>c2 h.2] at hk
   exact Ze7 c2 hk
 ·rw[if_neg c1,decide_eq_false λh=>c1 h.1] at*
  exact Ze7 (by omega) hk
theorem ZyK {v:Value} {l:List Int} {x:Int} (i:Nat) (hi:L[i]?=some S) (hS:Sat e w L) (hr:∀g,S g→rdS 1 (Ye .i64) v l g) (hl:l.length≤1000000) (h1:x∈l→∀j:Nat,K (.int .i64 j) w) (h2:x∉l→K (.int .i64 (-1)) w):Cl prog 107 #[v,.int .i64 x] w K:=by
 refine Zdb ?_
 unfold ZcG
 refine Zt hS i hi hr ?_
 refine Zdk (λq t8 w'=>∃j:Nat,j≤l.length∧t8=.int .i64 j∧q=l.length - j∧x∉l.take j∧w'=w) l.length ⟨0,Nat.zero_le _,rfl,rfl,by simp,rfl⟩ ?_
 rintro q _ w' g ⟨j,hj,rfl,rfl,hno,rfl⟩ hg
 refine Za7 (λc=>Zi ?_) (λc=>Zf ?_)
 ·obtain ⟨y,hy⟩:=Zk (l:=l) (j:=j) (by omega)
  refine Zw hS i hi hr (λ_=>rfl) hy λa ha=>?_
  refine Yt hS i hi ha (v:=.int .i64 y) rfl ?_
  refine ZoR (λc2=>Zi ?_) (λc2=>Zf ?_)
  ·exact h1 (c2▸List.mem_of_getElem? hy) j
  ·refine Yr (by omega) ?_
   refine hg _ _ _ (by omega) ⟨j+1,by omega,rfl,rfl,?_,rfl⟩
   rw[List.take_add_one,hy]
   simp[hno,c2]
 ·have ej:j=l.length:=by omega
  rw[ej,List.take_length] at hno
  exact h2 hno
theorem ZnP {v:Value} {l:List Int} {x:Int} (i:Nat) (hi:L[i]?=some S) (hS:Sat e w L) (hr:∀g,S g→rdS 1 (Ye .i64) v l g) (hl:l.length≤1000000) (hk:K (.bool (decide (x∈l))) w):Cl prog 80 #[v,.int .i64 x] w K:=by
 refine ZcF ?_
 unfold Zb6
 refine ZyK i hi hS hr hl (λh j=>?_) (λh=>?_)
 ·rw[decide_eq_true h] at hk
  exact Zqv (by omega) hk
 ·rw[decide_eq_false h] at hk
  exact ZnR (by omega) hk
abbrev unV (c d:Nat):Value:=.func (.func 77) #[] #[.pointer (some ⟨c,0,none⟩),.pointer (some ⟨d,0,none⟩)]
def UN (c d:Nat) (b:Bool) (er:Int):HP:=Yh [blk c 4 [.bool b],blk d 30 [.int .i64 er]]
theorem Zdj {b:Bool} {er:Int} (hS:Sat e w L) (hk:∀c d w',Sat e w' (UN c d b er::L)→K (unV c d) w'):Cl prog 43 #[.bool b,.int .i64 er] w K:=by
 refine Zhy ?_
 unfold Ziv
 refine Yp (cs:=[.bool b]) hS rfl λc w1 h1=>?_
 refine Yp (cs:=[.int .i64 er]) h1 rfl λd w2 h2=>?_
 exact hk _ _ _ (Sat.join (l':=[_,_]) h2.swap)
theorem Zcw {c d:Nat} {b:Bool} {er:Int} (i:Nat) (hi:L[i]?=some (UN c d b er)) (hS:Sat e w L) (hk:K (.int .i64 (if b=true then 0 else er)) w):clV prog (unV c d) #[] w K:=by
 refine ⟨_,_,_,rfl,?_⟩
 refine ZfU (t0:=.pointer (some ⟨c,0,none⟩)) (t1:=.pointer (some ⟨d,0,none⟩)) ?_
 unfold Zfn
 have h1:=(hS.pick i hi).split
 refine Zb h1 0 rfl rfl ?_
 cases b with
 | true=>exact Zi hk
 | false=>exact Zf (Zb h1 1 rfl rfl hk)
theorem ZqN {v:Value} {fs:List Value} {Es:List Int} (i:Nat) (hi:L[i]?=some S) (hS:Sat e w L) (hr:∀g,S g→rdS 1 (λv=>[v]) v fs g) (hl:fs.length≤1000) (hE:Es.length=fs.length)
  (hc:∀(j:Nat) fv E,fs[j]?=some fv→Es[j]?=some E→(∀E'∈Es.take j,E'=0)→∀(w:World) (K:KV),Sat e w L→(∀w',Sat e w' L→K (.int .i64 E) w')→clV prog fv #[] w K)
  (hk:∀w',Sat e w' L→K (.int .i64 (Zkm Es)) w'):Cl prog 40 #[v] w K:=by
 refine ZiT ?_
 unfold Zkn
 refine Zt hS i hi hr ?_
 refine Zdk (λq t8 w'=>∃j:Nat,j≤fs.length∧t8=.int .i64 j∧q=fs.length - j∧(∀E'∈Es.take j,E'=0)∧Sat e w' L) fs.length ⟨0,Nat.zero_le _,rfl,rfl,by simp,hS⟩ ?_
 rintro q _ w' g ⟨j,hj,rfl,rfl,hno,h1⟩ hg
 have hz:∀(l1 l2:List Int),(∀E'∈l1,E'=0)→Zkm (l1++l2)=Zkm l2:=by
  intro l1 l2 h
  induction l1 with
  | nil=>rfl
  | cons a l1 ih=>rw[List.cons_append,Zbt,if_pos (h a (by simp)),ih λx hx=>h x (by simp[hx])]
 refine Za7 (λc=>Zi ?_) (λc=>Zf ?_)
 ·obtain ⟨fv,hf⟩:=Zk (l:=fs) (j:=j) (by omega)
  obtain ⟨E,hE'⟩:=Zk (l:=Es) (j:=j) (by omega)
  refine Zw h1 i hi hr (λ_=>rfl) hf λa ha=>?_
  refine Yt h1 i hi ha (v:=fv) rfl ?_
  refine hc j fv E hf hE' hno _ _ h1 λw2 h2=>?_
  have hsp:Es=Es.take j++E::Es.drop (j+1):=by
   rw[←Zaq hE',List.take_append_drop]
  refine ZrP (λc2=>Zi ?_) (λc2=>Zf ?_)
  ·have:=hk _ h2
   rw[hsp,hz _ _ hno,Zbt,if_neg c2] at this
   exact this
  ·refine Yr (by omega) ?_
   refine hg _ _ _ (by omega) ⟨j+1,by omega,rfl,rfl,?_,h2⟩
   intro E' hE2
   rw[List.take_add_one,hE'] at hE2
   rcases List.mem_append.1 hE2 with h | h
   ·exact hno E' h
   ·simp at h;rw[h];exact c2
 ·have ej:j=fs.length:=by omega
  have:=hk _ h1
  rw[ej,←hE,List.take_length] at hno
  rw[←List.append_nil Es,hz _ _ hno] at this
  exact this
end Go.Proofs.YtnhaekgogppbiaaGreat
namespace Go.Proofs.YtnhaekgogppbiaaGreat
open Go Go.E
set_option maxRecDepth 100000
variable {e w:World} {L R:List HP} {K:KV} {S:HP}
theorem ZGf {κ ν:Type} [DecidableEq κ] {kf:κ→Value} {vf:ν→Value} {t kt vt:TypeId} {zv:Value} {b:Nat} {m:List (κ × ν)} (KT:ZvT prog kt kf) (MT:Zx6 prog t kt vt zv) (hS:Sat e w L) (i:Nat) (hi:L[i]?=some (Zaj kf vf b m)) (k:κ)
  (hk:K (match lkA m k with | some x=>vf x | none=>zv) w):lkM prog t (.map (some b)) (kf k) false w K:=by
 obtain ⟨es,clock,h1,h2,h3⟩:=hS.getMap i hi
 obtain ⟨inf,hi1,hi2⟩:=MT.zero
 refine Yn (w':=w) ?_ hk
 have hf:=KT.fnd k es.toList (m.map (·.1)) (ZlZ h2) w
 unfold Instr.lookup
 simp only[Sem.run_bind,Yb MT.und,Result.andThen_ok,Zbf h1,Sem.run_pure,KT.chk,hf]
 have hl:=ZlY m k
 cases hx:(m.map (·.1)).findIdx? (λx=>decide (x=k)) with
 | none=>
  rw[hx] at hl
  simp only[Option.bind_none] at hl ⊢
  rw[←hl]
  simp only[Sem.run_bind,Zdn hi1 hi2,Result.andThen_ok,Sem.run_pure]
  rfl
 | some j=>
  rw[hx] at hl
  simp only[Option.bind_some] at hl ⊢
  have hv:=ZxB h2 j
  have hjl:j<m.length:=by
   obtain ⟨hj,_⟩:=List.findIdx?_eq_some_iff_getElem.1 hx
   simpa using hj
  rw[List.getElem?_eq_getElem hjl] at hv hl
  simp only[Option.map_some] at hv hl
  obtain ⟨e',he,hev⟩:=Option.map_eq_some_iff.1 hv
  rw[he,←hl]
  simp only[Option.map_some,hev]
  rfl
theorem Zkz {v:Value} {l:List Int} (i:Nat) (hi:L[i]?=some S) (hS:Sat e w L) (hr:∀g,S g→rdS 1 (Ye .i64) v l g) (hk:K (.int .i64 (ZhY l)) w):Cl prog 42 #[v] w K:=by
 refine Zk1 ?_
 unfold ZnC
 have hbad:¬ZkT l→K (.int .i64 50) w:=λh=>by unfold ZhY at hk;rw[if_neg h] at hk;exact hk
 refine Zt hS i hi hr ?_
 by_cases c1:1≤l.length
 ·by_cases c2:l.length≤16
  ·refine Ze7 (by omega) (Zj (Ze (Zle (by omega) (Yd (Zf ?_)))))
   refine Zt hS i hi hr ?_
   refine Zdk (λq t8 w'=>∃j:Nat,j≤l.length∧t8=.int .i64 j∧q=l.length - j∧(∀(i:Nat) p,i<j→l[i]?=some p→-1≤p∧p<i)∧w'=w) l.length ⟨0,Nat.zero_le _,rfl,rfl,λ_ _ h=>absurd h (by omega),rfl⟩ ?_
   rintro q _ w' g ⟨j,hj,rfl,rfl,hno,rfl⟩ hg
   refine Za7 (λc=>Zi ?_) (λc=>Zf ?_)
   ·obtain ⟨y,hy⟩:=Zk (l:=l) (j:=j) (by omega)
    refine Zw hS i hi hr (λ_=>rfl) hy λa ha=>?_
    refine Yt hS i hi ha (v:=.int .i64 y) rfl ?_
    by_cases c3:y < -1
    ·refine Ztt (by omega) (Zd (Zd (Zd (Yv (Zi ?_)))))
     exact hbad λh=>by have:=h.2.2 j y hy;omega
    ·by_cases c4:(j:Int)≤y
     ·refine Ze7 (by omega) (Zj (Zj (Ze (Zqv (by omega) (Yd (Zi ?_))))))
      exact hbad λh=>by have:=h.2.2 j y hy;omega
     ·refine Ze7 (by omega) (Zj (Zj (Ze (ZnR (by omega) (Yd (Zf ?_))))))
      refine Yr (by omega) ?_
      refine hg _ _ _ (by omega) ⟨j+1,by omega,rfl,rfl,λi p hi hp=>?_,rfl⟩
      by_cases h:i=j
      ·subst h
       rw[hy] at hp
       cases hp
       omega
      ·exact hno i p (by omega) hp
   ·have ej:j=l.length:=by omega
    unfold ZhY at hk
    rw[if_pos ⟨c1,c2,λi p hp=>hno i p (by have:=(List.getElem?_eq_some_iff.1 hp).1;omega) hp⟩] at hk
    exact hk
  ·refine Ze7 (by omega) (Zj (Ze (ZtF (by omega) (Yd (Zi ?_)))))
   exact hbad λh=>c2 h.2.1
 ·refine Ztt (by omega) (Zd (Zd (Yv (Zi ?_))))
  exact hbad λh=>c1 h.1
theorem ZFA {o:Out} (ho:o.wf) (hS:Sat e w R) (hk:∀w',Sat e w' R→∀b:Bool,(b=true↔¬ZuI o)→K (.bool b) w'):clV prog (.func (.func 108) #[] #[]) #[.agg o.cs.toArray] w K:=by
 refine ⟨_,_,_,rfl,?_⟩
 refine Zh0 (t0:=.agg o.cs.toArray) ?_
 unfold Zix
 obtain ⟨w1,w2,w3⟩:=ho
 refine Yp (cs:=o.cs) hS rfl λb2 w1' h1=>?_
 have hk:=hk w1' h1.drop
 refine Za ?_
 refine Zb h1 0 rfl (v:=.int .i64 o.Class) rfl ?_
 refine ZjW w1 (by decide) (by decide) ?_
 refine Zk5 ?_
 by_cases c1:0≤o.Class∧o.Class<16
 ·rw[decide_eq_true c1,Bool.not_true]
  refine Ze (Za (Ze ?_))
  refine Zb h1 0 rfl (v:=.int .i64 o.Delay) rfl ?_
  refine Zj (ZjW w2 (by decide) (by decide) ?_)
  refine Zj (Zk5 ?_)
  by_cases c2:0≤o.Delay∧o.Delay<1048577
  ·rw[decide_eq_true c2,Bool.not_true]
   refine Yd (Ze (Za (Ze ?_)))
   refine Zb h1 0 rfl (v:=.int .i64 o.Add) rfl ?_
   refine Zj (ZjW w3 (by decide) (by decide) ?_)
   refine Zj (Zk5 (Yd ?_))
   refine hk _ ?_
   unfold ZuI
   by_cases c3:0≤o.Add∧o.Add<1000
   ·simp[c1,c2,c3]
   ·rw[decide_eq_false c3]
    simp only[Bool.not_false,true_iff]
    exact λh=>c3 h.2.2.2.2
  ·rw[decide_eq_false c2,Bool.not_false]
   refine Yd (Zd (Zd (Zd (Zd (Yv ?_)))))
   exact hk _ ⟨λ_ (h:ZuI o)=>c2 ⟨h.2.2.1,h.2.2.2.1⟩,λ_=>rfl⟩
 ·rw[decide_eq_false c1,Bool.not_false]
  refine Zd (Zd (Zd (Zd (Yv (Zd (Zd (Zd (Zd (Yv ?_)))))))))
  exact hk _ ⟨λ_ h=>c1 ⟨h.1,h.2.1⟩,λ_=>rfl⟩
theorem Zi6 {v fv:Value} {l:List Out} {p:Out→Prop} (i:Nat) (hi:L[i]?=some S) (hS:Sat e w L) (hr:∀g,S g→rdS 3 Out.cs v l g) (hl:l.length≤1000000)
  (hp:∀o∈l,∀(w:World) (K:KV),Sat e w L→(∀w',Sat e w' L→∀b:Bool,(b=true↔p o)→K (.bool b) w')→clV prog fv #[.agg o.cs.toArray] w K)
  (hk:∀w',Sat e w' L→∀b:Bool,(b=true↔∃o∈l,p o)→K (.bool b) w'):Cl prog 84 #[v,fv] w K:=by
 refine Zbh ?_
 unfold ZaA
 refine ZbB ?_
 unfold ZaQ
 refine Zt hS i hi hr ?_
 refine Zdk (λq t8 w=>∃j:Nat,j≤l.length∧t8=.int .i64 j∧q=l.length - j∧(∀o∈l.take j,¬p o)∧Sat e w L) l.length ⟨0,Nat.zero_le _,rfl,rfl,by simp,hS⟩ ?_
 rintro q _ w g ⟨j,hj,rfl,rfl,hno,h1⟩ hg
 refine Za7 (λc=>Zi ?_) (λc=>Zf ?_)
 ·obtain ⟨o,ho⟩:=Zk (l:=l) (j:=j) (by omega)
  refine Zw h1 i hi hr (λ_=>rfl) ho λa ha=>?_
  refine Ym h1 i hi ha rfl ?_
  refine hp o (List.mem_of_getElem? ho) _ _ h1 λw2 h2 b hb=>?_
  cases b with
  | true=>exact Zi (Zqv (by omega) (hk _ h2 true ⟨λ_=>⟨o,List.mem_of_getElem? ho,hb.1 rfl⟩,λ_=>rfl⟩))
  | false=>
   refine Zf (Yr (by omega) ?_)
   refine hg _ _ _ (by omega) ⟨j+1,by omega,rfl,rfl,λy hy=>?_,h2⟩
   rw[List.take_add_one,ho] at hy
   rcases List.mem_append.1 hy with h | h
   ·exact hno y h
   ·simp at h
    subst h
    exact λh=>by have:=hb.2 h;cases this
 ·have ej:j=l.length:=by omega
  rw[ej,List.take_length] at hno
  exact ZnR (by omega) (hk _ h1 false ⟨(λh=>by cases h),λ⟨o,ho,hpo⟩=>absurd hpo (hno o ho)⟩)
structure OnK where
 s:Int
 c:Int
 deriving DecidableEq
def OnK.ns (x:OnK):List Int:=[x.s,x.c]
def kfO (x:OnK):Value:=.agg (Yi x.ns).toArray
def vfB (b:Bool):Value:=.bool b
theorem OnK.eq_ns (a b:OnK):(a.ns==b.ns)=decide (a=b):=by
 rw[Bool.eq_iff_iff]
 obtain ⟨a0,a1⟩:=a
 obtain ⟨b0,b1⟩:=b
 simp[OnK.ns]
theorem ZuK:ZvT prog 209 kfO:=
 Zr0 (κ:=OnK) (ns:=OnK.ns) (n:=6) Tryz.underlying209 ZVc ZVj (by decide) (λ_=>rfl) OnK.eq_ns (λb k w=>by cases b <;> kernel_rfl)
def onK (r:Yg):OnK:=⟨r.State,r.Class⟩
theorem Zjx {l:List Yg}:Zc4 (l.map Yg.r)↔l.length≤32∧(∀r∈l,ZrU r.r)∧(l.map onK).Nodup:=by
 unfold Zc4
 rw[List.length_map,List.map_map]
 refine and_congr Iff.rfl (and_congr ⟨λh r hr=>h _ (List.mem_map_of_mem hr),λh r hr=>?_⟩ ?_)
 ·obtain ⟨x,hx,rfl⟩:=List.mem_map.1 hr
  exact h x hx
 ·rw[List.nodup_iff_pairwise_ne,List.nodup_iff_pairwise_ne,List.pairwise_map,List.pairwise_map]
  constructor
  ·refine λh=>h.imp λhne e=>hne ?_
   simp only[onK,OnK.mk.injEq] at e
   simp only[Function.comp,ZFW,Yg.r,e]
  ·refine λh=>h.imp λhne e=>hne ?_
   simp only[Function.comp,ZFW,Yg.r,Prod.mk.injEq] at e
   simp only[onK,e]
theorem Zxg {α β:Type} {f:α→β} {l:List α} {j:Nat} {x:α} (h:(l.map f).Nodup) (hx:l[j]?=some x):f x∉(l.take j).map f:=by
 have hsp:l=l.take j++x::l.drop (j+1):=by rw[←Zaq hx,List.take_append_drop]
 rw[hsp,List.map_append,List.map_cons,List.nodup_append] at h
 intro hm
 exact h.2.2 _ hm _ List.mem_cons_self rfl
theorem Ztv {α β:Type} {f:α→β} {l:List α} {j:Nat} {x:α} (h:((l.take j).map f).Nodup) (hx:l[j]?=some x) (hn:f x∉(l.take j).map f):((l.take (j+1)).map f).Nodup:=by
 rw[List.take_add_one,hx,Option.toList_some,List.map_append,List.nodup_append]
 refine ⟨h,by simp,λa ha b hb=>?_⟩
 simp at hb
 subst hb
 exact λe=>hn (e▸ha)
open Classical in
theorem Zom {v:Value} {l:List Yg} (i:Nat) (hi:L[i]?=some S) (hS:Sat e w L) (hr:∀g,S g→Zew v l g) (hwf:∀r∈l,r.wf) (hl:∀r∈l,r.Sends.length≤1000000) (hk:∀w',Sat e w' L→K (.int .i64 (if Zc4 (l.map Yg.r) then 0 else 70)) w') :
  Cl prog 83 #[v] w K:=by
 refine ZjH ?_
 unfold Zmi
 have hbad:¬Zc4 (l.map Yg.r)→∀w',Sat e w' L→K (.int .i64 70) w':=λh w' h'=>by have:=hk w' h';rw[if_neg h] at this;exact this
 refine Zt hS i hi (λg hg=>(hr g hg).s) ?_
 by_cases c1:32<l.length
 ·refine ZtF (by omega) (Zi ?_)
  exact hbad (λh=>by have:=h.1;rw[List.length_map] at this;omega) _ hS
 refine Zle (by omega) (Zf ?_)
 refine Zfx kfO vfB hS λmb w1 h1=>?_
 refine Zt h1 (i+1) (by simpa using hi) (λg hg=>(hr g hg).s) ?_
 refine Zdk (λq t14 w=>∃(j:Nat) (m:List (OnK × Bool)),j≤l.length∧t14=.int .i64 j∧q=l.length - j∧(∀r∈l.take j,ZrU r.r)∧((l.take j).map onK).Nodup∧Znz m∧(∀k,lkA m k=if k∈(l.take j).map onK then some true else none)∧Sat e w (Zaj kfO vfB mb m::L)) l.length
  ⟨0,[],Nat.zero_le _,rfl,rfl,by simp,by simp,by simp[Znz],by simp[lkA],h1⟩ ?_
 rintro q _ w g ⟨j,m,hj,rfl,rfl,hall,hnd,hu,hlk,h2⟩ hg
 refine Za7 (λc=>Zi ?_) (λc=>Zf ?_)
 ·obtain ⟨r,hrj⟩:=Zk (l:=l) (j:=j) (by omega)
  have hrm:=List.mem_of_getElem? hrj
  obtain ⟨f1,f2,f3,f4⟩:=hwf r hrm
  have hi1:(Zaj kfO vfB mb m::L)[i+1]?=some S:=by simpa using hi
  refine Zw h2 (i+1) hi1 (λg hg=>(hr g hg).s) (λ_=>rfl) hrj λa ha=>?_
  refine Ym h2 (i+1) hi1 ha rfl ?_
  rw[ZUN,ZU4]
  refine Yp (cs:=[.int .i64 0,.int .i64 0,.int .i64 0,.slice none 0 0]) h2 rfl λt w3 h3=>?_
  have hflat:∀c∈r.cs,flat c=true:=by
   obtain ⟨g,hg,_⟩:=hS.get i hi
   obtain ⟨A,c',hsv,_⟩:=(hr g hg).e r hrm
   intro c hc
   simp only[Yg.cs,List.mem_cons,List.not_mem_nil,or_false] at hc
   rcases hc with rfl | rfl | rfl | rfl
   ·rfl
   ·rfl
   ·rfl
   ·rw[hsv];rfl
  refine Zq h3 0 rfl (vs:=r.cs) rfl rfl (by simp) hflat (cs':=r.cs) (by rfl) λw4 h4=>?_
  refine Za ?_
  refine Zb h4 0 rfl (v:=.int .i64 r.State) rfl ?_
  refine Za ?_
  refine Zb h4 0 rfl (v:=.int .i64 r.Class) rfl ?_
  refine Zaf [.int .i64 r.State,.int .i64 r.Class] (by kernel_rfl) ?_
  refine Yp (cs:=[.int .i64 0,.int .i64 0]) h4 rfl λt6 w5 h5=>?_
  refine Zq h5 0 rfl (vs:=Yi (onK r).ns) rfl rfl (by simp) (Zg _) (cs':=Yi (onK r).ns) (by rfl) λw6 h6=>?_
  refine Zo h6 0 (vs:=Yi (onK r).ns) rfl (by rfl) rfl ?_
  refine ZGf ZuK ZUm h6 2 rfl (onK r) ?_
  rw[hlk]
  have hi3:(blk t6 209 (Yi (onK r).ns)::blk t 48 r.cs::Zaj kfO vfB mb m::L)[i+3]?=some S:=by simpa using hi
  by_cases hmem:onK r∈(l.take j).map onK
  ·rw[if_pos hmem]
   show gd (.bool true) false _ _ _
   refine Zd (Zd (Zd (Zd (Yv (Zd (Zd (Zd (Zd (Yv (Zd (Zd (Zd (Zd (Yv (Zd (Zd (Zd (Zd (Yv (Zd (Zd (Zd (Zd (Yv (Zi ?_)))))))))))))))))))))))))
   exact hbad (λh=>Zxg (Zjx.1 h).2.2 hrj hmem) _ h6.drop.drop.drop
  rw[if_neg hmem]
  show gd (.bool false) false _ _ _
  have hno:¬ZrU r.r→K (.int .i64 70) w6:=λh=>hbad (λh2=>h ((Zjx.1 h2).2.1 r hrm)) _ h6.drop.drop.drop
  refine Ze (Za (Ze ?_))
  refine Zb h6 1 rfl (v:=.int .i64 r.State) rfl ?_
  refine Zj (ZjW f1 (by decide) (by decide) ?_)
  refine Zj (Zk5 ?_)
  by_cases d1:0≤r.State∧r.State<8
  case neg=>
   rw[decide_eq_false d1,Bool.not_false]
   refine Yd (Zd (Zd (Zd (Zd (Yv (Zd (Zd (Zd (Zd (Yv (Zd (Zd (Zd (Zd (Yv (Zd (Zd (Zd (Zd (Yv (Zi ?_)))))))))))))))))))))
   exact hno λh=>d1 ⟨h.1,h.2.1⟩
  rw[decide_eq_true d1,Bool.not_true]
  refine Yd (Ze (Za (Ze ?_)))
  refine Zb h6 1 rfl (v:=.int .i64 r.Next) rfl ?_
  refine Zj (ZjW f3 (by decide) (by decide) ?_)
  refine Zj (Zk5 ?_)
  by_cases d2:0≤r.Next∧r.Next<8
  case neg=>
   rw[decide_eq_false d2,Bool.not_false]
   refine Yd (Zd (Zd (Zd (Zd (Yv (Zd (Zd (Zd (Zd (Yv (Zd (Zd (Zd (Zd (Yv (Zi ?_))))))))))))))))
   exact hno λh=>d2 ⟨h.2.2.1,h.2.2.2.1⟩
  rw[decide_eq_true d2,Bool.not_true]
  refine Yd (Ze (Za (Ze ?_)))
  refine Zb h6 1 rfl (v:=.int .i64 r.Class) rfl ?_
  refine Zj (ZjW f2 (by decide) (by decide) ?_)
  refine Zj (Zk5 ?_)
  by_cases d3:0≤r.Class∧r.Class<16
  case neg=>
   rw[decide_eq_false d3,Bool.not_false]
   refine Yd (Zd (Zd (Zd (Zd (Yv (Zd (Zd (Zd (Zd (Yv (Zi ?_)))))))))))
   exact hno λh=>d3 ⟨h.2.2.2.2.1,h.2.2.2.2.2.1⟩
  rw[decide_eq_true d3,Bool.not_true]
  refine Yd (Ze (Za (Ze ?_)))
  refine Zb h6 1 rfl (v:=r.sv) rfl ?_
  refine Zj (Zt h6 (i+3) hi3 (λg hg=>(hr g hg).e r hrm) ?_)
  by_cases d4:3<r.Sends.length
  ·refine Ze (ZtF (by omega) (Yd (Zd (Zd (Zd (Zd (Yv (Zi ?_))))))))
   exact hno λh=>by have:=h.2.2.2.2.2.2.1;simp only[Yg.r] at this;omega
  refine Zj (Zle (by omega) ?_)
  refine Yd (Ze (Za (Ze ?_)))
  refine Zb h6 1 rfl (v:=r.sv) rfl ?_
  refine Zj (Zj (Zi6 (p:=λo=>¬ZuI o) (i+3) hi3 h6 (λg hg=>(hr g hg).e r hrm) (hl r hrm) (λo ho w K h hk=>ZFA (f4 o ho) h hk) λw7 h7 b hb=>?_))
  refine Yd (ZBL b (λhbt=>?_) (λhbf=>?_))
  ·obtain ⟨o,ho,hno'⟩:=hb.1 hbt
   exact hbad (λh2=>hno' (((Zjx.1 h2).2.1 r hrm).2.2.2.2.2.2.2 o ho)) _ h7.drop.drop.drop
  ·refine Zo h7 0 (vs:=Yi (onK r).ns) rfl (by rfl) rfl ?_
   refine ZsG ZuK ZUm hu (h7.pick 2 rfl) (onK r) true rfl λw8 h8=>?_
   refine Yr (by omega) ?_
   refine hg _ _ _ (by omega) ⟨j+1,_,by omega,rfl,rfl,λx hx=>?_,Ztv hnd hrj hmem,hu.up _ _,λk=>?_,h8.selR [_,_,_] [_] [0] (by decide) rfl⟩
   ·rw[List.take_add_one,hrj] at hx
    rcases List.mem_append.1 hx with h | h
    ·exact hall x h
    ·simp at h
     subst h
     refine ⟨d1.1,d1.2,d2.1,d2.2,d3.1,d3.2,by simp only[Yg.r];omega,λo ho=>Classical.not_not.1 λh=>?_⟩
     have:=hb.2 ⟨o,ho,h⟩
     rw[hbf] at this
     cases this
   ·rw[ZiY hu,hlk,List.take_add_one,hrj,Option.toList_some,List.map_append]
    by_cases hk1:k=onK r
    ·simp[hk1]
    ·simp[hk1]
 ·have ej:j=l.length:=by omega
  rw[ej,List.take_length] at hall hnd
  have:=hk _ h2.drop
  rw[if_pos (Zjx.2 ⟨by omega,hall,hnd⟩)] at this
  exact this
end Go.Proofs.YtnhaekgogppbiaaGreat
end
