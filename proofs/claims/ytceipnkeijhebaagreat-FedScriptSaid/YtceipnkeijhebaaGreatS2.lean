/- Texts of the proof, joined. Conditions: none. -/
import Derived.Test.YtceipnkeijhebaaGreatS1
import Derived.KernelRfl
import Derived.DeepKeys3
section
namespace Go.Proofs.YtceipnkeijhebaaGreat
open Go Go.E
variable {t0 t1 t2 t3 t4 t5 t6 t7 t8 t9 t10 t11 t12 t13 t14 t15 t16 t17 t18 t19 t20 t21 t22 t23 t24 t25 t26 t27 t28 t29:Value} {w:World} {K:KV}
set_option linter.unusedVariables false
set_option maxRecDepth 100000
def ZkH (a w) (K:KV):=
 (FL 3 a λb=>CC 134 #[b] λc=>K c) w
theorem Zjd (h:ZkH t0 w K):Cl prog 133 #[t0] w K:=
 ZML 5 [1] Tryz.func133 h
def Zmi (a w) (K:KV):=
 (NS a λb=>BB .gtr b (Iw 32) λc=>II c (K<|Iw 70)<|SS (ZlQ) λd=>NS a λe=>L1 (Iw 0) λf h=>BB .lss f e λi=>II i (IX 4 a f λj=>LN 4 j λl=>AL (Zl prog 54) 54 λm=>TN 4 m l<|FL 0 m λn=>FL 1 m λo=>SS (bld (Zl prog 267) #[(0,1),(1,1)] [(0,n),(1,o)]) λp=>AL (Zl prog 267) 267 λq=>TN 2 q p<|LN 2 q λr=>SS (lkM prog 265 d r false) λs=>GF s (fld 0 m) λt=>GF s (ld1 t) λu=>GF s (Cl prog 183 #[u,Iw 8]) λv=>GF s (Zb3 v) λx=>PP s Bt x λy=>GF y (fld 2 m) λz=>GF y (ld1 z) λa0=>GF y (Cl prog 183 #[a0,Iw 8]) λa1=>GF y (Zb3 a1) λa2=>PP y Bt a2 λa3=>GF a3 (fld 1 m) λa4=>GF a3 (ld1 a4) λa5=>GF a3 (Cl prog 183 #[a5,Iw 16]) λa6=>GF a3 (Zb3 a6) λa7=>PP a3 Bt a7 λa8=>GF a8 (fld 3 m) λa9=>GF a8 (ld1 a9) λb0=>GF a8 (lnS b0) λb1=>GF a8 (bi .gtr .i64 b1<|Iw 3) λb2=>PP a8 Bt b2 λb3=>GF b3 (fld 3 m) λb4=>GF b3 (ld1 b4) λb5=>MF b3 (Value.func (.func 182) #[] #[]) λb6=>GF b3 (Cl prog 135 #[b5,b6]) λb7=>PP b3 Bt b7 λb8=>II b8 (K<|Iw 70)<|LN 2 q λb9=>SS (upM prog 265 d b9 Bt) λ_=>BB .add f (Iw 1) λc0=>h [c0])<|K<|Iw 0) w
theorem ZjH (h:Zmi t0 w K):Cl prog 134 #[t0] w K:=
 ZML 59 [2] Tryz.func134 h
def ZaA (a b w) (K:KV):=
 (CC 184 #[a,b] λc=>BB .geq c (Iw 0) λd=>K d) w
theorem Zbh (h:ZaA t0 t1 w K):Cl prog 135 #[t0,t1] w K:=
 ZML 9 [4] Tryz.func135 h
def ZcL (a w) (K:KV):=
 (SS (bO prog .eql 22 (Operand.tmp 3) (Operand.const Sn) a Sn) λb=>II b (K Sn)<|SS (bsl 3 1 0 #[] []) λc=>SS (apS prog #[22,22] 22 c a) λd=>K d) w
theorem Zdc (h:ZcL t0 w K):Cl prog 136 #[t0] w K:=
 ZML 8 [2] Tryz.func136 h
def Zbk (a w) (K:KV):=
 (SS (bO prog .eql 23 (Operand.tmp 3) (Operand.const Sn) a Sn) λb=>II b (K Sn)<|SS (bsl 52 7 0 #[] []) λc=>SS (apS prog #[23,23] 23 c a) λd=>K d) w
theorem Zb1 (h:Zbk t0 w K):Cl prog 137 #[t0] w K:=
 ZML 8 [2] Tryz.func137 h
def Zbm (a w) (K:KV):=
 (SS (bO prog .eql 50 (Operand.tmp 3) (Operand.const Sn) a Sn) λb=>II b (K Sn)<|SS (bsl 133 3 0 #[] []) λc=>SS (apS prog #[50,50] 50 c a) λd=>K d) w
theorem ZbZ (h:Zbm t0 w K):Cl prog 138 #[t0] w K:=
 ZML 8 [2] Tryz.func138 h
def Za3 (a w) (K:KV):=
 (SS (bO prog .eql 49 (Operand.tmp 3) (Operand.const Sn) a Sn) λb=>II b (K Sn)<|SS (bsl 54 4 0 #[] []) λc=>SS (apS prog #[49,49] 49 c a) λd=>K d) w
theorem ZbH (h:Za3 t0 w K):Cl prog 139 #[t0] w K:=
 ZML 8 [2] Tryz.func139 h
def ZnJ (a b c d e w) (K:KV):=
 (AL (Value.cells e) 133 λf=>AL (Zl prog 85) 85 λh=>DD0<|FM 1 f λi=>FQ 0 f λj=>LQ j λl=>FQ 2 f λm=>LQ m λn=>CC 185 #[c,i] λo=>OO (ld1 m) n<|OO (ld1 j) l<|AN (SS (bld (Zl prog 83) #[(0,1),(1,1),(2,1)] [(0,o),(1,a),(2,b)]) λp=>OO (ld1 m) n<|OO (ld1 j) l<|CC 186 #[d] λq=>OO (ld1 m) n<|OO (ld1 j) l<|CC 186 #[n] λr=>OO (ld1 j) l<|BQ .add q r λs=>CC 186 #[s] λt=>OO (ld1 j) l<|SS (bld (Zl prog 85) #[(0,3),(3,1),(4,1),(5,1)] [(0,p),(1,(Iw (-1))),(2,l),(3,t)]) λu=>TN 6 h u<|LM 6 h λv=>K v)<|CC 186 #[d] λx=>OO (ld1 m) n<|OO (ld1 j) l<|AN (SS (bld (Zl prog 83) #[(0,1),(1,1),(2,1)] [(0,o),(1,a),(2,b)]) λy=>OO (ld1 m) n<|OO (ld1 j) l<|CC 186 #[n] λz=>OO (ld1 j) l<|BQ .add x z λa0=>CC 186 #[a0] λa1=>OO (ld1 j) l<|SS (bld (Zl prog 85) #[(0,3),(3,1),(4,1),(5,1)] [(0,y),(1,(Iw (-1))),(2,l),(3,a1)]) λa2=>TN 6 h a2<|LM 6 h λa3=>K a3)<|CC 186 #[n] λa4=>OO (ld1 j) l<|BQ .add x a4 λa5=>AN (SS (bld (Zl prog 83) #[(0,1),(1,1),(2,1)] [(0,o),(1,a),(2,b)]) λa6=>OO (ld1 m) n<|OO (ld1 j) l<|CC 186 #[a5] λa7=>OO (ld1 j) l<|SS (bld (Zl prog 85) #[(0,3),(3,1),(4,1),(5,1)] [(0,a6),(1,(Iw (-1))),(2,l),(3,a7)]) λa8=>TN 6 h a8<|LM 6 h λa9=>K a9)<|CC 186 #[a5] λb0=>OO (ld1 j) l<|SS (bld (Zl prog 83) #[(0,1),(1,1),(2,1)] [(0,o),(1,a),(2,b)]) λb1=>OO (ld1 m) n<|OO (ld1 j) l<|SS (bld (Zl prog 85) #[(0,3),(3,1),(4,1),(5,1)] [(0,b1),(1,(Iw (-1))),(2,l),(3,b0)]) λb2=>TN 6 h b2<|LM 6 h λb3=>K b3) w
theorem ZkY (h:ZnJ t0 t1 t2 t3 t4 w K):Cl prog 140 #[t0,t1,t2,t3,t4] w K:=
 ZMM 28 [(10,some 85)] Tryz.func140 h
def ZiO (a b c w) (K:KV):=
 (AL (Value.cells a) 25 λd=>AL (Value.cells c) 3 λe=>FL 1 d λf=>NS f λh=>L2 Sn (Iw 0) λi j l=>BB .lss j h λm=>II m (JB (λn=>BB .add j (Iw 1) λo=>l [n,o]) λp=>IX 7 f j λq=>LN 7 q λr=>AL (Zl prog 52) 52 λs=>TN 7 s r<|BB .neq j b λt=>GT t (fld 5 s) λu=>GT t (ld1 u) λv=>MT t (Value.func (Fn.func 188) #[] #[d,e]) λx=>GT t (Cl prog 187 #[v,x]) λy=>PP t y Bf λz=>II z (SS (bsl 3 1 1 (Zl prog 3) [(0,j)]) λa0=>SS (apS prog #[22,22] 22 i a0) λa1=>p a1)<|p i)<|K i) w
theorem Zhu (h:ZiO t0 t1 t2 w K):Cl prog 141 #[t0,t1,t2] w K:=
 ZML 33 [6] Tryz.func141 h
def ZJH (a w) (K:KV):=
 (NS a λb=>BB .gtr b (Iw 32) λc=>II c (K<|Iw 70)<|L1 (Iw 0) λd e=>NS a λf=>BB .lss d f λh=>II h (DD0<|IQ 4 a d λi=>LM 4 i λj=>CC 190 #[j] λl=>SQ (Zb3 l) λm=>NF m a λn=>NF m a λo=>NF m d λp=>GQ false m (ixS 4 o p) λq=>GQ false m (fld 0 q) λr=>GQ false m (ld1 r) λs=>NF m a λt=>NF m d λu=>GQ false m (ixS 4 t u) λv=>GQ false m (fld 1 v) λx=>GQ false m (ld1 x) λy=>NF m d λz=>GF m (Cl prog 191 #[n,s,y]) λa0=>GQ false m (bi .neq .i64 a0 z) λa1=>PQ m Bt a1 λa2=>II a2 (K<|Iw 70)<|BB .add d (Iw 1) λa3=>e [a3])<|K<|Iw 0) w
theorem ZJZ (h:ZJH t0 w K):Cl prog 142 #[t0] w K:=
 ZML 35 [2] Tryz.func142 h
def ZJu (a b w) (K:KV):=
 (L1 (Iw 0) λc d=>NS a λe=>BB .lss c e λf=>II f (DD0<|IQ 1 a c λh=>LQ h λi=>BQ .lss i (Iw 0) λj=>NF j a λl=>NF j c λm=>GQ false j (ixS 1 l m) λn=>GQ false j (ld1 n) λo=>NF j b λp=>GQ false j (bi .geq .i64 o p) λq=>PQ j Bt q λr=>NF r c λs=>GQ false r (bi .gtr .i64 s<|Iw 0) λt=>NF r t λu=>NT u a λv=>NT u c λx=>GQ true u (ixS 1 v x) λy=>GQ true u (ld1 y) λz=>NT u a λa0=>NT u c λa1=>GQ true u (bi .sub .i64 a1<|Iw 1) λa2=>GQ true u (ixS 1 a0 a2) λa3=>GQ true u (ld1 a3) λa4=>GQ true u (bi .leq .i64 z a4) λa5=>GQ false r (pk u a5 Bf) λa6=>PQ r Bt a6 λa7=>II a7 (K Bf)<|BB .add c (Iw 1) λa8=>d [a8])<|K Bt) w
theorem ZJK (h:ZJu t0 t1 w K):Cl prog 143 #[t0,t1] w K:=
 ZML 41 [4] Tryz.func143 h
def ZKe (a b w) (K:KV):=
 (L1 (Iw 0) λc d=>NS a λe=>BB .lss c e λf=>II f (IX 1 a c λh=>LL h λi=>BB .eql i b λj=>II j (K Bt)<|BB .add c (Iw 1) λl=>d [l])<|K Bf) w
theorem ZKf (h:ZKe t0 t1 w K):Cl prog 144 #[t0,t1] w K:=
 ZML 18 [4] Tryz.func144 h
def ZJS (a b c d e w) (K:KV):=
 (AL (Value.cells e) 133 λf=>AL (Zl prog 85) 85 λh=>BB .rem d (Iw 1000) λi=>FL 2 f λj=>BB .rem j (Iw 1000) λl=>BB .add i l λm=>BB .rem m (Iw 1000) λn=>BB .add n (Iw 1000) λo=>DD0<|FM 1 f λp=>FQ 0 f λq=>LQ q λr=>BQ .rem o (Iw 1000) λs=>CC 175 #[c,p] λt=>OO (ld1 q) r<|SS (bld (Zl prog 83) #[(0,1),(1,1),(2,1)] [(0,t),(1,a),(2,b)]) λu=>OO (ld1 q) r<|SS (bld (Zl prog 85) #[(0,3),(3,1),(4,1),(5,1)] [(0,u),(1,(Iw (-1))),(2,r),(3,s)]) λv=>TN 6 h v<|LM 6 h λx=>K x) w
theorem ZJ8 (h:ZJS t0 t1 t2 t3 t4 w K):Cl prog 145 #[t0,t1,t2,t3,t4] w K:=
 ZMM 32 [(10,some 85)] Tryz.func145 h
def ZJz (a b c w) (K:KV):=
 (AL (Value.cells a) 25 λd=>FL 0 d λe=>CC 192 #[e,c] λf=>SS (bsl 3 1 0 #[] []) λh=>L2 h (Iw 0) λi j l=>FL 1 d λm=>NS m λn=>BB .lss j n λo=>II o (JB (λp=>BB .add j (Iw 1) λq=>l [p,q]) λr=>L2 Bf (Iw 0) λs t u=>NS f λv=>BB .lss t v λx=>II x (DD0<|GQ false s (fld 1 d) λy=>GQ false s (ld1 y) λz=>NF s j λa0=>GQ false s (ixS 7 z a0) λa1=>GQ false s (fld 5 a1) λa2=>GQ false s (ld1 a2) λa3=>NF s f λa4=>NF s t λa5=>GQ false s (ixS 1 a4 a5) λa6=>GQ false s (ld1 a6) λa7=>GF s (Cl prog 144 #[a3,a7]) λa8=>PQ s Bt a8 λa9=>BB .add t (Iw 1) λb0=>u [a9,b0])<|BB .neq j b λb1=>MT b1 s λb2=>PP b1 b2 Bf λb3=>II b3 (SS (bsl 3 1 1 (Zl prog 3) [(0,j)]) λb4=>SS (apS prog #[22,22] 22 i b4) λb5=>r b5)<|r i)<|K i) w
theorem ZJQ (h:ZJz t0 t1 t2 w K):Cl prog 146 #[t0,t1,t2] w K:=
 ZML 55 [6] Tryz.func146 h
def ZhG (a b c w) (K:KV):=
 (BB .lss b (Iw 0) λd=>MF d c λe=>GF d (bi .lss .i64 e<|Iw 0) λf=>PP d Bt f λh=>MF h b λi=>MF h a λj=>GF h (nc j) λl=>GF h (fld 0 l) λm=>GF h (ld1 m) λn=>GF h (bi .geq .i64 i n) λo=>PP h Bt o λp=>MF p c λq=>MF p a λr=>GF p (nc r) λs=>GF p (fld 0 s) λt=>GF p (ld1 t) λu=>GF p (bi .geq .i64 q u) λv=>PP p Bt v λx=>MF x b λy=>MF x c λz=>GF x (bi .eql .i64 y z) λa0=>PP x Bt a0 λa1=>II a1 (K Pn)<|NN a<|FF 2 a λa2=>SS (ixA 8 1040 a2 b) λa3=>SS (ixA 8 130 a3 c) λa4=>K a4) w
theorem Zd1 (h:ZhG t0 t1 t2 w K):Cl prog 147 #[t0,t1,t2] w K:=
 ZML 41 [6] Tryz.func147 h
def ZmB (a w) (K:KV):=
 (BB .eql a (Iw 1125899906842624) λb=>MF b a λc=>GF b (cvI .u64 c) λd=>GF b (bi .leq .u64 d<|Value.int IntKind.u64 1099511627776) λe=>PP b Bt e λf=>K f) w
theorem Zka (h:ZmB t0 w K):Cl prog 148 #[t0] w K:=
 ZML 10 [2] Tryz.func148 h
def Zg2 (a b w) (K:KV):=
 (CC 94 #[a,b] λc=>BN c λd=>II d (K<|Iw (-1))<|NN a<|FF 3 a λe=>SS (ixA 8 2 e b) λf=>FL 0 f λh=>SS (bO prog .and 3 (Operand.tmp 15) (Operand.const<|Iw 1) h<|Iw 1) λi=>K i) w
theorem ZgH (h:Zg2 t0 t1 w K):Cl prog 149 #[t0,t1] w K:=
 ZML 17 [4] Tryz.func149 h
def ZcE (a w) (K:KV):=
 (AL (Zl prog 85) 85 λb=>NN a<|FL 1 a λc=>NS c λd=>BB .eql d (Iw 0) λe=>II e (SS (bld (Zl prog 85) #[(0,3),(3,1),(4,1),(5,1)] []) λf=>TN 6 b f<|LM 6 b λh=>K<|Value.tuple #[h,Bf])<|NN a<|FL 1 a λi=>IX 6 i (Iw 0) λj=>LN 6 j λl=>TN 6 b l<|LM 6 b λm=>K<|Value.tuple #[m,Bt]) w
theorem Zcm (h:ZcE t0 w K):Cl prog 150 #[t0] w K:=
 ZMM 17 [(2,some 85),(3,none)] Tryz.func150 h
def ZlT (a b w) (K:KV):=
 (DD0<|NN a<|FQ 3 a λc=>NN a<|FM 0 a λd=>SS (slA prog 165 c none<|some d) λe=>NQ e λf=>L1 (Iw 0) λh i=>BB .lss h f λj=>II j (IX 2 e h λl=>LN 2 l λm=>AL (Zl prog 164) 164 λn=>TN 2 n m<|DD0<|LM 2 n λo=>NN a<|FM 1 a λp=>SS (clV prog b #[o,p]) λq=>SQ (Zb3 q) λr=>II r (K Bf)<|BB .add h (Iw 1) λs=>i [s])<|K Bt) w
theorem Zkg (h:ZlT t0 t1 w K):Cl prog 151 #[t0,t1] w K:=
 ZML 29 [4] Tryz.func151 h
def ZeB (a b w) (K:KV):=
 (AL (Value.cells a) 164 λc=>FL 1 c λd=>BB .eql d b λe=>K e) w
theorem Ze6 (h:ZeB t0 t1 w K):Cl prog 152 #[t0,t1] w K:=
 ZML 9 [4] Tryz.func152 h
def Zl0 (a w) (K:KV):=
 (BB .lss a (Iw 0) λb=>II b (K<|Iw 0)<|BB .gtr a (Iw 1099511627776) λc=>II c (K<|Iw 1125899906842624)<|K a) w
theorem ZjL (h:Zl0 t0 w K):Cl prog 153 #[t0] w K:=
 ZML 10 [2] Tryz.func153 h
def ZfT (a w) (K:KV):=
 (NN a<|FL 0 a λb=>K b) w
theorem ZfC (h:ZfT t0 w K):Cl prog 154 #[t0] w K:=
 ZML 7 [2] Tryz.func154 h
def Zey (a b w) (K:KV):=
 (SS (bld (Zl prog 83) #[(0,1),(1,1),(2,1)] [(0,b)]) λc=>CC 193 #[a,Value.func (.func 194) #[] #[],c] λd=>NN a<|FL 1 a λe=>SS (slc 10 e none<|some d) λf=>CC 195 #[f] λh=>NN a<|FL 1 a λi=>SS (slc 10 i (some d) none) λj=>CC 195 #[j] λl=>NN a<|FF 1 a λm=>TN 1 m l<|NN a<|FL 0 a λn=>SS (mxI .i64 n b) λo=>NN a<|FF 0 a λp=>TN 1 p o<|K h) w
theorem Ze3 (h:Zey t0 t1 w K):Cl prog 155 #[t0,t1] w K:=
 ZML 38 [4] Tryz.func155 h
def Zhk (a b w) (K:KV):=
 (AL (Value.cells b) 3 λc=>CC 196 #[a,Value.func (Fn.func 197) #[] #[c]] λd=>CC 198 #[d,Value.func (.func 199) #[] #[]] λ_=>DD0<|NN a<|FM 0 a λe=>LQ c λf=>SS (mxI .i64 e f) λh=>NN a<|FQ 0 a λi=>TN 1 i h<|CC 201 #[d] λj=>K j) w
theorem ZgO (h:Zhk t0 t1 w K):Cl prog 156 #[t0,t1] w K:=
 ZML 22 [4] Tryz.func156 h
def ZWy (t0 w) (K:KV):=
 ncP t0<|
 fld 7 t0 w λt8 w=>
 ld1 t8 w λt9 w=>
 Cl prog 160 #[t9] w λt10 w=>
 xt 0 t10 w λt11 w=>
 xt 1 t10 w λt12 w=>
 al (Zl prog 85) 85 w λt3 w=>
 stN 6 t3 t11 w λ_ w=>
 dr w λw=>
 gd t12 true (λk=>fld 0 t3 w k) w λt15 _=>
 gd t12 true (λk=>fld 0 t15 w k) w λt16 _=>
 gd t12 true (λk=>ld1 t16 w k) w λt17 _=>
 gd t12 true (λk=>k t0 w) w λt18 _=>
 gd t12 true (λk=>nc t18 w k) w λt19 _=>
 gd t12 true (λk=>fld 0 t19 w k) w λt20 _=>
 gd t12 true (λk=>fld 2 t20 w k) w λt21 _=>
 gd t12 true (λk=>ld1 t21 w k) w λt22 _=>
 gd t12 true (λk=>bi .lss .i64 t17 t22 w k) w λt23 _=>
 pk t12 t23 Bf w λt24 _=>
 gd t24 true (λk=>fld 0 t3 w k) w λt26 _=>
 gd t24 true (λk=>fld 0 t26 w k) w λt27 _=>
 gd t24 true (λk=>ld1 t27 w k) w λt28 _=>
 gd t24 true (λk=>k t0 w) w λt29 _=>
 gd t24 true (λk=>Cl prog 202 #[t29] w k) w λt30 w=>
 (gd t24 true (λk=>ld1 t27 w k) w<|λv' w''=>v'=t28/\w''=w)/\(gd t24 true (λk=>bi .lss .i64 t28 t30 w k) w λt31 _=>
 pk t24 t31 Bf w λt32 _=>
 K t32 w)
theorem ZXz (h:ZWy t0 w K):Cl prog 157 #[t0] w K:=
 ZML 33 [2] Tryz.func157 h
def ZVB (a w) (K:KV):=
 (AL (Zl prog 85) 85 λb=>CC 160 #[a] λc=>XT 0 c λd=>XT 1 c λe=>AL (Zl prog 85) 85 λf=>TN 6 f d<|JA (LN 6 f λh=>TN 6 b h<|LM 6 b λi=>K<|Value.tuple #[i,e]) λj=>II e (DD0<|NN a<|FM 1 a λl=>FQ 0 f λm=>LM 3 m λn=>CC 203 #[l,n] λo=>NN a<|FQ 1 a λp=>TN 1 p o<|j)<|j) w
theorem ZVC (h:ZVB t0 w K):Cl prog 158 #[t0] w K:=
 ZMM 24 [(2,some 85),(3,none)] Tryz.func158 h
def ZJT (a b c w) (K:KV):=
 (CC 191 #[a,b,c] λd=>BB .lss d (Iw 0) λe=>II e (K<|Value.tuple #[b,Sn])<|SS (bsl 133 3 0 #[] []) λf=>DD0<|IQ 4 a d λh=>FQ 2 h λi=>LQ i λj=>IQ 4 a d λl=>FM 3 l λm=>SS (apS prog #[50,50] 50 f m) λn=>OO (ld1 i) j<|K<|Value.tuple #[j,n]) w
theorem ZKd (h:ZJT t0 t1 t2 w K):Cl prog 159 #[t0,t1,t2] w K:=
 ZML 30 [6,7] Tryz.func159 h
def ZVy (a w) (K:KV):=
 (AL (Zl prog 85) 85 λb=>NN a<|FL 1 a λc=>NS c λd=>BB .eql d (Iw 0) λe=>II e (SS (bld (Zl prog 85) #[(0,3),(3,1),(4,1),(5,1)] []) λf=>TN 6 b f<|LM 6 b λh=>K<|Value.tuple #[h,Bf])<|NN a<|FL 1 a λi=>IX 6 i (Iw 0) λj=>LN 6 j λl=>TN 6 b l<|LM 6 b λm=>K<|Value.tuple #[m,Bt]) w
theorem ZVA (h:ZVy t0 w K):Cl prog 160 #[t0] w K:=
 ZMM 17 [(2,some 85),(3,none)] Tryz.func160 h
def ZWi (a b w) (K:KV):=
 (AL (Value.cells b) 251 λc=>DD0<|FQ 0 c λd=>FQ 0 d λe=>FM 0 e λf=>NN a<|FM 0 a λh=>BQ .lss f h λi=>II i (K<|Iw 110)<|NN a<|FL 1 a λj=>NS j λl=>DD0<|BQ .gtr l (Iw 0) λm=>NT m a λn=>GQ true m (nc n) λo=>GQ true m (fld 1 o) λp=>GQ true m (ld1 p) λq=>NT m l λr=>GQ true m (bi .sub .i64 r<|Iw 1) λs=>GQ true m (ixS 10 q s) λt=>GQ true m (fld 0 t) λu=>GQ true m (fld 0 u) λv=>GQ true m (ldN 3 v) λx=>GQ true m (fld 0 c) λy=>GQ true m (fld 0 y) λz=>GQ true m (ldN 3 z) λa0=>GT m (Cl prog 204 #[x,a0]) λa1=>GQ true m (bi .geq .i64 a1<|Iw 0) λa2=>PQ m a2 Bf λa3=>II a3 (K<|Iw 130)<|BB .geq l (Iw 64) λa4=>II a4 (K<|Iw 2)<|SS (bsl 251 10 0 #[] []) λa5=>NN a<|FL 1 a λa6=>SS (apS prog #[203,203] 203 a5 a6) λa7=>LN 10 c λa8=>SS (bsl 251 10 1 (Zl prog 251) [(0,a8)]) λa9=>SS (apS prog #[203,203] 203 a7 a9) λb0=>NN a<|FF 1 a λb1=>TN 1 b1 b0<|K<|Iw 0) w
theorem ZXr (h:ZWi t0 t1 w K):Cl prog 161 #[t0,t1] w K:=
 ZML 56 [4] Tryz.func161 h
def ZWu (a b c w) (K:KV):=
 (AL (Value.cells b) 83 λd=>AL (Value.cells c) 85 λe=>DD0<|FM 0 d λf=>NN a<|FM 0 a λh=>BQ .lss f h λi=>II i (K<|Iw 110)<|NN a<|FL 1 a λj=>NS j λl=>BB .geq l (Iw 256) λm=>II m (K<|Iw 2)<|SS (bsl 288 9 0 #[] []) λn=>NN a<|FL 1 a λo=>SS (apS prog #[234,234] 234 n o) λp=>LN 3 d λq=>LN 6 e λr=>SS (bld (Zl prog 288) #[(0,3),(3,6)] [(0,q),(1,r)]) λs=>SS (bsl 288 9 1 (Zl prog 288) [(0,s)]) λt=>SS (apS prog #[234,234] 234 p t) λu=>NN a<|FF 1 a λv=>TN 1 v u<|K<|Iw 0) w
theorem ZXv (h:ZWu t0 t1 t2 w K):Cl prog 162 #[t0,t1,t2] w K:=
 ZML 37 [6] Tryz.func162 h
def ZXC (a b c w) (K:KV):=
 (BB .geq b (Iw 0) λd=>MT d b λe=>MT d a λf=>GT d (nc f) λh=>GT d (fld 0 h) λi=>GT d (ld1 i) λj=>GT d (bi .lss .i64 e j) λl=>PP d l Bf λm=>MT m c λn=>GT m (bi .geq .i64 n<|Iw 0) λo=>PP m o Bf λp=>MT p c λq=>MT p a λr=>GT p (nc r) λs=>GT p (fld 0 s) λt=>GT p (ld1 t) λu=>GT p (bi .lss .i64 q u) λv=>PP p v Bf λx=>MT x b λy=>MT x c λz=>GT x (bi .neq .i64 y z) λa0=>PP x a0 Bf λa1=>K a1) w
theorem ZXU (h:ZXC t0 t1 t2 w K):Cl prog 163 #[t0,t1,t2] w K:=
 ZML 34 [6] Tryz.func163 h
def ZXN (a w) (K:KV):=
 (BB .geq a (Iw 0) λb=>MT b a λc=>GT b (bi .leq .i64 c<|Iw 1099511627776) λd=>PP b d Bf λe=>MF e a λf=>GF e (bi .eql .i64 f<|Iw 1125899906842624) λh=>PP e Bt h λi=>K i) w
theorem ZX2 (h:ZXN t0 w K):Cl prog 164 #[t0] w K:=
 ZML 13 [2] Tryz.func164 h
def ZVU (a b c w) (K:KV):=
 (BB .lss b (Iw 0) λd=>MF d b λe=>MF d a λf=>GF d (nc f) λh=>GF d (fld 0 h) λi=>GF d (ld1 i) λj=>GF d (lnS j) λl=>GF d (bi .geq .i64 e l) λm=>PP d Bt m λn=>MF n b λo=>MF n a λp=>GF n (nc p) λq=>GF n (fld 1 q) λr=>GF n (ld1 r) λs=>GF n (bi .eql .i64 o s) λt=>PP n Bt t λu=>MF u c λv=>GF u (Cl prog 164 #[v]) λx=>GF u (Zb3 x) λy=>PP u Bt y λz=>II z (K<|Iw 1)<|NN a<|FL 0 a λa0=>IX 1 a0 b λa1=>LL a1 λa2=>BB .lss c a2 λa3=>II a3 (K<|Iw 110)<|NN a<|FL 0 a λa4=>IX 1 a4 b λa5=>TN 1 a5 c<|K<|Iw 0) w
theorem ZWV (h:ZVU t0 t1 t2 w K):Cl prog 165 #[t0,t1,t2] w K:=
 ZML 47 [6] Tryz.func165 h
def ZWt (a b w) (K:KV):=
 (BB .lss b (Iw 0) λc=>MF c b λd=>MF c a λe=>GF c (nc e) λf=>GF c (fld 0 f) λh=>GF c (ld1 h) λi=>GF c (lnS i) λj=>GF c (bi .geq .i64 d j) λl=>PP c Bt l λm=>MF m b λn=>MF m a λo=>GF m (nc o) λp=>GF m (fld 1 p) λq=>GF m (ld1 q) λr=>GF m (bi .eql .i64 n r) λs=>PP m Bt s λt=>II t (K<|Iw (-1))<|NN a<|FL 0 a λu=>IX 1 u b λv=>LL v λx=>K x) w
theorem ZXl (h:ZWt t0 t1 w K):Cl prog 166 #[t0,t1] w K:=
 ZML 31 [4] Tryz.func166 h
def ZV9 (a b w) (K:KV):=
 (AL (Value.cells b) 85 λc=>FF 0 c λd=>LN 3 d λe=>CC 205 #[a,e] λf=>BB .geq f (Iw 0) λh=>II h (K<|Iw 3)<|DD0<|NN a<|FM 1 a λi=>NQ i λj=>NN a<|FM 0 a λl=>BQ .geq j l λm=>II m (K<|Iw 2)<|DD0<|NN a<|FM 1 a λn=>LM 6 c λo=>CC 172 #[n,o] λp=>NN a<|FQ 1 a λq=>TN 1 q p<|K<|Iw 0) w
theorem ZXb (h:ZV9 t0 t1 w K):Cl prog 167 #[t0,t1] w K:=
 ZML 29 [4] Tryz.func167 h
def ZVR (a b w) (K:KV):=
 (AL (Value.cells b) 83 λc=>L3 (Iw 0) Bf (Iw 0) λd e f h=>NN a<|FL 7 a λi=>NN i<|FL 1 i λj=>NS j λl=>BB .lss f l λm=>II m (DD0<|NN a<|FM 7 a λn=>NN n<|FM 1 n λo=>IQ 10 o f λp=>FQ 0 p λq=>FQ 0 q λr=>LM 3 r λs=>LM 3 c λt=>CC 204 #[s,t] λu=>BB .geq u (Iw 0) λv=>JB (λx=>MF e u λy=>GF e (bi .eql .i64 y<|Iw 0) λz=>PP e Bt z λa0=>BB .add f (Iw 1) λa1=>h [x,a0,a1]) λa2=>II v (BB .add d (Iw 1) λa3=>a2 a3)<|a2 d)<|K<|Value.tuple #[d,e]) w
theorem ZWT (h:ZVR t0 t1 w K):Cl prog 168 #[t0,t1] w K:=
 ZML 47 [4,5] Tryz.func168 h
def ZV6 (a b w) (K:KV):=
 (AL (Value.cells b) 83 λc=>L1 (Iw 0) λd e=>NN a<|FL 6 a λf=>NN f<|FL 1 f λh=>NS h λi=>BB .lss d i λj=>II j (DD0<|NN a<|FM 6 a λl=>NN l<|FM 1 l λm=>IQ 6 m d λn=>FQ 0 n λo=>LM 3 o λp=>LM 3 c λq=>SS (bO prog .eql 83 (Operand.tmp 28) (Operand.tmp 29) p q) λr=>II r (K Bt)<|BB .add d (Iw 1) λs=>e [s])<|K Bf) w
theorem ZW1 (h:ZV6 t0 t1 w K):Cl prog 169 #[t0,t1] w K:=
 ZML 31 [4] Tryz.func169 h
def ZWl (a w) (K:KV):=
 (NN a<|FL 1 a λb=>NS b λc=>K c) w
theorem ZXg (h:ZWl t0 w K):Cl prog 170 #[t0] w K:=
 ZML 8 [2] Tryz.func170 h
def ZWm (a b w) (K:KV):=
 (AL (Value.cells b) 83 λc=>SS (bsl 88 8 0 #[] []) λd=>DD0<|NN a<|FM 7 a λe=>LM 3 c λf=>CC 206 #[e,f] λh=>L2 d (Iw 0) λi j l=>NS h λm=>BB .lss j m λn=>II n (IX 10 h j λo=>FL 6 o λp=>NN a<|FF 4 a λq=>TN 1 q p<|IX 10 h j λr=>FL 7 r λs=>NN a<|FF 5 a λt=>TN 1 t s<|DD0<|NN a<|FQ 6 a λu=>LQ u λv=>NN a<|FM 6 a λx=>NN x<|FM 1 x λy=>IQ 10 h j λz=>FQ 0 z λa0=>LM 6 a0 λa1=>CC 172 #[y,a1] λa2=>OO (ld1 u) v<|NN v<|FQ 1 v λa3=>TN 1 a3 a2<|L2 i (Iw 0) λa4 a5 a6=>IX 10 h j λa7=>FL 9 a7 λa8=>NS a8 λa9=>BB .lss a5 a9 λb0=>II b0 (JB (λb1=>BB .add a5 (Iw 1) λb2=>a6 [b1,b2]) λb3=>IX 10 h j λb4=>FL 9 b4 λb5=>IX 6 b5 a5 λb6=>LN 6 b6 λb7=>AL (Zl prog 85) 85 λb8=>TN 6 b8 b7<|DD0<|NN a<|FQ 0 a λb9=>FM 1 b9 λc0=>FM 3 b8 λc1=>IQ 7 c0 c1 λc2=>FM 0 c2 λc3=>BQ .eql c3 (Iw 1) λc4=>II c4 (LN 6 b8 λc5=>SS (bld (Zl prog 88) #[(0,1),(1,6),(7,1)] [(0,(Iw 1)),(1,c5)]) λc6=>SS (bsl 88 8 1 (Zl prog 88) [(0,c6)]) λc7=>SS (apS prog #[46,46] 46 a4 c7) λc8=>b3 c8)<|b3 a4)<|BB .add j (Iw 1) λc9=>l [a4,c9])<|DD0<|NN a<|FM 8 a λd0=>LM 3 c λd1=>CC 207 #[d0,d1] λ_=>K i) w
theorem ZXj (h:ZWm t0 t1 w K):Cl prog 171 #[t0,t1] w K:=
 ZML 99 [4] Tryz.func171 h
def ZXB (a b w) (K:KV):=
 (AL (Value.cells b) 85 λc=>SS (bsl 85 6 0 #[] []) λd=>L3 d Bf (Iw 0) λe f h i=>NS a λj=>BB .lss h j λl=>II l (DD0<|SQ (Zb3 f) λm=>GQ true m (fld 0 c) λn=>GQ true m (ldN 3 n) λo=>NT m a λp=>NT m h λq=>GQ true m (ixS 6 p q) λr=>GQ true m (fld 0 r) λs=>GQ true m (ldN 3 s) λt=>GT m (Cl prog 204 #[o,t]) λu=>GQ true m (bi .lss .i64 u<|Iw 0) λv=>PQ m v Bf λx=>JC (λy z=>IX 6 a h λa0=>LN 6 a0 λa1=>SS (bsl 85 6 1 (Zl prog 85) [(0,a1)]) λa2=>SS (apS prog #[80,80] 80 y a2) λa3=>BB .add h (Iw 1) λa4=>i [a3,z,a4]) λa5=>II x (LN 6 c λa6=>SS (bsl 85 6 1 (Zl prog 85) [(0,a6)]) λa7=>SS (apS prog #[80,80] 80 e a7) λa8=>a5 a8 Bt)<|a5 e f)<|BN f λa9=>JB (λb0=>K b0) λb1=>II a9 (LN 6 c λb2=>SS (bsl 85 6 1 (Zl prog 85) [(0,b2)]) λb3=>SS (apS prog #[80,80] 80 e b3) λb4=>b1 b4)<|b1 e) w
theorem ZXV (h:ZXB t0 t1 w K):Cl prog 172 #[t0,t1] w K:=
 ZML 46 [4] Tryz.func172 h
def ZVx (a b w) (K:KV):=
 (AL (Value.cells b) 83 λc=>AL (Zl prog 85) 85 λd=>LN 3 c λe=>CC 205 #[a,e] λf=>BB .lss f (Iw 0) λh=>II h (SS (bld (Zl prog 85) #[(0,3),(3,1),(4,1),(5,1)] []) λi=>TN 6 d i<|LM 6 d λj=>K<|Value.tuple #[j,Bf])<|NN a<|FL 1 a λl=>IX 6 l f λm=>LN 6 m λn=>AL (Zl prog 85) 85 λo=>TN 6 o n<|DD0<|NN a<|FM 1 a λp=>LM 3 c λq=>CC 203 #[p,q] λr=>NN a<|FQ 1 a λs=>TN 1 s r<|LN 6 o λt=>TN 6 d t<|LM 6 d λu=>K<|Value.tuple #[u,Bt]) w
theorem ZVz (h:ZVx t0 t1 w K):Cl prog 173 #[t0,t1] w K:=
 ZMM 31 [(4,some 85),(5,none)] Tryz.func173 h
def ZVP (a b c w) (K:KV):=
 (CC 208 #[a] λd=>SS (bsl 3 1 2 (Zl prog 3) [(0,b),(1,d)]) λe=>CC 121 #[e] λf=>CC 175 #[f,c] λh=>NN a<|FL 2 a λi=>BB .leq h i λj=>II j (NN a<|FL 2 a λl=>K<|Value.tuple #[l,Bf])<|NN a<|FF 2 a λm=>TN 1 m h<|K<|Value.tuple #[h,Bt]) w
theorem ZWY (h:ZVP t0 t1 t2 w K):Cl prog 174 #[t0,t1,t2] w K:=
 ZML 33 [6,7] Tryz.func174 h
def ZJ6 (a b w) (K:KV):=
 (CC 177 #[a] λc=>CC 177 #[b] λd=>BB .eql c (Iw 1125899906842624) λe=>MF e d λf=>GF e (bi .eql .i64 f<|Iw 1125899906842624) λh=>PP e Bt h λi=>II i (K<|Iw 1125899906842624)<|BB .add c d λj=>CC 177 #[j] λl=>K l) w
theorem ZKk (h:ZJ6 t0 t1 w K):Cl prog 175 #[t0,t1] w K:=
 ZML 19 [4] Tryz.func175 h
def ZX5 (a w) (K:KV):=
 (L1 (Iw 0) λb c=>NS a λd=>BB .lss b d λe=>II e (IX 1 a b λf=>LL f λh=>BN h λi=>II i (K Bf)<|BB .add b (Iw 1) λj=>c [j])<|K Bt) w
theorem ZYe (h:ZX5 t0 w K):Cl prog 176 #[t0] w K:=
 ZML 15 [2] Tryz.func176 h
def ZJV (a w) (K:KV):=
 (BB .lss a (Iw 0) λb=>II b (K<|Iw 0)<|BB .gtr a (Iw 1099511627776) λc=>II c (K<|Iw 1125899906842624)<|K a) w
theorem ZJ4 (h:ZJV t0 w K):Cl prog 177 #[t0] w K:=
 ZML 8 [2] Tryz.func177 h
def ZVV (a b w) (K:KV):=
 (SS (bsl 251 10 0 #[] []) λc=>SS (bsl 251 10 0 #[] []) λd=>L3 c d (Iw 0) λe f h i=>NN a<|FL 1 a λj=>NS j λl=>BB .lss h l λm=>II m (JC (λn o=>BB .add h (Iw 1) λp=>i [n,o,p]) λq=>NN a<|FL 1 a λr=>IX 10 r h λs=>FF 0 s λt=>FF 0 t λu=>FL 0 u λv=>BB .lss v b λx=>II x (NN a<|FL 1 a λy=>IX 10 y h λz=>LN 10 z λa0=>SS (bsl 251 10 1 (Zl prog 251) [(0,a0)]) λa1=>SS (apS prog #[203,203] 203 e a1) λa2=>q a2 f)<|NN a<|FL 1 a λa3=>IX 10 a3 h λa4=>LN 10 a4 λa5=>SS (bsl 251 10 1 (Zl prog 251) [(0,a5)]) λa6=>SS (apS prog #[203,203] 203 f a6) λa7=>q e a7)<|NN a<|FF 1 a λa8=>TN 1 a8 f<|NN a<|FL 0 a λa9=>SS (mxI .i64 a9 b) λb0=>NN a<|FF 0 a λb1=>TN 1 b1 b0<|K e) w
theorem ZWX (h:ZVV t0 t1 w K):Cl prog 178 #[t0,t1] w K:=
 ZML 65 [4] Tryz.func178 h
def ZWp (a b w) (K:KV):=
 (SS (bsl 288 9 0 #[] []) λc=>SS (bsl 288 9 0 #[] []) λd=>L3 c d (Iw 0) λe f h i=>NN a<|FL 1 a λj=>NS j λl=>BB .lss h l λm=>II m (JC (λn o=>BB .add h (Iw 1) λp=>i [n,o,p]) λq=>NN a<|FL 1 a λr=>IX 9 r h λs=>LN 9 s λt=>AL (Zl prog 288) 288 λu=>TN 9 u t<|FF 0 u λv=>FL 0 v λx=>BB .geq x b λy=>II y (LN 9 u λz=>SS (bsl 288 9 1 (Zl prog 288) [(0,z)]) λa0=>SS (apS prog #[234,234] 234 f a0) λa1=>q e a1)<|SS (bsl 288 9 0 #[] []) λa2=>L3 a2 Bf (Iw 0) λa3 a4 a5 a6=>NS e λa7=>BB .lss a5 a7 λa8=>II a8 (DD0<|SQ (Zb3 a4) λa9=>GQ true a9 (fld 0 u) λb0=>GQ true a9 (ldN 3 b0) λb1=>NT a9 e λb2=>NT a9 a5 λb3=>GQ true a9 (ixS 9 b2 b3) λb4=>GQ true a9 (fld 0 b4) λb5=>GQ true a9 (ldN 3 b5) λb6=>GT a9 (Cl prog 204 #[b1,b6]) λb7=>GQ true a9 (bi .lss .i64 b7<|Iw 0) λb8=>PQ a9 b8 Bf λb9=>JC (λc0 c1=>IX 9 e a5 λc2=>LN 9 c2 λc3=>SS (bsl 288 9 1 (Zl prog 288) [(0,c3)]) λc4=>SS (apS prog #[234,234] 234 c0 c4) λc5=>BB .add a5 (Iw 1) λc6=>a6 [c5,c1,c6]) λc7=>II b9 (LN 9 u λc8=>SS (bsl 288 9 1 (Zl prog 288) [(0,c8)]) λc9=>SS (apS prog #[234,234] 234 a3 c9) λd0=>c7 d0 Bt)<|c7 a3 a4)<|BN a4 λd1=>JB (λd2=>q d2 f) λd3=>II d1 (LN 9 u λd4=>SS (bsl 288 9 1 (Zl prog 288) [(0,d4)]) λd5=>SS (apS prog #[234,234] 234 a3 d5) λd6=>d3 d6)<|d3 a3)<|SS (bsl 85 6 0 #[] []) λd7=>L2 d7 (Iw 0) λd8 d9 e0=>NS e λe1=>BB .lss d9 e1 λe2=>II e2 (IX 9 e d9 λe3=>FF 3 e3 λe4=>LN 6 e4 λe5=>SS (bsl 85 6 1 (Zl prog 85) [(0,e5)]) λe6=>SS (apS prog #[80,80] 80 d8 e6) λe7=>BB .add d9 (Iw 1) λe8=>e0 [e7,e8])<|NN a<|FF 1 a λe9=>TN 1 e9 f<|NN a<|FL 0 a λf0=>SS (mxI .i64 f0 b) λf1=>NN a<|FF 0 a λf2=>TN 1 f2 f1<|K d8) w
theorem ZXm (h:ZWp t0 t1 w K):Cl prog 179 #[t0,t1] w K:=
 ZML 108 [4] Tryz.func179 h
def ZeK (a b w) (K:KV):=
 (LL b λc=>NN c<|FL 0 c λd=>L2 (Iw 0) (Iw 0) λe f h=>BB .lss f d λi=>II i (LL b λj=>NN j<|FL 0 j λl=>L2 e (Iw 0) λm n o=>BB .lss n l λp=>II p (LL b λq=>NN q<|FF 2 q λr=>SS (ixA 8 1040 r f) λs=>SS (ixA 8 130 s n) λt=>NN t<|FL 129 t λu=>L2 m (Iw 0) λv x y=>BB .lss x u λz=>II z (DD0<|NN t<|FM 128 t λa0=>BQ .add a0 x λa1=>BQ .rem a1 (Iw 16) λa2=>NN t<|FQ 0 t λa3=>SQ (ixA 16 8 a3 a2) λa4=>LM 8 a4 λa5=>SS (clV prog a #[v,a5]) λa6=>SQ (Zb3 a6) λa7=>II a7 (K<|Value.tuple #[])<|BB .add v (Iw 1) λa8=>BB .add x (Iw 1) λa9=>y [a8,a9])<|BB .add n (Iw 1) λb0=>o [v,b0])<|BB .add f (Iw 1) λb1=>h [m,b1])<|K<|Value.tuple #[]) w
theorem Ze5 (h:ZeK t0 t1 w K):Cl prog 180 #[t0,t1] w K:=
 ZML 57 [] Tryz.func180 h
def ZcG (a b w) (K:KV):=
 (NS a λc=>L1 (Iw 0) λd e=>BB .lss d c λf=>II f (IX 1 a d λh=>LL h λi=>BB .eql b i λj=>II j (K d)<|BB .add d (Iw 1) λl=>e [l])<|K<|Iw (-1)) w
theorem Zdb (h:ZcG t0 t1 w K):Cl prog 181 #[t0,t1] w K:=
 ZML 19 [4] Tryz.func181 h
def Zix (a w) (K:KV):=
 (AL (Value.cells a) 133 λb=>FL 0 b λc=>CC 183 #[c,Iw 16] λd=>BN d λe=>GF e (fld 1 b) λf=>GF e (ld1 f) λh=>GF e (Cl prog 183 #[h,Iw 1048577]) λi=>GF e (Zb3 i) λj=>PP e Bt j λl=>GF l (fld 2 b) λm=>GF l (ld1 m) λn=>GF l (Cl prog 183 #[n,Iw 1000]) λo=>GF l (Zb3 o) λp=>PP l Bt p λq=>K q) w
theorem Zh0 (h:Zix t0 w K):Cl prog 182 #[t0] w K:=
 ZML 19 [2] Tryz.func182 h
def ZmF (a b w) (K:KV):=
 (SS (cvI .u64 a) λc=>SS (cvI .u64 b) λd=>SS (bi .lss .u64 c d) λe=>K e) w
theorem Zj0 (h:ZmF t0 t1 w K):Cl prog 183 #[t0,t1] w K:=
 ZML 10 [4] Tryz.func183 h
def ZaQ (a b w) (K:KV):=
 (NS a λc=>L1 (Iw 0) λd e=>BB .lss d c λf=>II f (IX 3 a d λh=>LN 3 h λi=>SS (clV prog b #[i]) λj=>II j (K d)<|BB .add d (Iw 1) λl=>e [l])<|K<|Iw (-1)) w
theorem ZbB (h:ZaQ t0 t1 w K):Cl prog 184 #[t0,t1] w K:=
 ZML 19 [4] Tryz.func184 h
def Zqb (a b w) (K:KV):=
 (CC 153 #[a] λc=>CC 153 #[b] λd=>BB .add c d λe=>CC 153 #[e] λf=>K f) w
theorem Zms (h:Zqb t0 t1 w K):Cl prog 185 #[t0,t1] w K:=
 ZML 11 [4] Tryz.func185 h
def ZkS (a w) (K:KV):=
 (BB .rem a (Iw 1000) λb=>BB .lss b (Iw 0) λc=>JB (λd=>K d) λe=>II c (BB .add b (Iw 1000) λf=>e f)<|e b) w
theorem Zjc (h:ZkS t0 w K):Cl prog 186 #[t0] w K:=
 ZML 10 [2] Tryz.func186 h
def Zbq (a b w) (K:KV):=
 (CC 209 #[a,b] λc=>BB .geq c (Iw 0) λd=>K d) w
theorem Zcf (h:Zbq t0 t1 w K):Cl prog 187 #[t0,t1] w K:=
 ZML 9 [4] Tryz.func187 h
def ZfM (a b c w) (K:KV):=
 (FL 0 b λd=>LL c λe=>CC 189 #[d,e,a] λf=>K f) w
theorem ZfE (h:ZfM t0 t1 t2 w K):Cl prog 188 #[t0,t1,t2] w K:=
 ZML 10 [4] Tryz.func188 h
def Zsj (t0 t1 t2 w) (K:KV):=
 al (Value.cells t2) 3 w λt5 w=>
 al (Zl prog 4) 4 w λt6 w=>
 Cl prog 210 #[t0,t1] w λt10 w=>
 ZFR prog t10 1 (λl a w k=>
 bgn l w λw=>
 ld1 t5 w λt13 w=>
 bi .eql .i64 (a 0) t13 w λt14 w=>
 Zr t14
 (stN 1 t6 Bt w λ_ w=>
 edr l w λw=>k Bf w)
 (edn l w λw=>k Bt w)) w
 (λD w=>
 stN 1 t6 Bf w λ_ w=>
 Zz7 D w λw=>
 ld1 t6 w λr0 _=>
 K r0 w)
 (λD w=>
 Zz7 D w λw=>
 ld1 t6 w λr0 _=>
 K r0 w)
theorem Zm4 (h:Zsj t0 t1 t2 w K):Cl prog 189 #[t0,t1,t2] w K:=
 Cl.mk (by kernel_rfl) (Zlq (fn:=Tryz.f189) (nt:=15) (rs:=[(6,some 4)]) Zm Tryz.func189 (by kernel_rfl) (by kernel_rfl) (Nat.le_of_ble_eq_true<|by kernel_rfl) (by kernel_rfl) (by kernel_rfl) h)
def ZJU (a w) (K:KV):=
 (AL (Value.cells a) 54 λb=>FL 0 b λc=>CC 211 #[c,Iw 8] λd=>BN d λe=>GF e (fld 2 b) λf=>GF e (ld1 f) λh=>GF e (Cl prog 211 #[h,Iw 8]) λi=>GF e (Zb3 i) λj=>PP e Bt j λl=>GF l (fld 1 b) λm=>GF l (ld1 m) λn=>GF l (Cl prog 211 #[n,Iw 16]) λo=>GF l (Zb3 o) λp=>PP l Bt p λq=>GF q (fld 3 b) λr=>GF q (ld1 r) λs=>GF q (lnS s) λt=>GF q (bi .gtr .i64 t<|Iw 3) λu=>PP q Bt u λv=>II v (K Bf)<|L1 (Iw 0) λx y=>FL 3 b λz=>NS z λa0=>BB .lss x a0 λa1=>II a1 (FL 3 b λa2=>IX 3 a2 x λa3=>LN 3 a3 λa4=>AL (Zl prog 133) 133 λa5=>TN 3 a5 a4<|FL 0 a5 λa6=>CC 211 #[a6,Iw 16] λa7=>BN a7 λa8=>GF a8 (fld 1 a5) λa9=>GF a8 (ld1 a9) λb0=>GF a8 (Cl prog 211 #[b0,Iw 1048577]) λb1=>GF a8 (Zb3 b1) λb2=>PP a8 Bt b2 λb3=>GF b3 (fld 2 a5) λb4=>GF b3 (ld1 b4) λb5=>GF b3 (Cl prog 211 #[b5,Iw 1000]) λb6=>GF b3 (Zb3 b6) λb7=>PP b3 Bt b7 λb8=>II b8 (K Bf)<|BB .add x (Iw 1) λb9=>y [b9])<|K Bt) w
theorem ZJ9 (h:ZJU t0 w K):Cl prog 190 #[t0] w K:=
 ZML 55 [2] Tryz.func190 h
def ZJR (a b c w) (K:KV):=
 (L1 (Iw 0) λd e=>NS a λf=>BB .lss d f λh=>II h (IX 4 a d λi=>FL 0 i λj=>BB .eql j b λl=>MT l a λm=>MT l d λn=>GT l (ixS 4 m n) λo=>GT l (fld 1 o) λp=>GT l (ld1 p) λq=>MT l c λr=>GT l (bi .eql .i64 q r) λs=>PP l s Bf λt=>II t (K d)<|BB .add d (Iw 1) λu=>e [u])<|K<|Iw (-1)) w
theorem ZJ3 (h:ZJR t0 t1 t2 w K):Cl prog 191 #[t0,t1,t2] w K:=
 ZML 31 [6] Tryz.func191 h
def ZJL (a b w) (K:KV):=
 (SS (bsl 3 1 0 #[] []) λc=>CC 79 #[a] λd=>BB .neq d (Iw 0) λe=>MF e b λf=>GF e (bi .lss .i64 f<|Iw 0) λh=>PP e Bt h λi=>MF i b λj=>MF i a λl=>GF i (lnS l) λm=>GF i (bi .geq .i64 j m) λn=>PP i Bt n λo=>II o (K c)<|L2 b c λp q r=>BB .geq p (Iw 0) λs=>II s (SS (bsl 3 1 1 (Zl prog 3) [(0,p)]) λt=>SS (apS prog #[22,22] 22 q t) λu=>IX 1 a p λv=>LL v λx=>r [x,u])<|K q) w
theorem ZJW (h:ZJL t0 t1 w K):Cl prog 192 #[t0,t1] w K:=
 ZML 32 [4] Tryz.func192 h
def ZgW (a b c w) (K:KV):=
 (AL (Value.cells a) 156 λd=>AL (Value.cells b) 276 λe=>AL (Value.cells c) 83 λf=>LL d λh=>NN h<|FL 1 h λi=>NS i λj=>CC 212 #[j,Value.func (Fn.func 213) #[] #[e,d,f]] λl=>K l) w
theorem Zgw (h:ZgW t0 t1 t2 w K):Cl prog 193 #[t0,t1,t2] w K:=
 ZML 14 [6] Tryz.func193 h
def ZeL (a b w) (K:KV):=
 (AL (Value.cells a) 246 λc=>AL (Value.cells b) 83 λd=>FF 0 c λe=>FF 0 e λf=>FL 0 f λh=>FL 0 d λi=>BB .lss h i λj=>K j) w
theorem ZeW (h:ZeL t0 t1 w K):Cl prog 194 #[t0,t1] w K:=
 ZML 12 [4] Tryz.func194 h
def ZaI (a w) (K:KV):=
 (SS (bO prog .eql 222 (Operand.tmp 3) (Operand.const Sn) a Sn) λb=>II b (K Sn)<|SS (bsl 246 10 0 #[] []) λc=>SS (apS prog #[222,222] 222 c a) λd=>K d) w
theorem Zbo (h:ZaI t0 w K):Cl prog 195 #[t0] w K:=
 ZML 8 [2] Tryz.func195 h
def ZgV (a b w) (K:KV):=
 (NN a<|FL 1 a λc=>NS c λd=>L3 Sn Sn (Iw 0) λe f h i=>BB .lss h d λj=>II j (JC (λl m=>BB .add h (Iw 1) λn=>i [l,m,n]) λo=>IX 9 c h λp=>LN 9 p λq=>AL (Zl prog 280) 280 λr=>TN 9 r q<|LN 9 r λs=>SS (clV prog b #[s]) λt=>II t (LN 9 r λu=>SS (bsl 280 9 1 (Zl prog 280) [(0,u)]) λv=>SS (apS prog #[225,225] 225 e v) λx=>o x f)<|LN 9 r λy=>SS (bsl 280 9 1 (Zl prog 280) [(0,y)]) λz=>SS (apS prog #[225,225] 225 f z) λa0=>o e a0)<|NN a<|FF 1 a λa1=>TN 1 a1 f<|K e) w
theorem Zgx (h:ZgV t0 t1 w K):Cl prog 196 #[t0,t1] w K:=
 ZML 35 [4] Tryz.func196 h
def ZeA (a b w) (K:KV):=
 (AL (Value.cells a) 280 λc=>FF 0 c λd=>FL 0 d λe=>LL b λf=>BB .lss e f λh=>K h) w
theorem ZeS (h:ZeA t0 t1 w K):Cl prog 197 #[t0,t1] w K:=
 ZML 9 [3] Tryz.func197 h
def Zad (a b w) (K:KV):=
 (NS a λc=>CC 214 #[a,c,b] λ_=>K<|Value.tuple #[]) w
theorem ZaO (h:Zad t0 t1 w K):Cl prog 198 #[t0,t1] w K:=
 ZML 9 [] Tryz.func198 h
def ZeD (a b w) (K:KV):=
 (AL (Value.cells a) 280 λc=>AL (Value.cells b) 280 λd=>FF 0 c λe=>LN 3 e λf=>FF 0 d λh=>LN 3 h λi=>CC 200 #[f,i] λj=>K j) w
theorem ZeR (h:ZeD t0 t1 w K):Cl prog 199 #[t0,t1] w K:=
 ZML 10 [4] Tryz.func199 h
def Zpp (a b w) (K:KV):=
 (AL (Value.cells a) 83 λc=>AL (Value.cells b) 83 λd=>DD0<|FM 0 c λe=>FM 0 d λf=>FQ 1 c λh=>LQ h λi=>FQ 1 d λj=>LQ j λl=>FQ 2 c λm=>LQ m λn=>FQ 2 d λo=>LQ o λp=>CC 216 #[e,f] λq=>OO (ld1 o) p<|OO (ld1 m) n<|OO (ld1 j) l<|OO (ld1 h) i<|CC 216 #[i,l] λr=>OO (ld1 o) p<|OO (ld1 m) n<|CC 216 #[n,p] λs=>SS (bsl 3 1 3 (Zl prog 3) [(0,q),(1,r),(2,s)]) λt=>CC 215 #[t] λu=>K u) w
theorem ZlC (h:Zpp t0 t1 w K):Cl prog 200 #[t0,t1] w K:=
 ZML 22 [4] Tryz.func200 h
def Zjn (a w) (K:KV):=
 (NS a λb=>L2 Sn (Iw 0) λc d e=>BB .lss d b λf=>II f (IX 9 a d λh=>LN 9 h λi=>AL (Zl prog 280) 280 λj=>TN 9 j i<|FF 3 j λl=>LN 6 l λm=>SS (bsl 85 6 1 (Zl prog 85) [(0,m)]) λn=>SS (apS prog #[80,80] 80 c n) λo=>BB .add d (Iw 1) λp=>e [o,p])<|K c) w
theorem Zhx (h:Zjn t0 w K):Cl prog 201 #[t0] w K:=
 ZML 19 [2] Tryz.func201 h
def ZV2 (a w) (K:KV):=
 (NN a<|FL 6 a λb=>CC 208 #[b] λc=>K c) w
theorem ZW6 (h:ZV2 t0 w K):Cl prog 202 #[t0] w K:=
 ZML 8 [2] Tryz.func202 h
def ZW5 (a b w) (K:KV):=
 (AL (Value.cells b) 83 λc=>SS (bsl 85 6 0 #[] []) λd=>L2 d (Iw 0) λe f h=>NS a λi=>BB .lss f i λj=>II j (JB (λl=>BB .add f (Iw 1) λm=>h [l,m]) λn=>DD0<|IQ 6 a f λo=>FQ 0 o λp=>LM 3 p λq=>LM 3 c λr=>SS (bO prog .neq 83 (Operand.tmp 18) (Operand.tmp 19) q r) λs=>II s (IX 6 a f λt=>LN 6 t λu=>SS (bsl 85 6 1 (Zl prog 85) [(0,u)]) λv=>SS (apS prog #[80,80] 80 e v) λx=>n x)<|n e)<|K e) w
theorem ZXO (h:ZW5 t0 t1 w K):Cl prog 203 #[t0,t1] w K:=
 ZML 29 [4] Tryz.func203 h
def ZKa (a b w) (K:KV):=
 (AL (Value.cells a) 83 λc=>AL (Value.cells b) 83 λd=>LN 3 c λe=>LN 3 d λf=>SS (bO prog .eql 83 (Operand.tmp 5) (Operand.tmp 6) e f) λh=>II h (K<|Iw 0)<|FL 0 c λi=>FL 0 d λj=>BB .lss i j λl=>GF l (fld 0 c) λm=>GF l (ld1 m) λn=>GF l (fld 0 d) λo=>GF l (ld1 o) λp=>GF l (bi .eql .i64 n p) λq=>MF l q λr=>GT r (fld 1 c) λs=>GT r (ld1 s) λt=>GT r (fld 1 d) λu=>GT r (ld1 u) λv=>GT r (bi .lss .i64 t v) λx=>GF l (pk r x Bf) λy=>PP l Bt y λz=>GF z (fld 0 c) λa0=>GF z (ld1 a0) λa1=>GF z (fld 0 d) λa2=>GF z (ld1 a2) λa3=>GF z (bi .eql .i64 a1 a3) λa4=>MF z a4 λa5=>GT a5 (fld 1 c) λa6=>GT a5 (ld1 a6) λa7=>GT a5 (fld 1 d) λa8=>GT a5 (ld1 a8) λa9=>GT a5 (bi .eql .i64 a7 a9) λb0=>GF z (pk a5 b0 Bf) λb1=>MF z b1 λb2=>GT b2 (fld 2 c) λb3=>GT b2 (ld1 b3) λb4=>GT b2 (fld 2 d) λb5=>GT b2 (ld1 b5) λb6=>GT b2 (bi .lss .i64 b4 b6) λb7=>GF z (pk b2 b7 Bf) λb8=>PP z Bt b8 λb9=>II b9 (K<|Iw (-1))<|K<|Iw 1) w
theorem ZKh (h:ZKa t0 t1 w K):Cl prog 204 #[t0,t1] w K:=
 ZML 48 [4] Tryz.func204 h
def ZV8 (a b w) (K:KV):=
 (AL (Value.cells b) 83 λc=>L1 (Iw 0) λd e=>NN a<|FL 1 a λf=>NS f λh=>BB .lss d h λi=>II i (DD0<|NN a<|FM 1 a λj=>IQ 6 j d λl=>FQ 0 l λm=>LM 3 m λn=>LM 3 c λo=>SS (bO prog .eql 83 (Operand.tmp 22) (Operand.tmp 23) n o) λp=>II p (K d)<|BB .add d (Iw 1) λq=>e [q])<|K<|Iw (-1)) w
theorem ZXa (h:ZV8 t0 t1 w K):Cl prog 205 #[t0,t1] w K:=
 ZML 26 [4] Tryz.func205 h
def ZWn (a b w) (K:KV):=
 (AL (Value.cells b) 83 λc=>SS (bsl 251 10 0 #[] []) λd=>SS (bsl 251 10 0 #[] []) λe=>L2 e (Iw 0) λf h i=>NN a<|FL 1 a λj=>NS j λl=>BB .lss h l λm=>II m (JB (λn=>BB .add h (Iw 1) λo=>i [n,o]) λp=>DD0<|NN a<|FM 1 a λq=>IQ 10 q h λr=>FQ 0 r λs=>FQ 0 s λt=>LM 3 t λu=>LM 3 c λv=>CC 204 #[u,v] λx=>BQ .lss x (Iw 0) λy=>II y (NN a<|FL 1 a λz=>IX 10 z h λa0=>LN 10 a0 λa1=>SS (bsl 251 10 1 (Zl prog 251) [(0,a1)]) λa2=>SS (apS prog #[203,203] 203 f a2) λa3=>p a3)<|p f)<|NN a<|FL 1 a λa4=>NS a4 λa5=>BB .sub a5 (Iw 1) λa6=>L2 d a6 λa7 a8 a9=>NS f λb0=>BB .geq a8 b0 λb1=>II b1 (NN a<|FL 1 a λb2=>IX 10 b2 a8 λb3=>LN 10 b3 λb4=>SS (bsl 251 10 1 (Zl prog 251) [(0,b4)]) λb5=>SS (apS prog #[203,203] 203 a7 b5) λb6=>BB .sub a8 (Iw 1) λb7=>a9 [b6,b7])<|NN a<|FF 1 a λb8=>TN 1 b8 f<|K a7) w
theorem ZXx (h:ZWn t0 t1 w K):Cl prog 206 #[t0,t1] w K:=
 ZML 69 [4] Tryz.func206 h
def ZWo (a b w) (K:KV):=
 (AL (Value.cells b) 83 λc=>SS (bsl 85 6 0 #[] []) λd=>SS (bsl 288 9 0 #[] []) λe=>L3 d e (Iw 0) λf h i j=>NN a<|FL 1 a λl=>NS l λm=>BB .lss i m λn=>II n (JC (λo p=>BB .add i (Iw 1) λq=>j [o,p,q]) λr=>DD0<|NN a<|FM 1 a λs=>IQ 9 s i λt=>FQ 0 t λu=>LM 3 u λv=>LM 3 c λx=>CC 204 #[v,x] λy=>BQ .lss y (Iw 0) λz=>II z (NN a<|FL 1 a λa0=>IX 9 a0 i λa1=>LN 9 a1 λa2=>SS (bsl 288 9 1 (Zl prog 288) [(0,a2)]) λa3=>SS (apS prog #[234,234] 234 h a3) λa4=>r f a4)<|NN a<|FL 1 a λa5=>IX 9 a5 i λa6=>FF 3 a6 λa7=>LN 6 a7 λa8=>SS (bsl 85 6 1 (Zl prog 85) [(0,a8)]) λa9=>SS (apS prog #[80,80] 80 f a9) λb0=>r b0 h)<|NN a<|FF 1 a λb1=>TN 1 b1 h<|K f) w
theorem ZXy (h:ZWo t0 t1 w K):Cl prog 207 #[t0,t1] w K:=
 ZML 56 [4] Tryz.func207 h
def ZVN (a w) (K:KV):=
 (L2 (Iw 1125899906842624) (Iw 0) λb c d=>NN a<|FL 0 a λe=>NS e λf=>BB .lss c f λh=>II h (JB (λi=>BB .add c (Iw 1) λj=>d [i,j]) λl=>NN a<|FL 1 a λm=>BB .neq c m λn=>II n (NN a<|FL 0 a λo=>IX 1 o c λp=>LL p λq=>SS (mnI .i64 b q) λr=>l r)<|l b)<|K b) w
theorem ZWC (h:ZVN t0 w K):Cl prog 208 #[t0] w K:=
 ZML 30 [2] Tryz.func208 h
def ZbV (a b w) (K:KV):=
 (NS a λc=>L1 (Iw 0) λd e=>BB .lss d c λf=>II f (IX 1 a d λh=>LL h λi=>SS (clV prog b #[i]) λj=>II j (K d)<|BB .add d (Iw 1) λl=>e [l])<|K<|Iw (-1)) w
theorem ZcA (h:ZbV t0 t1 w K):Cl prog 209 #[t0,t1] w K:=
 ZML 19 [4] Tryz.func209 h
def ZtV (a b w) (K:KV):=
 (AL (Value.cells a) 22 λc=>AL (Value.cells b) 3 λd=>K<|Value.func (Fn.func 217) #[] #[d,c]) w
theorem Zoy (h:ZtV t0 t1 w K):Cl prog 210 #[t0,t1] w K:=
 ZML 6 [4] Tryz.func210 h
def ZKp (a b w) (K:KV):=
 (BB .geq a (Iw 0) λc=>MT c a λd=>MT c b λe=>GT c (bi .lss .i64 d e) λf=>PP c f Bf λh=>K h) w
theorem ZKr (h:ZKp t0 t1 w K):Cl prog 211 #[t0,t1] w K:=
 ZML 12 [4] Tryz.func211 h
def Zmv (a b w) (K:KV):=
 (L2 (Iw 0) a λc d e=>BB .lss c d λf=>II f (BB .add c d λh=>SS (cvI .u64 h) λi=>SS (bO prog .shr 239 (Operand.tmp 15) (Operand.const<|Value.int IntKind.u64 1) i<|Value.int IntKind.u64 1) λj=>SS (cvI .i64 j) λl=>SS (clV prog b #[l]) λm=>BN m λn=>II n (BB .add l (Iw 1) λo=>e [o,d])<|e [c,l])<|K c) w
theorem Zj9 (h:Zmv t0 t1 w K):Cl prog 212 #[t0,t1] w K:=
 ZML 26 [4] Tryz.func212 h
def ZeN (a b c d w) (K:KV):=
 (DD0<|LQ b λe=>LQ c λf=>NN f<|FM 1 f λh=>IQ 10 h a λi=>LM 10 i λj=>LM 3 d λl=>SS (clV prog e #[j,l]) λm=>SQ (Zb3 m) λn=>K n) w
theorem Ze2 (h:ZeN t0 t1 t2 t3 w K):Cl prog 213 #[t0,t1,t2,t3] w K:=
 ZML 17 [5] Tryz.func213 h
def Za0 (a b c w) (K:KV):=
 (L2 (Iw 0) (Iw 20) λd e f=>BB .leq e b λh=>II h (CC 218 #[a,d,e,c] λ_=>BB .add e (Iw 20) λi=>f [e,i])<|CC 218 #[a,d,b,c] λ_=>L1 (Iw 20) λj l=>BB .lss j b λm=>II m (BB .mul (Iw 2) j λn=>L2 (Iw 0) n λo p q=>BB .leq p b λr=>II r (BB .add o j λs=>CC 219 #[a,o,s,p,c] λ_=>BB .mul (Iw 2) j λt=>BB .add p t λu=>q [p,u])<|BB .add o j λv=>BB .lss v b λx=>JA (BB .mul j (Iw 2) λy=>l [y]) λz=>II x (CC 219 #[a,o,v,b,c] λ_=>z)<|z)<|K<|Value.tuple #[]) w
theorem ZbL (h:Za0 t0 t1 t2 w K):Cl prog 214 #[t0,t1,t2] w K:=
 ZML 63 [] Tryz.func214 h
def Znv (a w) (K:KV):=
 (NS a λb=>L1 (Iw 0) λc d=>BB .lss c b λe=>II e (IX 1 a c λf=>LL f λh=>BB .neq h (Iw 0) λi=>II i (K h)<|BB .add c (Iw 1) λj=>d [j])<|K<|Iw 0) w
theorem Zk0 (h:Znv t0 w K):Cl prog 215 #[t0] w K:=
 ZML 18 [2] Tryz.func215 h
def ZfG (a b w) (K:KV):=
 (CC 220 #[a] λc=>CC 220 #[b] λd=>II c (II d (K<|Iw 0)<|K<|Iw (-1))<|II d (K<|Iw 1)<|BB .lss a b λe=>II e (K<|Iw (-1))<|BB .gtr a b λf=>II f (K<|Iw 1)<|K<|Iw 0) w
theorem ZfO (h:ZfG t0 t1 w K):Cl prog 216 #[t0,t1] w K:=
 ZML 20 [4] Tryz.func216 h
def Zqa (t0 t1 t2 w) (K:KV):=
 ld1 t1 w λt4 w=>
 ld1 t2 w λt5 w=>
 lnS t5 w λt6 w=>
 bi .geq .i64 t4 t6 w λt7 w=>
 gd t7 false (λk=>ld1 t2 w k) w λt9 w=>
 gd t7 false (λk=>Cl prog 68 #[t9] w k) w λt10 w=>
 gd t7 false (λk=>bi .neq .i64 t10 (Iw 0) w k) w λt11 w=>
 pk t7 Bt t11 w λt12 w=>
 Zr t12
 (K (Value.tuple #[]) w)
 (lp [] w<|b0 λw g1=>
 ld1 t1 w λt13 w=>
 bi .geq .i64 t13 (Iw 0) w λt14 w=>
 Zr t14
 (ld1 t1 w λt20 w=>
 clV prog t0 #[t20] w λt21 w=>
 Zb3 t21 w λt22 w=>
 Zr t22
 (K (Value.tuple #[]) w)
 (ld1 t2 w λt15 w=>
 ld1 t1 w λt16 w=>
 ixS 1 t15 t16 w λt17 w=>
 ld1 t17 w λt18 w=>
 stN 1 t1 t18 w λ_ w=>
 g1 [] w))
 (K (Value.tuple #[]) w))
theorem Zmz (h:Zqa t0 t1 t2 w K):Cl prog 217 #[t0,t1,t2] w K:=
 ZML 23 [] Tryz.func217 h
def Zap (a b c d w) (K:KV):=
 (BB .add b (Iw 1) λe=>L1 e λf h=>BB .lss f c λi=>II i (L1 f λj l=>DD0<|BQ .gtr j b λm=>NT m d λn=>NT m a λo=>NT m j λp=>GQ true m (ixS 9 o p) λq=>GQ true m (ldN 9 q) λr=>NT m a λs=>NT m j λt=>GQ true m (bi .sub .i64 t<|Iw 1) λu=>GQ true m (ixS 9 s u) λv=>GQ true m (ldN 9 v) λx=>GT m (clV prog n #[r,x]) λy=>GQ true m (bi .lss .i64 y<|Iw 0) λz=>PQ m z Bf λa0=>II a0 (DD0<|BQ .sub j (Iw 1) λa1=>BQ .sub j (Iw 1) λa2=>IQ 9 a a2 λa3=>LM 9 a3 λa4=>IQ 9 a j λa5=>LM 9 a5 λa6=>IQ 9 a j λa7=>TN 9 a7 a4<|IQ 9 a a1 λa8=>TN 9 a8 a6<|BB .sub j (Iw 1) λa9=>l [a9])<|BB .add f (Iw 1) λb0=>h [b0])<|K<|Value.tuple #[]) w
theorem Za5 (h:Zap t0 t1 t2 t3 w K):Cl prog 218 #[t0,t1,t2,t3] w K:=
 ZML 53 [] Tryz.func218 h
def ZaS (a b c d e w) (K:KV):=
 (BB .sub c b λf=>BB .eql f (Iw 1) λh=>II h (L2 c d λi j l=>BB .lss i j λm=>II m (BB .add i j λn=>SS (cvI .u64 n) λo=>SS (bO prog .shr 239 (Operand.tmp 37) (Operand.const<|Value.int IntKind.u64 1) o<|Value.int IntKind.u64 1) λp=>SS (cvI .i64 p) λq=>DD0<|IQ 9 a q λr=>LM 9 r λs=>IQ 9 a b λt=>LM 9 t λu=>SS (clV prog e #[s,u]) λv=>BQ .lss v (Iw 0) λx=>II x (BB .add q (Iw 1) λy=>l [y,j])<|l [i,q])<|L1 b λz a0=>BB .sub i (Iw 1) λa1=>BB .lss z a1 λa2=>II a2 (DD0<|BQ .add z (Iw 1) λa3=>BQ .add z (Iw 1) λa4=>IQ 9 a a4 λa5=>LM 9 a5 λa6=>IQ 9 a z λa7=>LM 9 a7 λa8=>IQ 9 a z λa9=>TN 9 a9 a6<|IQ 9 a a3 λb0=>TN 9 b0 a8<|BB .add z (Iw 1) λb1=>a0 [b1])<|K<|Value.tuple #[])<|BB .sub d c λb2=>BB .eql b2 (Iw 1) λb3=>II b3 (L2 b c λb4 b5 b6=>BB .lss b4 b5 λb7=>II b7 (BB .add b4 b5 λb8=>SS (cvI .u64 b8) λb9=>SS (bO prog .shr 239 (Operand.tmp 89) (Operand.const<|Value.int IntKind.u64 1) b9<|Value.int IntKind.u64 1) λc0=>SS (cvI .i64 c0) λc1=>DD0<|IQ 9 a c λc2=>LM 9 c2 λc3=>IQ 9 a c1 λc4=>LM 9 c4 λc5=>SS (clV prog e #[c3,c5]) λc6=>BQ .lss c6 (Iw 0) λc7=>SQ (Zb3 c7) λc8=>II c8 (BB .add c1 (Iw 1) λc9=>b6 [c9,b5])<|b6 [b4,c1])<|L1 c λd0 d1=>BB .gtr d0 b4 λd2=>II d2 (DD0<|BQ .sub d0 (Iw 1) λd3=>BQ .sub d0 (Iw 1) λd4=>IQ 9 a d4 λd5=>LM 9 d5 λd6=>IQ 9 a d0 λd7=>LM 9 d7 λd8=>IQ 9 a d0 λd9=>TN 9 d9 d6<|IQ 9 a d3 λe0=>TN 9 e0 d8<|BB .sub d0 (Iw 1) λe1=>d1 [e1])<|K<|Value.tuple #[])<|BB .add b d λe2=>SS (cvI .u64 e2) λe3=>SS (bO prog .shr 239 (Operand.tmp 132) (Operand.const<|Value.int IntKind.u64 1) e3<|Value.int IntKind.u64 1) λe4=>SS (cvI .i64 e4) λe5=>BB .add e5 c λe6=>BB .gtr c e5 λe7=>JC (λe8 e9=>BB .sub e6 (Iw 1) λf0=>L2 e8 e9 λf1 f2 f3=>BB .lss f1 f2 λf4=>II f4 (BB .add f1 f2 λf5=>SS (cvI .u64 f5) λf6=>SS (bO prog .shr 239 (Operand.tmp 155) (Operand.const<|Value.int IntKind.u64 1) f6<|Value.int IntKind.u64 1) λf7=>SS (cvI .i64 f7) λf8=>DD0<|BQ .sub f0 f8 λf9=>IQ 9 a f9 λh0=>LM 9 h0 λh1=>IQ 9 a f8 λh2=>LM 9 h2 λh3=>SS (clV prog e #[h1,h3]) λh4=>BQ .lss h4 (Iw 0) λh5=>SQ (Zb3 h5) λh6=>II h6 (BB .add f8 (Iw 1) λh7=>f3 [h7,f2])<|f3 [f1,f8])<|BB .sub e6 f1 λh8=>BB .lss f1 c λh9=>MT h9 c λi0=>MT h9 h8 λi1=>GT h9 (bi .lss .i64 i0 i1) λi2=>PP h9 i2 Bf λi3=>JA (BB .lss b f1 λi4=>MT i4 f1 λi5=>MT i4 e5 λi6=>GT i4 (bi .lss .i64 i5 i6) λi7=>PP i4 i7 Bf λi8=>JA (BB .lss e5 h8 λi9=>MT i9 h8 λj0=>MT i9 d λj1=>GT i9 (bi .lss .i64 j0 j1) λj2=>PP i9 j2 Bf λj3=>II j3 (CC 219 #[a,e5,h8,d,e] λ_=>K<|Value.tuple #[])<|K<|Value.tuple #[]) λj4=>II i8 (CC 219 #[a,b,f1,e5,e] λ_=>j4)<|j4) λj5=>II i3 (CC 221 #[a,f1,c,h8,e] λ_=>j5)<|j5) λj6=>II e7 (BB .sub e6 d λj7=>j6 j7 e5)<|j6 b c) w
theorem ZbD (h:ZaS t0 t1 t2 t3 t4 w K):Cl prog 219 #[t0,t1,t2,t3,t4] w K:=
 ZML 220 [] Tryz.func219 h
def ZiL (a w) (K:KV):=
 (BB .neq a a λb=>K b) w
theorem Zhv (h:ZiL t0 w K):Cl prog 220 #[t0] w K:=
 ZML 6 [2] Tryz.func220 h
def Za2 (a b c d e w) (K:KV):=
 (BB .sub c b λf=>BB .sub d c λh=>L2 f h λi j l=>BB .neq i j λm=>II m (BB .gtr i j λn=>II n (BB .sub c i λo=>CC 222 #[a,o,c,j,e] λ_=>BB .sub i j λp=>l [p,j])<|BB .sub c i λq=>BB .add c j λr=>BB .sub r i λs=>CC 222 #[a,q,s,i,e] λ_=>BB .sub j i λt=>l [i,t])<|BB .sub c i λu=>CC 222 #[a,u,c,i,e] λ_=>K<|Value.tuple #[]) w
theorem ZbJ (h:Za2 t0 t1 t2 t3 t4 w K):Cl prog 221 #[t0,t1,t2,t3,t4] w K:=
 ZML 58 [] Tryz.func221 h
def ZaM (a b c d e:Value) (w:World) (K:KV):Prop:=
 (L1 (Iw 0) λf h=>BB .lss f d λi=>II i (DD0<|BQ .add b f λj=>BQ .add c f λl=>BQ .add c f λm=>IQ 9 a m λn=>LM 9 n λo=>BQ .add b f λp=>IQ 9 a p λq=>LM 9 q λr=>IQ 9 a j λs=>TN 9 s o<|IQ 9 a l λt=>TN 9 t r<|BB .add f (Iw 1) λu=>h [u])<|K<|Value.tuple #[]) w
theorem Zbw (h:ZaM t0 t1 t2 t3 t4 w K):Cl prog 222 #[t0,t1,t2,t3,t4] w K:=
 ZML 38 [] Tryz.func222 h
def Zdp (t0 w) (K:KV):=
 al (Zl prog 3) 3 w λt3 w=>
 stN 1 t3 (Iw 1125899906842624) w λ_ w=>
 ncP t0<|
 fld 0 t0 w λt10 w=>
 ld1 t10 w λt11 w=>
 rgM prog 160 t11 w λt12 w=>
 lp [] w (b0 λw g1=>
 nxM prog t12 false 0 w λt13 w=>
 xt 0 t13 w λt14 w=>
 Zr t14
 (enM prog t12 w λt15 w=>
 xt 1 t15 w λt16 w=>
 clV prog (Value.func (Fn.func 282) #[] #[t3]) #[t16] w λ_ w=>
 g1 [] w)
 (ld1 t3 w λt20 w=>
 K t20 w))
theorem ZdW (h:Zdp t0 w K):Cl prog 240 #[t0] w K:=
 ZML 21 [2] Tryz.func240 h
def ZkO (a w) (K:KV):=
 (NN a<|FL 8 a λb=>CC 244 #[b] λc=>K c) w
theorem Zji (h:ZkO t0 w K):Cl prog 241 #[t0] w K:=
 ZML 8 [2] Tryz.func241 h
def ZKy (a w) (K:KV):=
 (NN a<|FL 6 a λb=>K b) w
theorem ZKx (h:ZKy t0 w K):Cl prog 242 #[t0] w K:=
 ZML 7 [2] Tryz.func242 h
def Zd6 (a w) (K:KV):=
 (AL (Value.cells a) 152 λb=>FL 0 b λc=>CC 245 #[c] λd=>K d) w
theorem Zej (h:Zd6 t0 w K):Cl prog 243 #[t0] w K:=
 ZML 6 [2] Tryz.func243 h
def Za1 (a w) (K:KV):=
 (SS (bO prog .eql 43 (Operand.tmp 3) (Operand.const Sn) a Sn) λb=>II b (K Sn)<|SS (bsl 129 7 0 #[] []) λc=>SS (apS prog #[43,43] 43 c a) λd=>K d) w
theorem ZbG (h:Za1 t0 w K):Cl prog 244 #[t0] w K:=
 ZML 8 [2] Tryz.func244 h
def Zfe (a w) (K:KV):=
 (NN a<|FL 1 a λb=>CC 246 #[b] λc=>CC 247 #[c,Value.func (.func 248) #[] #[]] λ_=>K c) w
theorem ZfL (h:Zfe t0 w K):Cl prog 245 #[t0] w K:=
 ZML 12 [2] Tryz.func245 h
def Zaw (a w) (K:KV):=
 (SS (bO prog .eql 80 (Operand.tmp 3) (Operand.const Sn) a Sn) λb=>II b (K Sn)<|SS (bsl 85 6 0 #[] []) λc=>SS (apS prog #[80,80] 80 c a) λd=>K d) w
theorem ZaE (h:Zaw t0 w K):Cl prog 246 #[t0] w K:=
 ZML 8 [2] Tryz.func246 h
def Zeb (a b w) (K:KV):=
 (AL (Value.cells a) 85 λc=>AL (Value.cells b) 85 λd=>FF 0 c λe=>LN 3 e λf=>FF 0 d λh=>LN 3 h λi=>CC 200 #[f,i] λj=>K j) w
theorem Zef (h:Zeb t0 t1 w K):Cl prog 248 #[t0,t1] w K:=
 ZML 10 [4] Tryz.func248 h
def Zi7 (a b c w) (K:KV):=
 (AL (Value.cells a) 71 λd=>AL (Value.cells c) 88 λe=>FL 0 d λf=>LN 8 e λh=>CC 270 #[f,b,h] λi=>K<|Value.tuple #[Sn,i]) w
theorem ZhS (h:Zi7 t0 t1 t2 w K):Cl prog 267 #[t0,t1,t2] w K:=
 ZML 13 [6,7] Tryz.func267 h
def Zif (a w) (K:KV):=
 (AL (Value.cells a) 71 λb=>FL 0 b λc=>CC 271 #[c] λd=>XT 0 d λe=>XT 1 d λf=>XT 2 d λh=>AL (Zl prog 129) 129 λi=>TN 7 i e<|CC 101 #[f] λj=>K<|Value.tuple #[j,h]) w
theorem Zhr (h:Zif t0 w K):Cl prog 268 #[t0] w K:=
 ZML 17 [2,3] Tryz.func268 h
def Zjw (a w) (K:KV):=
 (AL (Value.cells a) 71 λb=>FL 0 b λc=>CC 272 #[c] λd=>XT 0 d λe=>XT 1 d λf=>K<|Value.tuple #[e,f]) w
theorem ZhO (h:Zjw t0 w K):Cl prog 269 #[t0] w K:=
 ZML 9 [2,3] Tryz.func269 h
def Zil (a b c w) (K:KV):=
 (AL (Value.cells c) 88 λd=>FF 1 d λe=>FF 0 e λf=>FL 0 f λh=>FL 0 d λi=>BB .eql i (Iw 2) λj=>II j (NN a<|FL 0 a λl=>CC 273 #[l,b,h] λm=>K m)<|BB .eql i (Iw 0) λn=>II n (NN a<|FL 0 a λo=>CC 274 #[o,b] λp=>BB .lss p (Iw 0) λq=>II q (K<|Iw 1)<|BB .lss h p λr=>II r (K<|Iw 110)<|DD0<|NN a<|FQ 1 a λs=>FM 0 s λt=>FQ 1 d λu=>LM 6 u λv=>CC 275 #[t,v] λx=>K x)<|K<|Iw 130) w
theorem Zhw (h:Zil t0 t1 t2 w K):Cl prog 270 #[t0,t1,t2] w K:=
 ZML 47 [6] Tryz.func270 h
def ZiC (a w) (K:KV):=
 (AL (Zl prog 129) 129 λb=>CC 276 #[a] λc=>BN c λd=>II d (SS (bld (Zl prog 129) #[(0,6),(6,1)] []) λe=>TN 7 b e<|LM 7 b λf=>K<|Value.tuple #[f,Sn,Iw 150])<|NN a<|FF 1 a λh=>FL 0 h λi=>CC 277 #[i] λj=>XT 0 j λl=>XT 1 j λ_=>AL (Zl prog 85) 85 λm=>TN 6 m l<|DD0<|NN a<|FQ 2 a λn=>FM 1 n λo=>NN a<|FM 5 a λp=>IQ 7 o p λq=>FM 3 q λr=>NN a<|FM 6 a λs=>FM 4 m λt=>CC 278 #[r,s,t] λu=>XQ 0 u λv=>XQ 1 u λx=>DD0<|NN a<|FQ 2 a λy=>LM 3 y λz=>NN a<|FM 5 a λa0=>NN a<|FM 7 a λa1=>FQ 0 m λa2=>FM 0 a2 λa3=>FM 5 m λa4=>CC 78 #[z,a0,a1,a3,a4,x] λa5=>NN a<|FL 7 a λa6=>NS x λa7=>BB .add a6 a7 λa8=>NN a<|FF 6 a λa9=>TN 1 a9 v<|NN a<|FF 7 a λb0=>TN 1 b0 a8<|LN 6 m λb1=>SS (bld (Zl prog 129) #[(0,6),(6,1)] [(0,b1),(1,v)]) λb2=>AL (Zl prog 129) 129 λb3=>TN 7 b3 b2<|DD0<|NN a<|FQ 8 a λb4=>LQ b4 λb5=>LM 7 b3 λb6=>SS (bsl 129 7 1 (Zl prog 129) [(0,b6)]) λb7=>OO (ld1 b4) b5<|SS (apS prog #[43,43] 43 b5 b7) λb8=>NN a<|FQ 8 a λb9=>TN 1 b9 b8<|LN 7 b3 λc0=>TN 7 b c0<|LM 7 b λc1=>K<|Value.tuple #[c1,a5,Iw 0]) w
theorem ZhJ (h:ZiC t0 w K):Cl prog 271 #[t0] w K:=
 ZMM 94 [(2,some 129),(3,none),(4,none)] Tryz.func271 h
def ZiS (a w) (K:KV):=
 (NN a<|FF 1 a λb=>LN 1 b λc=>CC 279 #[c] λd=>XT 0 d λe=>XT 1 d λf=>AL (Zl prog 85) 85 λh=>TN 6 h e<|JB (λi=>DD0<|NN a<|FM 0 a λj=>NN a<|FQ 2 a λl=>FM 1 l λm=>NN a<|FM 5 a λn=>IQ 7 m n λo=>FM 1 o λp=>CC 280 #[j,i,p] λq=>XQ 0 q λr=>XQ 1 q λs=>K<|Value.tuple #[r,s]) λt=>II f (FF 0 h λu=>FL 0 u λv=>t v)<|t<|Iw 1125899906842624) w
theorem Zhs (h:ZiS t0 w K):Cl prog 272 #[t0] w K:=
 ZML 39 [2,3] Tryz.func272 h
def Zd3 (a b c w) (K:KV):=
 (NN a<|FL 0 a λd=>SS (lkM prog 160 d b true) λe=>XT 0 e λf=>XT 1 e λh=>BN h λi=>MF i c λj=>GF i (Cl prog 148 #[j]) λl=>GF i (Zb3 l) λm=>PP i Bt m λn=>II n (K<|Iw 1)<|BB .lss c f λo=>II o (K<|Iw 110)<|NN a<|FL 0 a λp=>SS (upM prog 160 p b c) λ_=>K<|Iw 0) w
theorem Zeg (h:Zd3 t0 t1 t2 w K):Cl prog 273 #[t0,t1,t2] w K:=
 ZML 36 [6] Tryz.func273 h
def ZfH (a b w) (K:KV):=
 (NN a<|FL 0 a λc=>SS (lkM prog 160 c b true) λd=>XT 0 d λe=>XT 1 d λf=>II f (K e)<|K<|Iw (-1)) w
theorem ZfS (h:ZfH t0 t1 w K):Cl prog 274 #[t0,t1] w K:=
 ZML 18 [4] Tryz.func274 h
def Zfj (a b w) (K:KV):=
 (AL (Value.cells b) 85 λc=>DD0<|NN a<|FM 2 a λd=>FQ 0 c λe=>LM 3 e λf=>SS (lkM prog 214 d f true) λh=>XQ 0 h λ_=>XQ 1 h λi=>II i (K<|Iw 3)<|DD0<|NN a<|FM 1 a λj=>NQ j λl=>NN a<|FM 0 a λm=>BQ .geq l m λn=>II n (K<|Iw 2)<|SS (bld (Zl prog 343) #[(0,1)] [(0,a)]) λo=>LN 6 c λp=>CC 281 #[(Value.iface 343 o),Value.iface 85 p] λ_=>K<|Iw 0) w
theorem Zfb (h:Zfj t0 t1 w K):Cl prog 275 #[t0,t1] w K:=
 ZML 34 [4] Tryz.func275 h
def Zjp (t0 w) (K:KV):=
 ncP t0<|
 fld 1 t0 w λt8 w=>
 ldN 1 t8 w λt9 w=>
 Cl prog 279 #[t9] w λt10 w=>
 xt 0 t10 w λt11 w=>
 xt 1 t10 w λt12 w=>
 al (Zl prog 85) 85 w λt3 w=>
 stN 6 t3 t11 w λ_ w=>
 dr w λw=>
 gd t12 true (λk=>fld 0 t3 w k) w λt15 _=>
 gd t12 true (λk=>fld 0 t15 w k) w λt16 _=>
 gd t12 true (λk=>ld1 t16 w k) w λt17 _=>
 gd t12 true (λk=>k t0 w) w λt18 _=>
 gd t12 true (λk=>nc t18 w k) w λt19 _=>
 gd t12 true (λk=>fld 2 t19 w k) w λt20 _=>
 gd t12 true (λk=>fld 2 t20 w k) w λt21 _=>
 gd t12 true (λk=>ld1 t21 w k) w λt22 _=>
 gd t12 true (λk=>k t0 w) w λt23 _=>
 gd t12 true (λk=>nc t23 w k) w λt24 _=>
 gd t12 true (λk=>fld 0 t24 w k) w λt25 _=>
 gd t12 true (λk=>ld1 t25 w k) w λt26 _=>
 gd t12 true (λk=>Cl prog 240 #[t26] w k) w λt27 w=>
 (gd t12 true (λk=>ld1 t21 w k) w<|λv' w''=>v'=t22/\w''=w)/\((gd t12 true (λk=>ld1 t16 w k) w<|λv' w''=>v'=t17/\w''=w)/\(gd t12 true (λk=>mnI .i64 t22 t27 w k) w λt28 w=>
 (gd t12 true (λk=>ld1 t16 w k) w<|λv' w''=>v'=t17/\w''=w)/\(gd t12 true (λk=>bi .lss .i64 t17 t28 w k) w λt29 _=>
 pk t12 t29 Bf w λt30 _=>
 K t30 w)))
theorem ZhL (h:Zjp t0 w K):Cl prog 276 #[t0] w K:=
 ZML 31 [2] Tryz.func276 h
def ZdA (a w) (K:KV):=
 (AL (Zl prog 85) 85 λb=>NN a<|FL 1 a λc=>NS c λd=>BB .eql d (Iw 0) λe=>II e (SS (bld (Zl prog 85) #[(0,3),(3,1),(4,1),(5,1)] []) λf=>TN 6 b f<|LM 6 b λh=>K<|Value.tuple #[h,Bf])<|SS (bld (Zl prog 343) #[(0,1)] [(0,a)]) λi=>CC 283 #[(Value.iface 343 i)] λj=>SS (tyA prog j 20 85 false) λl=>TN 6 b l<|LM 6 b λm=>K<|Value.tuple #[m,Bt]) w
theorem ZcK (h:ZdA t0 w K):Cl prog 277 #[t0] w K:=
 ZMM 16 [(2,some 85),(3,none)] Tryz.func277 h
def Znm (a b c w) (K:KV):=
 (CC 284 #[a,b,c] λd=>BB .lss d (Iw 0) λe=>II e (K<|Value.tuple #[b,Sn])<|DD0<|IQ 4 a d λf=>FQ 2 f λh=>LQ h λi=>IQ 4 a d λj=>FM 3 j λl=>CC 138 #[l] λm=>OO (ld1 h) i<|K<|Value.tuple #[i,m]) w
theorem Zk2 (h:Znm t0 t1 t2 w K):Cl prog 278 #[t0,t1,t2] w K:=
 ZML 27 [6,7] Tryz.func278 h
def ZfW (a w) (K:KV):=
 (AL (Value.cells a) 152 λb=>AL (Zl prog 85) 85 λc=>FL 0 b λd=>CC 150 #[d] λe=>XT 0 e λf=>XT 1 e λh=>TN 6 c f<|LM 6 c λi=>K<|Value.tuple #[i,h]) w
theorem Zf1 (h:ZfW t0 w K):Cl prog 279 #[t0] w K:=
 ZMM 9 [(2,some 85),(3,none)] Tryz.func279 h
def ZdP (a b c w) (K:KV):=
 (CC 240 #[a] λd=>SS (bsl 3 1 2 (Zl prog 3) [(0,b),(1,d)]) λe=>CC 99 #[e] λf=>CC 185 #[f,c] λh=>NN a<|FL 1 a λi=>BB .leq h i λj=>II j (NN a<|FL 1 a λl=>K<|Value.tuple #[l,Bf])<|NN a<|FF 1 a λm=>TN 1 m h<|K<|Value.tuple #[h,Bt]) w
theorem Zem (h:ZdP t0 t1 t2 w K):Cl prog 280 #[t0,t1,t2] w K:=
 ZML 31 [6,7] Tryz.func280 h
def ZpP (a b w) (K:KV):=
 (SS (clI prog a "Push" #[b]) λ_=>SS (clI prog a "Len" #[]) λc=>BB .sub c (Iw 1) λd=>CC 285 #[a,d] λ_=>K<|Value.tuple #[]) w
theorem Zme (h:ZpP t0 t1 w K):Cl prog 281 #[t0,t1] w K:=
 ZML 12 [] Tryz.func281 h
def ZcJ (a b w) (K:KV):=
 (LL b λc=>SS (mnI .i64 c a) λd=>TN 1 b d<|K<|Value.tuple #[]) w
theorem Zda (h:ZcJ t0 t1 w K):Cl prog 282 #[t0,t1] w K:=
 ZML 6 [] Tryz.func282 h
def Zr2 (a w) (K:KV):=
 (SS (clI prog a "Len" #[]) λb=>BB .sub b (Iw 1) λc=>SS (clI prog a "Swap" #[Iw 0,c]) λ_=>CC 286 #[a,Iw 0,c] λ_=>SS (clI prog a "Pop" #[]) λd=>K d) w
theorem ZmV (h:Zr2 t0 w K):Cl prog 283 #[t0] w K:=
 ZML 15 [2] Tryz.func283 h
def Znc (a b c w) (K:KV):=
 (AL (Value.cells b) 3 λd=>AL (Value.cells c) 3 λe=>CC 287 #[a,Value.func (Fn.func 288) #[] #[d,e]] λf=>K f) w
theorem Zk3 (h:Znc t0 t1 t2 w K):Cl prog 284 #[t0,t1,t2] w K:=
 ZML 10 [6] Tryz.func284 h
def Zrd (a b w) (K:KV):=
 (L1 b λc d=>BB .sub c (Iw 1) λe=>BB .quo e (Iw 2) λf=>BB .eql f c λh=>MF h a λi=>MF h c λj=>MF h f λl=>GF h (clI prog i "Less" #[j,l]) λm=>GF h (Zb3 m) λn=>PP h Bt n λo=>II o (K<|Value.tuple #[])<|SS (clI prog a "Swap" #[f,c]) λ_=>d [f]) w
theorem ZiM (h:Zrd t0 t1 w K):Cl prog 285 #[t0,t1] w K:=
 ZML 23 [] Tryz.func285 h
def Zmo (a b c w) (K:KV):=
 (JB (λd=>BB .gtr d b λe=>K e) λf=>L1 b λh i=>BB .mul (Iw 2) h λj=>BB .add j (Iw 1) λl=>BB .geq l c λm=>MF m l λn=>GF m (bi .lss .i64 n<|Iw 0) λo=>PP m Bt o λp=>II p (f h)<|BB .add l (Iw 1) λq=>BB .lss q c λr=>MT r a λs=>MT r q λt=>MT r l λu=>GT r (clI prog s "Less" #[t,u]) λv=>PP r v Bf λx=>JB (λy=>SS (clI prog a "Less" #[y,h]) λz=>BN z λa0=>II a0 (f h)<|SS (clI prog a "Swap" #[h,y]) λ_=>i [y]) λa1=>II x (a1 q)<|a1 l) w
theorem Zf3 (h:Zmo t0 t1 t2 w K):Cl prog 286 #[t0,t1,t2] w K:=
 ZML 48 [6] Tryz.func286 h
def ZaG (a b w) (K:KV):=
 (NS a λc=>L1 (Iw 0) λd e=>BB .lss d c λf=>II f (IX 4 a d λh=>LN 4 h λi=>SS (clV prog b #[i]) λj=>II j (K d)<|BB .add d (Iw 1) λl=>e [l])<|K<|Iw (-1)) w
theorem Zbp (h:ZaG t0 t1 w K):Cl prog 287 #[t0,t1] w K:=
 ZML 19 [4] Tryz.func287 h
def ZkP (a b c w) (K:KV):=
 (AL (Value.cells a) 54 λd=>FL 0 d λe=>LL b λf=>BB .eql e f λh=>GT h (fld 1 d) λi=>GT h (ld1 i) λj=>GT h (ld1 c) λl=>GT h (bi .eql .i64 j l) λm=>PP h m Bf λn=>K n) w
theorem Zie (h:ZkP t0 t1 t2 w K):Cl prog 288 #[t0,t1,t2] w K:=
 ZML 15 [4] Tryz.func288 h
def Zjl (a w) (K:KV):=
 (NN a<|FL 10 a λb=>CC 244 #[b] λc=>K c) w
theorem Zh5 (h:Zjl t0 w K):Cl prog 289 #[t0] w K:=
 ZML 8 [2] Tryz.func289 h
def ZKt (a w) (K:KV):=
 (NN a<|FL 4 a λb=>K b) w
theorem ZKv (h:ZKt t0 w K):Cl prog 290 #[t0] w K:=
 ZML 7 [2] Tryz.func290 h
def ZdO (a w) (K:KV):=
 (NN a<|FL 6 a λb=>CC 245 #[b] λc=>K c) w
theorem Zes (h:ZdO t0 w K):Cl prog 291 #[t0] w K:=
 ZML 8 [2] Tryz.func291 h
def Zi9 (a b c w) (K:KV):=
 (AL (Value.cells c) 88 λd=>DD0<|NN a<|FM 0 a λe=>LM 8 d λf=>CC 295 #[e,b,f] λh=>XQ 0 h λi=>XQ 1 h λj=>K<|Value.tuple #[i,j]) w
theorem ZhX (h:Zi9 t0 t1 t2 w K):Cl prog 292 #[t0,t1,t2] w K:=
 ZML 17 [6,7] Tryz.func292 h
def ZjC (a w) (K:KV):=
 (NN a<|FL 0 a λb=>CC 296 #[b] λc=>XT 0 c λd=>XT 1 c λe=>XT 2 c λf=>AL (Zl prog 129) 129 λh=>TN 7 h d<|K<|Value.tuple #[e,f]) w
theorem ZhW (h:ZjC t0 w K):Cl prog 293 #[t0] w K:=
 ZML 18 [2,3] Tryz.func293 h
def Zio (a w) (K:KV):=
 (NN a<|FL 0 a λb=>CC 297 #[b] λc=>NN a<|FL 2 a λd=>BB .leq c d λe=>II e (K<|Value.tuple #[Iw 0,Bf])<|NN a<|FF 2 a λf=>TN 1 f c<|K<|Value.tuple #[c,Bt]) w
theorem ZhC (h:Zio t0 w K):Cl prog 294 #[t0] w K:=
 ZML 21 [2,3] Tryz.func294 h
def Zg0 (a b c w) (K:KV):=
 (AL (Value.cells c) 88 λd=>BB .lss b (Iw 0) λe=>MF e b λf=>MF e a λh=>GF e (nc h) λi=>GF e (fld 0 i) λj=>GF e (fld 1 j) λl=>GF e (ld1 l) λm=>GF e (lnS m) λn=>GF e (bi .geq .i64 f n) λo=>PP e Bt o λp=>MF p b λq=>MF p a λr=>GF p (nc r) λs=>GF p (fld 3 s) λt=>GF p (ld1 t) λu=>GF p (bi .eql .i64 q u) λv=>PP p Bt v λx=>II x (K<|Value.tuple #[Sn,Iw 1])<|NN a<|FL 9 a λy=>SS (lkM prog 160 y b true) λz=>XT 0 z λa0=>XT 1 z λa1=>FL 0 d λa2=>JC (λa3 a4=>CC 300 #[a4] λa5=>K<|Value.tuple #[a3,a5]) λa6=>JA (FL 0 d λa7=>BB .eql a7 (Iw 1) λa8=>JB (λa9=>FF 1 d λb0=>LN 6 b0 λb1=>SS (clV prog a9 #[b,b1]) λb2=>XT 0 b2 λb3=>XT 1 b2 λb4=>a6 b3 b4) λb5=>II a8 (b5<|Value.func (Fn.func 299) #[a] #[])<|b5<|Value.func (Fn.func 298) #[a] #[]) λb6=>BB .eql a2 (Iw 2) λb7=>II b7 (FF 1 d λb8=>FF 0 b8 λb9=>FL 0 b9 λc0=>BN a1 λc1=>MF c1 c0 λc2=>GF c1 (Cl prog 148 #[c2]) λc3=>GF c1 (Zb3 c3) λc4=>PP c1 Bt c4 λc5=>II c5 (K<|Value.tuple #[Sn,Iw 1])<|BB .lss c0 a0 λc6=>II c6 (K<|Value.tuple #[Sn,Iw 110])<|NN a<|FL 9 a λc7=>SS (upM prog 160 c7 b c0) λ_=>K<|Value.tuple #[Sn,Iw 0])<|BB .eql a2 (Iw 1) λc8=>II c8 (II a1 (K<|Value.tuple #[Sn,Iw 1])<|b6)<|BB .eql a2 (Iw 0) λc9=>II c9 (b6)<|K<|Value.tuple #[Sn,Iw 130]) w
theorem Zgu (h:Zg0 t0 t1 t2 w K):Cl prog 295 #[t0,t1,t2] w K:=
 ZML 92 [6,7] Tryz.func295 h
def ZgX (a w) (K:KV):=
 (AL (Zl prog 129) 129 λb=>NN a<|FL 6 a λc=>CC 150 #[c] λd=>XT 0 d λe=>XT 1 d λf=>AL (Zl prog 85) 85 λh=>TN 6 h e<|DD0<|SQ (Zb3 f) λi=>GQ false i (fld 0 h) λj=>GQ false i (fld 0 j) λl=>GQ false i (ld1 l) λm=>NF i a λn=>GQ false i (nc n) λo=>GQ false i (fld 0 o) λp=>GQ false i (fld 2 p) λq=>GQ false i (ld1 q) λr=>GQ false i (bi .geq .i64 m r) λs=>PQ i Bt s λt=>II t (SS (bld (Zl prog 129) #[(0,6),(6,1)] []) λu=>TN 7 b u<|LM 7 b λv=>K<|Value.tuple #[v,Sn,Iw 150])<|NN a<|FL 7 a λx=>CC 126 #[x] λy=>BB .geq y (Iw 64) λz=>MF z a λa0=>GF z (nc a0) λa1=>GF z (fld 8 a1) λa2=>GF z (ld1 a2) λa3=>GF z (Cl prog 301 #[a3]) λa4=>GF z (lnS a4) λa5=>GF z (bi .gtr .i64 a5<|Iw 192) λa6=>PP z Bt a6 λa7=>II a7 (SS (bld (Zl prog 129) #[(0,6),(6,1)] []) λa8=>TN 7 b a8<|LM 7 b λa9=>K<|Value.tuple #[a9,Sn,Iw 2])<|NN a<|FL 6 a λb0=>CC 277 #[b0] λ_=>DD0<|NN a<|FQ 0 a λb1=>FM 1 b1 λb2=>NN a<|FM 3 a λb3=>IQ 7 b2 b3 λb4=>FM 3 b4 λb5=>NN a<|FM 4 a λb6=>FM 4 h λb7=>CC 278 #[b5,b6,b7] λb8=>XQ 0 b8 λb9=>XQ 1 b8 λc0=>DD0<|NN a<|FQ 0 a λc1=>LM 3 c1 λc2=>NN a<|FM 3 a λc3=>NN a<|FM 5 a λc4=>FQ 0 h λc5=>FM 0 c5 λc6=>FM 5 h λc7=>CC 78 #[c2,c3,c4,c6,c7,c0] λc8=>DD0<|NN a<|FQ 7 a λc9=>LQ c9 λd0=>LM 6 h λd1=>NN a<|FM 4 a λd2=>NN a<|FM 5 a λd3=>SS (bld (Zl prog 246) #[(0,6),(6,1),(7,1),(8,1),(9,1)] [(0,d1),(1,d2),(2,d3),(3,b9),(4,c8)]) λd4=>OO (ld1 c9) d0<|CC 302 #[d0,d4] λ_=>NN a<|FL 5 a λd5=>NS c0 λd6=>BB .add d5 d6 λd7=>NN a<|FF 4 a λd8=>TN 1 d8 b9<|NN a<|FF 5 a λd9=>TN 1 d9 d7<|NS c8 λe0=>L2 Sn (Iw 0) λe1 e2 e3=>BB .lss e2 e0 λe4=>II e4 (JB (λe5=>BB .add e2 (Iw 1) λe6=>e3 [e5,e6]) λe7=>IX 6 c8 e2 λe8=>LN 6 e8 λe9=>AL (Zl prog 85) 85 λf0=>TN 6 f0 e9<|FL 3 f0 λf1=>CC 303 #[a,f1] λf2=>II f2 (LN 6 f0 λf3=>SS (bld (Zl prog 88) #[(0,1),(1,6),(7,1)] [(1,f3)]) λf4=>SS (bsl 88 8 1 (Zl prog 88) [(0,f4)]) λf5=>SS (apS prog #[46,46] 46 e1 f5) λf6=>e7 f6)<|DD0<|NN a<|FM 8 a λf7=>FQ 0 h λf8=>LM 3 f8 λf9=>LM 6 f0 λh0=>CC 304 #[f7,f9,h0] λ_=>e7 e1)<|LN 6 h λh1=>SS (bld (Zl prog 129) #[(0,6),(6,1)] [(0,h1),(1,b9)]) λh2=>TN 7 b h2<|LM 7 b λh3=>K<|Value.tuple #[h3,e1,Iw 0]) w
theorem ZgF (h:ZgX t0 w K):Cl prog 296 #[t0] w K:=
 ZMM 158 [(2,some 129),(3,none),(4,none)] Tryz.func296 h
def Zec (a w) (K:KV):=
 (DD0<|NN a<|FM 7 a λb=>NN a<|FQ 0 a λc=>FQ 1 c λd=>LQ d λe=>NN a<|FQ 3 a λf=>LQ f λh=>IQ 7 e h λi=>FQ 1 i λj=>LQ j λl=>CC 154 #[b] λm=>OO (ld1 j) l<|OO (ld1 f) h<|OO (ld1 d) e<|CC 185 #[m,l] λn=>K n) w
theorem Zex (h:Zec t0 w K):Cl prog 297 #[t0] w K:=
 ZML 21 [2] Tryz.func297 h
def ZfQ (a b c w) (K:KV):=
 (AL (Value.cells c) 85 λd=>FF 0 d λe=>LN 3 e λf=>CC 305 #[a,b,f] λh=>XT 0 h λi=>XT 1 h λj=>XT 2 h λl=>XT 3 h λm=>SS (bO prog .neq 355 (Operand.tmp 24) (Operand.const Value.nilIface) m Value.nilIface) λn=>II n (K<|Value.tuple #[Sn,m])<|MF j l λo=>PP j Bt o λp=>II p (FF 0 d λq=>LN 3 q λr=>CC 306 #[r,Iw 3] λs=>K<|Value.tuple #[Sn,s])<|NN a<|FL 6 a λt=>CC 307 #[t] λu=>BB .add u i λv=>BB .geq v (Iw 64) λx=>II x (FF 0 d λy=>LN 3 y λz=>CC 306 #[z,Iw 2] λa0=>K<|Value.tuple #[Sn,a0])<|FF 0 d λa1=>LN 3 a1 λa2=>CC 308 #[a,a2,Bf] λa3=>DD0<|NN a<|FM 6 a λa4=>LM 6 d λa5=>CC 275 #[a4,a5] λ_=>K<|Value.tuple #[a3,Value.nilIface]) w
theorem Zft (h:ZfQ t0 t1 t2 w K):Cl prog 298 #[t0,t1,t2] w K:=
 ZML 58 [6,7] Tryz.func298 h
def Zhh (a b c w) (K:KV):=
 (AL (Value.cells c) 85 λd=>FF 0 d λe=>LN 3 e λf=>AL (Zl prog 83) 83 λh=>TN 3 h f<|LN 3 h λi=>CC 305 #[a,b,i] λj=>XT 0 j λl=>XT 1 j λm=>XT 2 j λn=>XT 3 j λo=>SS (bO prog .neq 355 (Operand.tmp 25) (Operand.const Value.nilIface) o Value.nilIface) λp=>II p (K<|Value.tuple #[Sn,o])<|II m (DD0<|NN a<|FM 6 a λq=>LM 3 h λr=>CC 309 #[q,r] λ_=>K<|Value.tuple #[Sn,Value.nilIface])<|BN n λs=>II s (LN 3 h λt=>CC 306 #[t,Iw 4] λu=>K<|Value.tuple #[Sn,u])<|NN a<|FL 6 a λv=>CC 307 #[v] λx=>BB .add x l λy=>BB .gtr y (Iw 65) λz=>II z (LN 3 h λa0=>CC 306 #[a0,Iw 2] λa1=>K<|Value.tuple #[Sn,a1])<|LN 3 h λa2=>CC 308 #[a,a2,Bt] λa3=>K<|Value.tuple #[a3,Value.nilIface]) w
theorem Zgv (h:Zhh t0 t1 t2 w K):Cl prog 299 #[t0,t1,t2] w K:=
 ZML 55 [6,7] Tryz.func299 h
def Zkf (a w) (K:KV):=
 (SS (bsl 30 1 4 (Zl prog 30) [(0,(Iw 110)),(1,(Iw 3)),(2,(Iw 4)),(3,(Iw 2))]) λb=>NS b λc=>L1 (Iw 0) λd e=>BB .lss d c λf=>II f (IX 1 b d λh=>LL h λi=>CC 310 #[a,Value.iface 30 i] λj=>II j (K i)<|BB .add d (Iw 1) λl=>e [l])<|K<|Iw 0) w
theorem ZeI (h:Zkf t0 w K):Cl prog 300 #[t0] w K:=
 ZML 17 [2] Tryz.func300 h
def Zg3 (a w) (K:KV):=
 (NN a<|FL 1 a λb=>CC 201 #[b] λc=>K c) w
theorem ZgK (h:Zg3 t0 w K):Cl prog 301 #[t0] w K:=
 ZML 8 [2] Tryz.func301 h
def Zhj (a b w) (K:KV):=
 (AL (Value.cells b) 246 λc=>CC 311 #[a] λd=>XT 0 d λe=>XT 1 d λf=>AL (Zl prog 246) 246 λh=>TN 10 h e<|DD0<|FQ 0 c λi=>FQ 0 i λj=>FM 0 j λl=>NN a<|FM 0 a λm=>BQ .lss l m λn=>II n (K<|Iw 110)<|GT f (ldN 10 h) λo=>GT f (fld 0 c) λp=>GT f (fld 0 p) λq=>GT f (ldN 3 q) λr=>GT f (Cl prog 312 #[o,r]) λs=>GT f (Zb3 s) λt=>PP f t Bf λu=>II u (K<|Iw 130)<|NN a<|FL 1 a λv=>NS v λx=>BB .geq x (Iw 64) λy=>II y (K<|Iw 2)<|DD0<|NN a<|FQ 1 a λz=>LQ z λa0=>LM 10 c λa1=>CC 313 #[a1] λa2=>OO (ld1 z) a0<|SS (bsl 246 10 1 (Zl prog 246) [(0,a2)]) λa3=>OO (ld1 z) a0<|SS (apS prog #[222,222] 222 a0 a3) λa4=>NN a<|FQ 1 a λa5=>TN 1 a5 a4<|K<|Iw 0) w
theorem Zgy (h:Zhj t0 t1 w K):Cl prog 302 #[t0,t1] w K:=
 ZML 50 [4] Tryz.func302 h
def Zhg (a b w) (K:KV):=
 (NN a<|FF 0 a λc=>FL 1 c λd=>IX 7 d b λe=>FL 0 e λf=>BB .eql f (Iw 1) λh=>K h) w
theorem ZgP (h:Zhg t0 t1 w K):Cl prog 303 #[t0,t1] w K:=
 ZML 15 [4] Tryz.func303 h
def ZgT (a b c w) (K:KV):=
 (AL (Value.cells b) 83 λd=>AL (Value.cells c) 85 λe=>DD0<|FM 0 d λf=>NN a<|FM 0 a λh=>BQ .lss f h λi=>II i (K<|Iw 110)<|NN a<|FL 1 a λj=>NS j λl=>BB .geq l (Iw 256) λm=>II m (K<|Iw 2)<|DD0<|NN a<|FQ 1 a λn=>LQ n λo=>LM 3 d λp=>LM 6 e λq=>SS (bld (Zl prog 280) #[(0,3),(3,6)] [(0,p),(1,q)]) λr=>OO (ld1 n) o<|SS (bsl 280 9 1 (Zl prog 280) [(0,r)]) λs=>OO (ld1 n) o<|SS (apS prog #[225,225] 225 o s) λt=>NN a<|FQ 1 a λu=>TN 1 u t<|K<|Iw 0) w
theorem ZgC (h:ZgT t0 t1 t2 w K):Cl prog 304 #[t0,t1,t2] w K:=
 ZML 34 [6] Tryz.func304 h
def Zih (a b c w) (K:KV):=
 (AL (Value.cells c) 83 λd=>NN a<|FL 9 a λe=>SS (lkM prog 160 e b true) λf=>XT 0 f λh=>XT 1 f λi=>DD0<|FQ 0 d λj=>LQ j λl=>NN a<|FM 7 a λm=>CC 154 #[m] λn=>OO (ld1 j) l<|BQ .lss l n λo=>NF o i λp=>NF o p λq=>GQ true q (fld 0 d) λr=>GQ true q (ld1 r) λs=>NT q h λt=>GQ true q (bi .lss .i64 s t) λu=>GQ false o (pk q u Bf) λv=>PQ o Bt v λx=>II x (LN 3 d λy=>CC 306 #[y,Iw 110] λz=>K<|Value.tuple #[Iw 0,Bf,Bf,z])<|NN a<|FL 7 a λa0=>CC 314 #[a0] λa1=>NS a1 λa2=>L3 (Iw 0) Bf (Iw 0) λa3 a4 a5 a6=>BB .lss a5 a2 λa7=>II a7 (IX 3 a1 a5 λa8=>LN 3 a8 λa9=>AL (Zl prog 83) 83 λb0=>TN 3 b0 a9<|LN 3 b0 λb1=>LN 3 d λb2=>CC 200 #[b1,b2] λb3=>BB .geq b3 (Iw 0) λb4=>JB (λb5=>MF a4 b3 λb6=>GF a4 (bi .eql .i64 b6<|Iw 0) λb7=>PP a4 Bt b7 λb8=>BB .add a5 (Iw 1) λb9=>a6 [b5,b8,b9]) λc0=>II b4 (BB .add a3 (Iw 1) λc1=>c0 c1)<|c0 a3)<|NN a<|FL 6 a λc2=>CC 245 #[c2] λc3=>CC 315 #[c3,Value.func (Fn.func 316) #[] #[d]] λc4=>K<|Value.tuple #[a3,c4,a4,Value.nilIface]) w
theorem Zic (h:Zih t0 t1 t2 w K):Cl prog 305 #[t0,t1,t2] w K:=
 ZML 76 [6,7,8,9] Tryz.func305 h
def Zpt (a b w) (K:KV):=
 (AL (Value.cells a) 83 λc=>LN 3 c λd=>SS (bld (Zl prog 375) #[(0,3),(3,1)] [(0,d),(1,(Value.iface 30 b))]) λe=>AL (Value.cells e) 375 λf=>K<|Value.iface 373 f) w
theorem Zmd (h:Zpt t0 t1 w K):Cl prog 306 #[t0,t1] w K:=
 ZML 11 [4] Tryz.func306 h
def Zhb (a w) (K:KV):=
 (NN a<|FL 1 a λb=>NS b λc=>K c) w
theorem ZgE (h:Zhb t0 w K):Cl prog 307 #[t0] w K:=
 ZML 8 [2] Tryz.func307 h
def ZgR (a b c w) (K:KV):=
 (AL (Value.cells b) 83 λd=>DD0<|NN a<|FM 7 a λe=>LM 3 d λf=>CC 317 #[e,f] λh=>NQ h λi=>L2 Sn (Iw 0) λj l m=>BB .lss l i λn=>II n (IX 10 h l λo=>LN 10 o λp=>AL (Zl prog 246) 246 λq=>TN 10 q p<|DD0<|FM 6 q λr=>FQ 7 q λs=>LQ s λt=>NN a<|FQ 4 a λu=>TN 1 u r<|OO (ld1 s) t<|NN a<|FQ 5 a λv=>TN 1 v t<|BN c λx=>GF x (fld 0 q) λy=>GF x (fld 0 y) λz=>GF x (ldN 3 z) λa0=>GF x (ldN 3 d) λa1=>GF x (bO prog .neq 83 (Operand.tmp 38) (Operand.tmp 39) a0 a1) λa2=>PP x Bt a2 λa3=>JA (FL 9 q λa4=>NS a4 λa5=>L2 j (Iw 0) λa6 a7 a8=>BB .lss a7 a5 λa9=>II a9 (JB (λb0=>BB .add a7 (Iw 1) λb1=>a8 [b0,b1]) λb2=>IX 6 a4 a7 λb3=>LN 6 b3 λb4=>AL (Zl prog 85) 85 λb5=>TN 6 b5 b4<|FL 3 b5 λb6=>CC 303 #[a,b6] λb7=>II b7 (LN 6 b5 λb8=>SS (bld (Zl prog 88) #[(0,1),(1,6),(7,1)] [(0,(Iw 1)),(1,b8)]) λb9=>SS (bsl 88 8 1 (Zl prog 88) [(0,b9)]) λc0=>SS (apS prog #[46,46] 46 a6 c0) λc1=>b2 c1)<|b2 a6)<|BB .add l (Iw 1) λc2=>m [a6,c2]) λc3=>II a3 (DD0<|NN a<|FM 6 a λc4=>FQ 0 q λc5=>LM 6 c5 λc6=>CC 275 #[c4,c6] λ_=>c3)<|c3)<|DD0<|NN a<|FM 8 a λc7=>LM 3 d λc8=>CC 318 #[c7,c8] λ_=>K j) w
theorem ZgL (h:ZgR t0 t1 t2 w K):Cl prog 308 #[t0,t1,t2] w K:=
 ZML 74 [6] Tryz.func308 h
def Zd7 (a b w) (K:KV):=
 (AL (Value.cells b) 83 λc=>AL (Zl prog 85) 85 λd=>DD0<|NN a<|FM 2 a λe=>LM 3 c λf=>SS (lkM prog 214 e f true) λh=>XQ 0 h λi=>XQ 1 h λj=>BN j λl=>II l (SS (bld (Zl prog 85) #[(0,3),(3,1),(4,1),(5,1)] []) λm=>TN 6 d m<|LM 6 d λn=>K<|Value.tuple #[n,Bf])<|SS (bld (Zl prog 343) #[(0,1)] [(0,a)]) λo=>CC 319 #[(Value.iface 343 o),i] λp=>SS (tyA prog p 20 85 false) λq=>TN 6 d q<|LM 6 d λr=>K<|Value.tuple #[r,Bt]) w
theorem Zeh (h:Zd7 t0 t1 w K):Cl prog 309 #[t0,t1] w K:=
 ZMM 26 [(4,some 85),(5,none)] Tryz.func309 h
def Zlp (a b w) (K:KV):=
 (SS (bO prog .eql 355 (Operand.tmp 6) (Operand.const Value.nilIface) a Value.nilIface) λc=>MF c b λd=>GF c (bO prog .eql 355 (Operand.tmp 9) (Operand.const Value.nilIface) d Value.nilIface) λe=>PP c Bt e λf=>II f (SS (bO prog .eql 355 (Operand.tmp 12) (Operand.tmp 13) a b) λh=>K h)<|CC 320 #[b] λi=>SS (clI prog i "Comparable" #[]) λj=>CC 321 #[a,b,j] λl=>K l) w
theorem Zfm (h:Zlp t0 t1 w K):Cl prog 310 #[t0,t1] w K:=
 ZML 22 [4] Tryz.func310 h
def Zhi (a w) (K:KV):=
 (AL (Zl prog 246) 246 λb=>NN a<|FL 1 a λc=>NS c λd=>BB .eql d (Iw 0) λe=>II e (SS (bld (Zl prog 246) #[(0,6),(6,1),(7,1),(8,1),(9,1)] []) λf=>TN 10 b f<|LM 10 b λh=>K<|Value.tuple #[h,Bf])<|DD0<|NN a<|FM 1 a λi=>NN a<|FM 1 a λj=>NQ j λl=>BQ .sub l (Iw 1) λm=>IQ 10 i m λn=>LM 10 n λo=>CC 313 #[o] λp=>TN 10 b p<|LM 10 b λq=>K<|Value.tuple #[q,Bt]) w
theorem Zgz (h:Zhi t0 w K):Cl prog 311 #[t0] w K:=
 ZMM 24 [(2,some 246),(3,none)] Tryz.func311 h
def ZeH (a b w) (K:KV):=
 (AL (Value.cells a) 246 λc=>AL (Value.cells b) 83 λd=>FF 0 c λe=>FF 0 e λf=>LN 3 f λh=>LN 3 d λi=>CC 200 #[h,i] λj=>BB .lss j (Iw 0) λl=>K l) w
theorem ZeX (h:ZeH t0 t1 w K):Cl prog 312 #[t0,t1] w K:=
 ZML 11 [4] Tryz.func312 h
def ZrL (a w) (K:KV):=
 (AL (Value.cells a) 246 λb=>AL (Zl prog 246) 246 λc=>FL 9 b λd=>CC 246 #[d] λe=>FF 9 b λf=>TN 1 f e<|LN 10 b λh=>TN 10 c h<|LM 10 c λi=>K i) w
theorem ZmW (h:ZrL t0 w K):Cl prog 313 #[t0] w K:=
 ZMM 8 [(2,some 246)] Tryz.func313 h
def Zhm (a w) (K:KV):=
 (NN a<|FL 1 a λb=>NS b λc=>L2 Sn (Iw 0) λd e f=>BB .lss e c λh=>II h (IX 10 b e λi=>LN 10 i λj=>AL (Zl prog 246) 246 λl=>TN 10 l j<|FF 0 l λm=>FF 0 m λn=>LN 3 n λo=>SS (bsl 83 3 1 (Zl prog 83) [(0,o)]) λp=>SS (apS prog #[369,369] 369 d p) λq=>BB .add e (Iw 1) λr=>f [q,r])<|K d) w
theorem Zgt (h:Zhm t0 w K):Cl prog 314 #[t0] w K:=
 ZML 23 [2] Tryz.func314 h
def Zay (a b w) (K:KV):=
 (CC 322 #[a,b] λc=>BB .geq c (Iw 0) λd=>K d) w
theorem Zbi (h:Zay t0 t1 w K):Cl prog 315 #[t0,t1] w K:=
 ZML 9 [4] Tryz.func315 h
def Zfz (a b w) (K:KV):=
 (AL (Value.cells a) 85 λc=>FF 0 c λd=>LN 3 d λe=>LN 3 b λf=>SS (bO prog .eql 83 (Operand.tmp 5) (Operand.tmp 6) e f) λh=>K h) w
theorem Zfa (h:Zfz t0 t1 w K):Cl prog 316 #[t0,t1] w K:=
 ZML 8 [3] Tryz.func316 h
def Zg6 (a b w) (K:KV):=
 (AL (Value.cells b) 83 λc=>LN 3 c λd=>CC 193 #[a,Value.func (.func 312) #[] #[],d] λe=>NN a<|FL 1 a λf=>SS (slc 10 f (some e) none) λh=>CC 195 #[h] λi=>CC 323 #[i] λ_=>NN a<|FL 1 a λj=>SS (slc 10 j none<|some e) λl=>NN a<|FF 1 a λm=>TN 1 m l<|K i) w
theorem ZgM (h:Zg6 t0 t1 w K):Cl prog 317 #[t0,t1] w K:=
 ZML 29 [4] Tryz.func317 h
def ZgZ (a b w) (K:KV):=
 (AL (Value.cells b) 83 λc=>CC 196 #[a,Value.func (Fn.func 324) #[] #[c]] λd=>CC 201 #[d] λe=>K e) w
theorem Zgp (h:ZgZ t0 t1 w K):Cl prog 318 #[t0,t1] w K:=
 ZML 9 [4] Tryz.func318 h
def Zl7 (a b w) (K:KV):=
 (SS (clI prog a "Len" #[]) λc=>BB .sub c (Iw 1) λd=>BB .neq d b λe=>JA (SS (clI prog a "Pop" #[]) λf=>K f) λh=>II e (SS (clI prog a "Swap" #[b,d]) λ_=>CC 286 #[a,b,d] λi=>BN i λj=>II j (CC 285 #[a,b] λ_=>h)<|h)<|h) w
theorem ZjV (h:Zl7 t0 t1 w K):Cl prog 319 #[t0,t1] w K:=
 ZML 26 [4] Tryz.func319 h
def Zo6 (a b c w) (K:KV):=
 (L1 a λd e=>MT c d λf=>MT c b λh=>GT c (bO prog .eql 355 (Operand.tmp 16) (Operand.tmp 17) f h) λi=>PP c i Bf λj=>II j (K Bt)<|SS (tyA prog d 355 387 true) λl=>XT 0 l λm=>XT 1 l λn=>MT n m λo=>MT n b λp=>GT n (clI prog o "Is" #[p]) λq=>PP n q Bf λr=>II r (K Bt)<|SS (tyA prog d 355 390 true) λs=>XT 1 s λt=>XT 0 s λu=>II t (SS (clI prog u "Unwrap" #[]) λv=>SS (bO prog .eql 355 (Operand.tmp 37) (Operand.const Value.nilIface) v Value.nilIface) λx=>II x (K Bf)<|e [v])<|SS (tyA prog d 355 392 true) λy=>XT 1 y λz=>XT 0 y λa0=>II z (SS (clI prog a0 "Unwrap" #[]) λa1=>NS a1 λa2=>L1 (Iw 0) λa3 a4=>BB .lss a3 a2 λa5=>II a5 (IX 1 a1 a3 λa6=>LL a6 λa7=>CC 321 #[a7,b,c] λa8=>II a8 (K Bt)<|BB .add a3 (Iw 1) λa9=>a4 [a9])<|K Bf)<|K Bf) w
theorem Zl8 (h:Zo6 t0 t1 t2 w K):Cl prog 321 #[t0,t1,t2] w K:=
 ZML 54 [6] Tryz.func321 h
def ZaR (a b w) (K:KV):=
 (NS a λc=>L1 (Iw 0) λd e=>BB .lss d c λf=>II f (IX 6 a d λh=>LN 6 h λi=>SS (clV prog b #[i]) λj=>II j (K d)<|BB .add d (Iw 1) λl=>e [l])<|K<|Iw (-1)) w
theorem Zbz (h:ZaR t0 t1 w K):Cl prog 322 #[t0,t1] w K:=
 ZML 19 [4] Tryz.func322 h
def Zax (a w) (K:KV):=
 (NS a λb=>BB .sub b (Iw 1) λc=>L2 (Iw 0) c λd e f=>BB .lss d e λh=>II h (DD0<|IQ 10 a e λi=>LM 10 i λj=>IQ 10 a d λl=>LM 10 l λm=>IQ 10 a d λn=>TN 10 n j<|IQ 10 a e λo=>TN 10 o m<|BB .add d (Iw 1) λp=>BB .sub e (Iw 1) λq=>f [p,q])<|K<|Value.tuple #[]) w
theorem Zbe (h:Zax t0 w K):Cl prog 323 #[t0] w K:=
 ZML 28 [] Tryz.func323 h
def ZeJ (a b w) (K:KV):=
 (AL (Value.cells a) 280 λc=>FF 0 c λd=>LN 3 d λe=>LN 3 b λf=>CC 200 #[e,f] λh=>BB .geq h (Iw 0) λi=>K i) w
theorem Ze4 (h:ZeJ t0 t1 w K):Cl prog 324 #[t0,t1] w K:=
 ZML 9 [3] Tryz.func324 h
def Zg1 (a w) (K:KV):=
 (AL (Value.cells a) 343 λb=>FL 0 b λc=>NN c<|FL 1 c λd=>NS d λe=>K e) w
theorem ZgG (h:Zg1 t0 w K):Cl prog 334 #[t0] w K:=
 ZML 9 [2] Tryz.func334 h
def Zfg (a b c w) (K:KV):=
 (AL (Value.cells a) 343 λd=>DD0<|FM 0 d λe=>NN e<|FM 1 e λf=>IQ 6 f b λh=>FQ 0 h λi=>LM 3 i λj=>FM 0 d λl=>NN l<|FM 1 l λm=>IQ 6 m c λn=>FQ 0 n λo=>LM 3 o λp=>CC 200 #[j,p] λq=>BQ .lss q (Iw 0) λr=>K r) w
theorem Zf4 (h:Zfg t0 t1 t2 w K):Cl prog 335 #[t0,t1,t2] w K:=
 ZML 27 [6] Tryz.func335 h
def Zhd (a w) (K:KV):=
 (AL (Value.cells a) 343 λb=>FL 0 b λc=>NN c<|FL 1 c λd=>NS d λe=>BB .sub e (Iw 1) λf=>FL 0 b λh=>NN h<|FL 1 h λi=>IX 6 i f λj=>LN 6 j λl=>AL (Zl prog 85) 85 λm=>TN 6 m l<|DD0<|FM 0 b λn=>FM 0 b λo=>NN o<|FM 1 o λp=>SQ (slc 6 p none<|some f) λq=>NN n<|FQ 1 n λr=>TN 1 r q<|DD0<|FM 0 b λs=>NN s<|FM 2 s λt=>FQ 0 m λu=>LM 3 u λv=>SS (dlM prog #[214,83] 0 t v) λ_=>LN 6 m λx=>K<|Value.iface 85 x) w
theorem Zgo (h:Zhd t0 w K):Cl prog 336 #[t0] w K:=
 ZML 40 [2] Tryz.func336 h
def Zf0 (a b w) (K:KV):=
 (AL (Value.cells a) 343 λc=>SS (tyA prog b 20 85 false) λd=>AL (Zl prog 85) 85 λe=>TN 6 e d<|DD0<|FM 0 c λf=>NN f<|FM 2 f λh=>FQ 0 e λi=>LM 3 i λj=>FM 0 c λl=>NN l<|FM 1 l λm=>NQ m λn=>SS (upM prog 214 h j n) λ_=>DD0<|FQ 0 c λo=>LQ o λp=>FQ 0 c λq=>LQ q λr=>NN r<|FQ 1 r λs=>LQ s λt=>LM 6 e λu=>SS (bsl 85 6 1 (Zl prog 85) [(0,u)]) λv=>OO (ld1 s) t<|OO (ld1 q) r<|OO (ld1 o) p<|SS (apS prog #[80,80] 80 t v) λx=>OO (ld1 o) p<|NN p<|FQ 1 p λy=>TN 1 y x<|K<|Value.tuple #[]) w
theorem Zff (h:Zf0 t0 t1 w K):Cl prog 337 #[t0,t1] w K:=
 ZML 32 [] Tryz.func337 h
def Zf2 (a b c w) (K:KV):=
 (AL (Value.cells a) 343 λd=>DD0<|FM 0 d λe=>NN e<|FM 1 e λf=>FM 0 d λh=>NN h<|FM 1 h λi=>FM 0 d λj=>NN j<|FM 1 j λl=>IQ 6 l c λm=>LM 6 m λn=>FM 0 d λo=>NN o<|FM 1 o λp=>IQ 6 p b λq=>LM 6 q λr=>IQ 6 f b λs=>TN 6 s n<|IQ 6 i c λt=>TN 6 t r<|DD0<|FM 0 d λu=>NN u<|FM 2 u λv=>FM 0 d λx=>NN x<|FM 1 x λy=>IQ 6 y b λz=>FQ 0 z λa0=>LM 3 a0 λa1=>FM 0 d λa2=>NN a2<|FM 2 a2 λa3=>FM 0 d λa4=>NN a4<|FM 1 a4 λa5=>IQ 6 a5 c λa6=>FQ 0 a6 λa7=>LM 3 a7 λa8=>SS (meM prog 214 v a1) λa9=>XQ 1 a9 λb0=>SS (esM prog 214 v b0 b) λ_=>SS (meM prog 214 a3 a8) λb1=>XQ 1 b1 λb2=>SS (esM prog 214 a3 b2 c) λ_=>K<|Value.tuple #[]) w
theorem Zfd (h:Zf2 t0 t1 t2 w K):Cl prog 338 #[t0,t1,t2] w K:=
 ZML 70 [] Tryz.func338 h
def Zc7 (a w) (K:KV):=
 (NN a<|FL 3 a λb=>K b) w
theorem ZdD (h:Zc7 t0 w K):Cl prog 340 #[t0] w K:=
 ZML 7 [2] Tryz.func340 h
def Inf:Int:=1125899906842624
def Zsq:Int:=1099511627776
def Yu (t:Int):Bool:=decide<|t=Inf\/(0<=t/\t<=Zsq)
def ZaD (t:Int):Int:=if t<0 then 0 else if Zsq<t then Inf else t
def ZvS (t d:Int):Int:=ZaD<|ZaD t+ZaD d
def ZaP (l:List Int):Int:=l.foldl (λn t=>min n<|ZaD t) Inf
def Zlb (a b:Int):Int:=if a<b then -1 else if b<a then 1 else 0
def ZeU (a b:Key):Int:=if Zlb a.T b.T≠0 then Zlb a.T b.T else if Zlb a.From b.From≠0 then Zlb a.From b.From else Zlb a.Seq b.Seq
def ZmY (n:Int):Prop:=-9223372036854775808<=n/\n<=9223372036854775807
theorem ZmY.of_wf {n:Int} (h:(Lit.int .i64 n).wf=true):ZmY n:=by
 simp only[Lit.wf,IntKind.min,IntKind.max,IntKind.signed,IntKind.bits] at h;simp at h;unfold ZmY;omega
theorem Zot {n:Int} (h:ZmY n):IntKind.u64.wrap n=if 0<=n then n else n+18446744073709551616:=by
 have e1:(2:Int) ^ 64=18446744073709551616:=by decide
 simp only[IntKind.wrap,IntKind.bits,IntKind.signed,Bool.false_and,Bool.false_eq_true,if_false,e1];unfold ZmY at h;split <;> omega
theorem Zp1 (t:Int):0<=ZaD t/\ZaD t<=Inf:=by unfold ZaD Inf Zsq;split <;> (try split) <;> omega
variable {e:World} {R:List HP}
theorem ZcO {t:Int} (ht:ZmY t) (hk:K (.bool<|Yu t) w):Cl prog 148 #[Iw t] w K:=by
 refine Zka ?_;unfold ZmB;have h64:=ht;unfold ZmY at h64;refine ZoR (λc=>?_)<|λc=>?_
 .refine Zd<|Zd<|Zd<|Yv ?_;rw[show Yu t=true from by simp[Yu,Inf,c]] at hk;exact hk
 .refine Zj<|Zj<|ZDy<|Zj ?_;rw[Zot ht];by_cases h:0<=t/\t<=Zsq
  .rw[if_pos h.1];refine ZCA (by unfold Zsq at h;omega)<|Yd ?_;rw[show Yu t=true from by simp[Yu,h]] at hk;exact hk
  .refine ZCF (by unfold Zsq at h;split <;> omega)<|Yd ?_;rw[show Yu t=false from by simp only[Yu,decide_eq_false_iff_not];unfold Inf;omega] at hk;exact hk
theorem ZXH {t:Int} (hk:K (.bool<|Yu t) w):Cl prog 164 #[Iw t] w K:=by
 refine ZX2 ?_;unfold ZXN;have hv:Yu t=(decide<|t=Inf\/(0<=t/\t<=Zsq)):=rfl;unfold Inf Zsq at hv;refine Zu5 (λc=>Ze<|Ze<|ZFH (λc2=>Yv<|Zd<|Zd<|Yv ?_)<|λc2=>Yv<|Zj<|Zj<|ZoR (λc3=>Yd ?_)<|λc3=>Yd ?_)<|λc=>Zu<|Zu<|Yd<|Zj<|Zj<|ZoR (λc3=>Yd ?_)<|λc3=>Yd ?_
 all_goals first
  | (rw[show Yu t=true from by rw[hv,decide_eq_true];omega] at hk;exact hk)
  | (rw[show Yu t=false from by rw[hv,decide_eq_false];omega] at hk;exact hk)
theorem ZcN {t:Int} (hk:K (Iw<|ZaD t) w):Cl prog 153 #[Iw t] w K:=by
 refine ZjL ?_;unfold Zl0;unfold ZaD Inf Zsq at hk;refine Za7 (λc=>Zi ?_)<|λc=>Zf ?_
 .rw[if_pos c] at hk;exact hk
 .rw[if_neg c] at hk;refine Ztu (λc=>Zi ?_)<|λc=>Zf ?_
  .rw[if_pos c] at hk;exact hk
  .rw[if_neg c] at hk;exact hk
theorem ZKu {t:Int} (hk:K (Iw<|ZaD t) w):Cl prog 177 #[Iw t] w K:=by
 refine ZJ4 ?_;unfold ZJV;unfold ZaD Inf Zsq at hk;refine Za7 (λc=>Zi ?_)<|λc=>Zf ?_
 .rw[if_pos c] at hk;exact hk
 .rw[if_neg c] at hk;refine Ztu (λc=>Zi ?_)<|λc=>Zf ?_
  .rw[if_pos c] at hk;exact hk
  .rw[if_neg c] at hk;exact hk
theorem ZhT {t d:Int} (hk:K (Iw<|ZvS t d) w):Cl prog 185 #[Iw t,Iw d] w K:=by
 refine Zms ?_;unfold Zqb;have h1:=Zp1 t;have h2:=Zp1 d;unfold Inf at h1 h2;exact ZcN<|ZcN<|Qadds<|ZcN hk
theorem ZLe {t d:Int} (hk:K (Iw<|ZvS t d) w):Cl prog 175 #[Iw t,Iw d] w K:=by
 refine ZKk ?_;unfold ZJ6;have h1:=Zp1 t;have h2:=Zp1 d;unfold Inf at h1 h2;have key:∀a b:Int,0<=a->0<=b->(a=1125899906842624\/b=1125899906842624)->ZaD (a+b)=1125899906842624:=by
  intro a b ha hb h;unfold ZaD Zsq Inf;rw[if_neg (by omega),if_pos (by omega)]
 refine ZKu<|ZKu<|ZoR (λc=>Zd<|Zd<|Yv<|Zi ?_)<|λc=>Zj<|Zj<|ZoR (λc2=>Yd<|Zi ?_)<|λc2=>Yd<|Zf ?_
 .unfold ZvS at hk;rw[key _ _ h1.1 h2.1 (.inl c)] at hk;exact hk
 .unfold ZvS at hk;rw[key _ _ h1.1 h2.1 (.inr c2)] at hk;exact hk
 .exact Qadds<|ZKu hk
theorem ZqA (l:List Int) (t:Int):ZaP (l++[t])=min (ZaP l) (ZaD t):=by simp[ZaP]
theorem Zeu {v:Value} {l:List Int} {S:HP} (hS:Sat e w<|S::R) (hr:∀g,S g->rdS 1 (Ye .i64) v l g) (hl:l.length<=1000000000000) (hk:∀w',Sat e w' (S::R)->K (Iw<|ZaP l) w'):Cl prog 99 #[v] w K:=by
 refine ZjX ?_;unfold Zmt;refine Zt hS 0 rfl hr<|lp2 (λt3 t8 w=>∃j:Nat,j<=l.length/\t8=Iw j/\t3=Iw (ZaP<|l.take j)/\Sat e w (S::R)) (λ_ t8 _=>l.length - nOf t8) ⟨0,Nat.zero_le _,rfl,rfl,hS⟩ ?_;rintro _ _ w g ⟨j,hj,rfl,rfl,h1⟩ hg;refine Za7 (λc=>Zi ?_)<|λc=>Zf ?_
 .obtain ⟨x,hx⟩:=Zk (l:=l) (j:=j) (by omega);refine Zw h1 0 rfl hr (λ_=>rfl) hx λa ha=>Yt h1 0 rfl ha (by rfl) ?_;exact ZcN<|Zty<|Qincs<|hg _ _ _ ⟨j+1,by omega,rfl,by rw[Zx hx,ZqA],h1⟩ (by simp[nOf];omega)
 .obtain rfl:j=l.length:=by omega
  rw[List.take_length];exact hk _ h1
theorem ZX9 {v:Value} {l:List Int} {S:HP} (hS:Sat e w<|S::R) (hr:∀g,S g->rdS 1 (Ye .i64) v l g) (hl:l.length<=1000000000000) (hk:∀w',Sat e w' (S::R)->K (Iw<|ZaP l) w'):Cl prog 121 #[v] w K:=by
 refine ZX1<|lp2 (λt3 t8 w=>∃j:Nat,j<=l.length/\t8=Iw j/\t3=Iw (ZaP<|l.take j)/\Sat e w (S::R)) (λ_ t8 _=>l.length - nOf t8) ⟨0,Nat.zero_le _,rfl,rfl,hS⟩ ?_;rintro _ _ w g ⟨j,hj,rfl,rfl,h1⟩ hg;refine Zt h1 0 rfl hr<|Za7 (λc=>Zi ?_)<|λc=>Zf ?_
 .obtain ⟨x,hx⟩:=Zk (l:=l) (j:=j) (by omega);refine Zw h1 0 rfl hr (λ_=>rfl) hx λa ha=>Yt h1 0 rfl ha (by rfl) ?_;exact ZKu<|Zty<|Qincs<|hg _ _ _ ⟨j+1,by omega,rfl,by rw[Zx hx,ZqA],h1⟩ (by simp[nOf];omega)
 .obtain rfl:j=l.length:=by omega
  rw[List.take_length];exact hk _ h1
theorem Zvf {a:Int} (hk:K Bf w):Cl prog 220 #[Iw a] w K:=by
 exact Zhv<|ZoP rfl hk
theorem ZmJ {a b:Int} (hk:K (Iw<|Zlb a b) w):Cl prog 216 #[Iw a,Iw b] w K:=by
 refine ZfO ?_;unfold ZfG;unfold Zlb at hk;refine Zvf<|Zvf<|Zf<|Zf<|Za7 (λc=>Zi ?_)<|λc=>Zf<|Ztu (λc2=>Zi ?_)<|λc2=>Zf ?_
 .rw[if_pos c] at hk;exact hk
 .rw[if_neg c,if_pos c2] at hk;exact hk
 .rw[if_neg c,if_neg c2] at hk;exact hk
theorem ZIl {v:Value} {l:List Int} {S:HP} (hS:Sat e w (S::R)) (hr:∀g,S g->rdS 1 (Ye .i64) v l g) (hl:l.length<=1000000) (hk:∀w',Sat e w' (S::R)->K (Iw ((l.find? (λn=>decide (n≠0))).getD 0)) w'):Cl prog 215 #[v] w K:=by
 refine Zk0 ?_;unfold Znv;refine Zt hS 0 rfl hr (lp1 (λt8 w=>∃j:Nat,j<=l.length/\t8=Iw j/\(l.take j).find? (λn=>decide (n≠0))=none/\Sat e w (S::R)) (λt8 _=>l.length - nOf t8) ⟨0,Nat.zero_le _,rfl,rfl,hS⟩ ?_);rintro _ w g ⟨j,hj,rfl,hn,h1⟩ hg;refine Za7 (λc=>Zi ?_) (λc=>Zf ?_)
 .obtain ⟨x,hx⟩:=Zk (l:=l) (j:=j) (by omega);refine Zw h1 0 rfl hr (λ_=>rfl) hx λa ha=>Yt h1 0 rfl ha (by rfl) ?_;refine ZrP (λc=>Zi ?_) (λc=>Zf ?_)
  .have h2:=hk _ h1;have:l.find? (λn=>decide (n≠0))=some x:=by
    rw[<-List.take_append_drop j l,List.find?_append,hn,Option.none_or];have hd:l.drop j=x::l.drop (j+1):=by
     obtain ⟨hlt,e⟩:=List.getElem?_eq_some_iff.1 hx;rw[List.drop_eq_getElem_cons hlt,e]
    rw[hd,List.find?_cons_of_pos (by simpa using c)]
   rw[this] at h2;exact h2
  .exact Qincs (hg _ _ ⟨j+1,by omega,rfl,by rw[Zx hx,List.find?_append,hn];simp[c],h1⟩ (by simp[nOf];omega))
 .obtain rfl:j=l.length:=by omega
  rw[List.take_length] at hn;have h2:=hk _ h1;rw[hn] at h2;exact h2
theorem Zcr {a b:Key} (hS:Sat e w R) (hk:∀w',Sat e w' R->K (Iw<|ZeU a b) w'):Cl prog 200 #[.agg a.cs.toArray,.agg b.cs.toArray] w K:=by
 refine ZlC ?_;unfold Zpp;rw[Zr6];refine Yp (cs:=a.cs) hS rfl λb2 w1 h1=>Yp (cs:=b.cs) h1 rfl λb3 w2 h2=>ZaY h2 λw3 h3=>Za<|Zb h3 1 rfl rfl<|Za<|Zb h3 0 rfl rfl<|Za<|Zb h3 1 rfl rfl<|Za<|Zb h3 0 rfl rfl<|Za<|Zb h3 1 rfl rfl<|Za<|Zb h3 0 rfl rfl<|ZmJ ⟨Zb h3 0 rfl rfl ⟨rfl,rfl⟩,Zb h3 1 rfl rfl ⟨rfl,rfl⟩,Zb h3 0 rfl rfl ⟨rfl,rfl⟩,Zb h3 1 rfl rfl ⟨rfl,rfl⟩,ZmJ ⟨Zb h3 0 rfl rfl ⟨rfl,rfl⟩,Zb h3 1 rfl rfl ⟨rfl,rfl⟩,ZmJ<|Zfk (Yi [Zlb a.T b.T,Zlb a.From b.From,Zlb a.Seq b.Seq]) h3 (by kernel_rfl) λb20 w4 h4=>?_⟩⟩;refine ZIl h4 (l:=[Zlb a.T b.T,Zlb a.From b.From,Zlb a.Seq b.Seq]) (Zbx (f:=Ye .i64) [Zlb a.T b.T,Zlb a.From b.From,Zlb a.Seq b.Seq] rfl<|Nat.le_refl _) (by simp) λw5 h5=>?_;have h6:=hk w5<|h5.drop.drop.drop;have e1:([Zlb a.T b.T,Zlb a.From b.From,Zlb a.Seq b.Seq].find?<|λn=>decide<|n≠0).getD 0=ZeU a b:=by
  unfold ZeU;by_cases h1:Zlb a.T b.T=0
  .by_cases h2:Zlb a.From b.From=0
   .by_cases h3:Zlb a.Seq b.Seq=0 <;> simp[h1,h2,h3]
   .simp[h1,h2]
  .simp[h1]
 rw[e1];exact h6
end Go.Proofs.YtceipnkeijhebaaGreat
end
section
namespace Go.E
open Go.RowKit
theorem Zwz {x:Addr} {w:World} {K:KV} (h:K (.pointer<|some x) w):nc (.pointer<|some x) w K:=⟨rfl,h⟩
section
variable {e w:World} {L R l:List HP} {K:KV} {P Q:HP}
theorem Sat.focus {l':List HP} (h:Sat e w<|Yh l'::R) (i:Nat) (hi:l'[i]?=some P):Sat e w (P::Yh (l'.eraseIdx i)::R):=by
 have h1:=h.split;have h2:=h1.perm<|(ZfR l' i P hi).append_right R;exact (Sat.join (l':=l'.eraseIdx i) (l:=P::R)<|h2.perm (by
  have:(P::l'.eraseIdx i++R).Perm (l'.eraseIdx i++P::R):=List.perm_middle.symm;exact this)).swap
theorem Sat.unfocus {l':List HP} (i:Nat) (hi:l'[i]?=some P) (h:Sat e w<|Q::Yh (l'.eraseIdx i)::R):Sat e w (Yh (l'.set i Q)::R):=by
 have h1:=h.swap.split;have h2:Sat e w (Q::l'.eraseIdx i++R):=h1.perm<|List.perm_middle (l₁:=l'.eraseIdx i) (a:=Q) (l₂:=R);exact Sat.join<|h2.perm<|(Zjm l' i P Q hi).append_right R
end
section
variable {α:Type} {e w:World} {L:List HP} {K:KV} {size:Nat} {f:α->List Value} {v:Value} {l:List α} {t:TypeId}
theorem Sat.own_open (h:Sat e w L) (i:Nat) (hi:L[i]?=some (Zz t size f v l)) (hl:0<l.length) :
  ∃b c cs,v=.slice (some ⟨b,0,none⟩) l.length c/\cs.length=c*size/\l.length<=c/\cs.take (l.length*size)=l.flatMap f/\Sat e w (L.set i<|blk b t cs):=by
 have h1:=h.pick i hi;obtain ⟨k1,k2,d,s1,s2,q,rr⟩:=h1.mem;rcases q with ⟨_,rfl⟩ | ⟨b,c,cs,hv,hb,hc,hn,hx⟩
 .simp at hl
 .refine ⟨b,c,cs,hv,hc,hn,hx,?_⟩;have h2:Sat e w (blk b t cs::L.eraseIdx i):=⟨h1.os,h1.tape,h1.output,h1.drawn,h1.size,k1,k2,d,s1,s2,hb,rr⟩;exact h2.perm<|Zjm L i _ _ hi
theorem Zu3 {b off n c j:Nat} {k:IntKind} (hj:j<n) (hk:K (.pointer<|some ⟨b,off+j*size,none⟩) w):ixS size (.slice (some ⟨b,off,none⟩) n c) (.int k (j:Int)) w K:=by
 refine ⟨_,_,_,_,_,rfl,rfl,by omega,by omega,?_⟩;have e1:((⟨b,off,none⟩:Addr).add<|(j:Int).toNat*size)=⟨b,off+j*size,none⟩:=by
  unfold Addr.add;split
  .rename_i h0;have h1:j*size=0:=h0;rw[h1];rfl
  .simp
 rw[e1];exact hk
theorem Zl4 (hf:∀x,(f x).length=size):∀(l:List α) (j:Nat) (x:α) (rest:List Value),j<l.length->wrL (l.flatMap f++rest) (j*size) (f x)=(l.set j x).flatMap f++rest
 | [],j,x,rest,h=>by simp at h
 | y::l,0,x,rest,h=>by
  simp only[wrL,Nat.zero_mul,List.take_zero,List.nil_append,Nat.zero_add,List.flatMap_cons,List.append_assoc,List.set_cons_zero];rw[hf x,<-hf y,List.drop_left]
 | y::l,j+1,x,rest,h=>by
  have ih:=Zl4 hf l j x rest (by simpa using h);simp only[List.flatMap_cons,List.set_cons_succ,List.append_assoc];rw[<-ih];simp only[wrL];rw[show (j+1)*size=(f y).length+j*size from by rw[hf,Nat.add_mul];omega,List.take_append,List.take_of_length_le (by omega),Nat.add_sub_cancel_left,show (f y).length+j*size+(f x).length=(f y).length+(j*size+(f x).length) from by omega,<-List.drop_drop,List.drop_left];simp
theorem Zt2 {b c j:Nat} {cs cs':List Value} {x:α} {g:Hp} (hf:∀x,(f x).length=size) (hc:cs.length=c*size) (hn:l.length<=c) (hx:cs.take (l.length*size)=l.flatMap f) (hj:j<l.length) (hw:wrL cs (j*size) (f x)=cs') (h:blk b t cs' g) :
  Zz t size f (.slice (some ⟨b,0,none⟩) l.length c) (l.set j x) g:=by
 have e1:cs=l.flatMap f++cs.drop (l.length*size):=by rw[<-hx,List.take_append_drop]
 have e2:cs'=(l.set j x).flatMap f++cs.drop (l.length*size):=by rw[<-hw,e1,Zl4 hf l j x _ hj,<-e1]
 have e3:((l.set j x).flatMap f).length=l.length*size:=by rw[Zy hf,List.length_set]
 have e4:l.length*size<=c*size:=Nat.mul_le_mul_right _ hn;refine .inr ⟨b,c,cs',by rw[List.length_set],h,?_,by simpa using hn,?_⟩
 .rw[e2,List.length_append,e3,List.length_drop,hc];omega
 .rw[e2,List.length_set,<-e3,List.take_left]
theorem Zpo {z:Array Value} {x:α} (hz:z.toList=f x) (hs:z.size=size):∀n,((Array.range (n*size)).map (z[· % z.size]!)).toList=(List.replicate n x).flatMap f
 | 0=>by simp
 | n+1=>by
  have ih:=Zpo hz hs n;simp only[Array.toList_map,Array.toList_range] at ih ⊢;rw[Nat.add_mul,Nat.one_mul,List.range_add,List.map_append,ih,List.replicate_succ',List.flatMap_append];congr 1;rw[List.map_map,List.flatMap_cons,List.flatMap_nil,List.append_nil,<-hz];apply List.ext_getElem
  .simp[hs]
  .intro i h1 h2;simp only[List.length_map,List.length_range] at h1;simp only[List.getElem_map,List.getElem_range,Function.comp,hs];rw[Nat.mul_add_mod_self_right,Nat.mod_eq_of_lt h1,Array.getElem_toList];rw[getElem!_pos z i (by omega)]
theorem Zyg {P:Program} {st:TypeId} {bytes:Nat} (T:TE P st t size bytes) {n:Nat} (hb:n*bytes<=140737488355328) (hS:Sat e w L) (f:α->List Value) (hf:∀x,(f x).length=size) (x:α) (hz:(Zl P t).toList=f x)
  (hk:∀v w',Sat e w' (Zz t size f v (List.replicate n x)::L)->K v w'):mkS P st (Iw (n:Int)) (Iw (n:Int)) w K:=by
 obtain ⟨i,z,hi,h1,h2,h3,h4⟩:=T.inf;have hn:n<=140737488355328:=Nat.le_trans (Nat.le_mul_of_pos_right _ T.pos.2) hb;have hzz:z.cells.toList=f x:=by
  rw[<-hz];unfold Zl;simp only[hi,Option.bind_some,h3]
 have hask:∀(x:Nat) (w':World),(askRoom x).run P w'=.ok () w':=by
  intro x w';unfold askRoom;split <;> rfl
 have hbi:¬((bytes:Int)*(n:Int) > 2 ^ 48):=by
  have h0:((bytes*n:Nat):Int)<=140737488355328:=by rw[Nat.mul_comm];exact Int.ofNat_le.2 hb
  rw[Int.natCast_mul] at h0;have e1:(2:Int) ^ 48=281474976710656:=by decide
  rw[e1];omega
 obtain ⟨A,hA⟩:∃A:Array Value,A=(Array.range<|n*size).map ((if n*size=0 then #[] else z.cells)[· % (if n*size=0 then #[] else z.cells).size]!):=⟨_,rfl⟩;have hAl:A.toList=(List.replicate n x).flatMap f:=by
  rw[hA];by_cases h0:n*size=0
  .have:n=0:=by
    rcases Nat.mul_eq_zero.1 h0 with h | h
    .exact h
    .have:=T.pos.1;omega
   subst this;simp
  .simp only[if_neg h0];exact Zpo hzz h4 n
 have g1:decide ((bytes:Int)*(n:Int) > 2 ^ 48)=false:=decide_eq_false hbi;have g2:decide ((n:Int)<0)=false:=decide_eq_false (by omega);have g3:decide ((n:Int) > (n:Int))=false:=decide_eq_false (by omega);refine Yn (w':=w.alloc (.cells A t)) (v:=.slice (some ⟨w.heap.size,0,none⟩) n n) ?_<|hk _ _ ?_
 .unfold Instr.makeSlice;simp only[Sem.run_bind,Yb T.und,Result.andThen_ok,asInt,asIntOf,Sem.run_pure,ZnL hi,h2,Zdl (show -9223372036854775808<=(n:Int) from by omega) (show (n:Int)<=9223372036854775807 from by omega),g1,g2,g3,Bool.or_false,Bool.false_eq_true,if_false,hask,Int.toNat_natCast,Zcj hi,h1];by_cases h0:n*size=0
  .simp only[if_pos h0,Sem.run_bind,Sem.run_pure,Result.andThen_ok,newRow,newObj,Sem.run,hA,World.alloc]
  .simp only[if_neg h0,Sem.run_bind,Sem.run_pure,Result.andThen_ok,Zdn hi h3,newRow,newObj,Sem.run,hA,World.alloc]
 .refine ((hS.alloc _).imp λg hg=>.inr ⟨w.heap.size,n,A.toList,by simp,by simpa using hg,?_,by simp,?_⟩)
  .rw[hAl,Zy hf,List.length_replicate]
  .rw[hAl,List.take_of_length_le (by rw[Zy hf];exact Nat.le_refl _)]
end
section
variable {P:Program} {w:World} {K:KV}
theorem ZxU {t:TypeId} {xo yo:Operand} {a:Int} (hk:K (Iw<|a % 2) w):bO P .and t xo yo (Iw a) (Iw 1) w K:=by
 refine Yn (w':=w) (v:=Iw<|a % 2) ?_ hk;have h1:IntKind.i64.wrap ((BitVec.ofInt 64 a &&&BitVec.ofInt 64 1).toNat:Int)=a % 2:=by
  have h2:(BitVec.ofInt 64 a &&&BitVec.ofInt 64 1).toNat=(a % 2).toNat:=by
   rw[BitVec.toNat_and,BitVec.toNat_ofInt,BitVec.toNat_ofInt];have e1:((1:Int) % ((2 ^ 64:Nat):Int)).toNat=2 ^ 1 - 1:=by decide
   rw[e1,Nat.and_two_pow_sub_one_eq_mod];omega
  rw[h2];exact Zdl (by omega) (by omega) |>.trans (by omega)
 simp only[Sem.run_bind,Zjq,Result.andThen_ok,binOp,Op.intBits,ne_eq,not_true_eq_false,if_false,Sem.run_pure];exact congrArg (λz=>Result.ok (Iw z) w) h1
theorem Zx8 {t:TypeId} {xo yo:Operand} {a:Int} {j:IntKind} (hk:K (Iw<|a / 2) w):bO P .shr t xo yo (Iw a) (.int j 1) w K:=by
 refine Yn (w':=w) (v:=Iw<|a / 2) ?_ hk;have hg:(eqGuard .shr t xo yo (Iw a) (.int j 1)).run P w=.ok () w:=rfl;simp only[Sem.run_bind,hg,Result.andThen_ok,binOp,Op.shift,Sem.run_pure,Int.reduceLT,if_false];have e1:min (1:Int).toNat IntKind.i64.bits=1:=by decide
 rw[e1];have e2:a.fdiv (2 ^ 1)=a / 2:=by
  rw[show (2:Int) ^ 1=2 from by decide,Int.fdiv_eq_ediv_of_nonneg _ (by decide)]
 rw[e2]
theorem Zcb {b off len size j:Nat} {k:IntKind} (hj:j<len) (hk:K (.pointer<|some ⟨b,off+j*size,none⟩) w):ixA len size (.pointer<|some ⟨b,off,none⟩) (.int k (j:Int)) w K:=by
 refine ⟨_,_,_,rfl,rfl,by omega,by omega,?_⟩;have e1:((⟨b,off,none⟩:Addr).add<|(j:Int).toNat*size)=⟨b,off+j*size,none⟩:=by
  unfold Addr.add;split
  .rename_i h0;have h1:j*size=0:=h0;rw[h1];rfl
  .simp
 rw[e1];exact hk
theorem ZGk {t e:TypeId} {n b off:Nat} {i:TypeInfo} {h:Nat} (hu:P.underlying t=some (.array n e)) (hi:P.info? e=some i) (hh:h<=n) (hk:K (.slice (some ⟨b,off,none⟩) h n) w) :
  slA P t (.pointer<|some ⟨b,off,none⟩) none (some<|Iw (h:Int)) w K:=by
 refine Yn (w':=w) (v:=.slice (some ⟨b,off,none⟩) h n) ?_ hk;have hb:(Instr.sliceBounds false n n none (some<|Iw (h:Int)) none).run P w=.ok (0,h,n) w:=by
  unfold Instr.sliceBounds Instr.sliceBound;simp only[Sem.run_bind,asIntOf,Sem.run_pure,Result.andThen_ok,Bool.false_eq_true,if_false];rw[if_pos ⟨by omega,by omega⟩];simp
 unfold Instr.sliceAt;simp only[Sem.run_bind,Yb hu,Result.andThen_ok,Instr.sureAddr,Sem.run_pure,hb,Zcj hi,Nat.zero_mul,Nat.sub_zero];have e1:(⟨b,off,none⟩:Addr).add 0=⟨b,off,none⟩:=rfl;rw[e1];simp
end
end Go.E
end
section
namespace Go.E
open Go.RowKit
section
variable {α:Type} {e w:World} {L R:List HP} {K:KV} {size:Nat} {f:α->List Value} {v:Value} {l:List α} {t:TypeId} {S:HP}
theorem Sat.imp_at {P Q:HP} (h:Sat e w L) (i:Nat) (hi:L[i]?=some P) (k:∀g,P g->Q g):Sat e w (L.set i Q):=
 ((h.pick i hi).imp k).perm (Zjm L i P Q hi)
theorem Zkx {P Q:HP} {i:Nat} (hi:L[i]?=some P):(L.set i Q)[i]?=some Q:=by
 have:=(List.getElem?_eq_some_iff.1 hi).1;rw[List.getElem?_set_self this]
theorem ZFt {j:Nat} {x:α} {xv:Value} {k:IntKind} (hS:Sat e w L) (i:Nat) (hi:L[i]?=some (Zz t size f v l)) (hf:∀x,(f x).length=size) (hj:j<l.length) (hx:xv.cells.toList=f x) (hff:∀c∈f x,flat c=true)
  (hk:∀w',Sat e w' (L.set i<|Zz t size f v<|l.set j x)->K undef w'):ixS size v (.int k (j:Int)) w λp w=>stN size p xv w K:=by
 obtain ⟨b,c,cs,hv,hc,hn,ht,h1⟩:=hS.own_open i hi (by omega);subst hv;refine Zu3 hj ?_;have hlen:(j+1)*size<=cs.length:=by rw[hc];exact Nat.mul_le_mul_right _ (by omega)
 rw[Nat.add_mul,Nat.one_mul] at hlen;refine Zq h1 i (Zkx hi) hx (hf x) (by omega) hff rfl λw2 h2=>?_;refine hk _ ?_;rw[List.set_set] at h2;have h3:=h2.imp_at (Q:=Zz t size f (.slice (some ⟨b,0,none⟩) l.length c)<|l.set j x) i (Zkx hi) λg hg=>Zt2 (f:=f) (x:=x) hf hc hn ht hj (by rw[Nat.zero_add]) hg;rw[List.set_set] at h3;exact h3
theorem ZdJ {j:Nat} {x:α} {xv:Value} {k:IntKind} (hS:Sat e w L) (i:Nat) (hi:L[i]?=some (Zz t size f v l)) (hf:∀x,(f x).length=size) (hj:j<l.length) (hx:xv.cells.toList=f x) (hff:∀c∈f x,flat c=true)
  (hk:∀w',Sat e w' (L.set i<|Zz t size f v<|l.set j x)->K undef w'):ixS size v (.int k (j:Int)) w λp _=>stN size p xv w K:=by
 obtain ⟨a,n,c,k',j',h1,h2,h3,h4,h5⟩:=ZFt (k:=k) hS i hi hf hj hx hff hk;exact ⟨a,n,c,k',j',h1,h2,h3,h4,h5⟩
theorem Zt3 {lo hi c:Nat} {A:Option Addr} {g:Hp} (hf:∀x,(f x).length=size) (hr:rdS size f (.slice A l.length c) l g) (h1:lo<=hi) (h2:hi<=l.length) :
  rdS size f (.slice (if c=lo then A else A.map (·.add (lo*size))) (hi - lo)<|c - lo) ((l.drop lo).take<|hi - lo) g:=by
 obtain ⟨A',c',e1,e2,e3⟩:=hr;injection e1 with e4 e5 e6;subst e4 e6;have hlen:((l.drop lo).take<|hi - lo).length=hi - lo:=by rw[List.length_take,List.length_drop];omega
 refine ⟨_,c - lo,by rw[hlen],by rw[hlen];omega,λh0=>?_⟩;rw[hlen] at h0;obtain ⟨a,ha,hc⟩:=e3 (by omega);rw[if_neg (by omega),ha];refine ⟨_,rfl,?_⟩;have e7:(l.drop lo).flatMap f=(l.flatMap f).drop (lo*size):=by
  have:l.flatMap f=(l.take lo).flatMap f++(l.drop lo).flatMap f:=by rw[<-List.flatMap_append,List.take_append_drop]
  rw[this];have e8:((l.take lo).flatMap f).length=lo*size:=by rw[Zy hf,List.length_take,Nat.min_eq_left (by omega)]
  rw[<-e8,List.drop_left]
 have e9:((l.drop lo).take<|hi - lo).flatMap f=((l.drop lo).flatMap f).take ((hi - lo)*size):=by
  have:(l.drop lo).flatMap f=((l.drop lo).take<|hi - lo).flatMap f++((l.drop lo).drop<|hi - lo).flatMap f:=by rw[<-List.flatMap_append,List.take_append_drop]
  rw[this];have e8:(((l.drop lo).take<|hi - lo).flatMap f).length=(hi - lo)*size:=by rw[Zy hf,hlen]
  rw[<-e8,List.take_left]
 rw[e9,e7];exact (hc.drop _).take _
theorem ZD8 {hi:Nat} {k:IntKind} (hS:Sat e w L) (i:Nat) (hiL:L[i]?=some S) (hr:∀g,S g->rdS size f v l g) (hf:∀x,(f x).length=size) (h2:hi<=l.length)
  (hk:∀v',(∀g,S g->rdS size f v' (l.take hi) g)->K v' w):slc size v none (some (.int k (hi:Int))) w K:=by
 obtain ⟨A,c,rfl,hlc⟩:=hS.shape i hiL hr;refine ⟨A,l.length,c,0,hi,rfl,rfl,⟨k,hi,rfl,by omega,by omega⟩,by omega,by omega,hk _ λg hg=>?_⟩;have:=Zt3 hf (hr g hg) (Nat.zero_le hi) h2;rw[List.drop_zero,Nat.sub_zero] at this;exact this
theorem Zox {lo:Nat} {k:IntKind} (hS:Sat e w L) (i:Nat) (hiL:L[i]?=some S) (hr:∀g,S g->rdS size f v l g) (hf:∀x,(f x).length=size) (h2:lo<=l.length)
  (hk:∀v',(∀g,S g->rdS size f v' (l.drop lo) g)->K v' w):slc size v (some (.int k (lo:Int))) none w K:=by
 obtain ⟨A,c,rfl,hlc⟩:=hS.shape i hiL hr;refine ⟨A,l.length,c,lo,l.length,rfl,⟨k,lo,rfl,by omega,by omega⟩,rfl,by omega,by omega,hk _ λg hg=>?_⟩;have:=Zt3 hf (hr g hg) h2<|Nat.le_refl _;rw[List.take_of_length_le (by rw[List.length_drop];omega)] at this;exact this
theorem ZuF {hi:Nat} {k:IntKind} (hS:Sat e w L) (i:Nat) (hiL:L[i]?=some (Zz t size f v l)) (hf:∀x,(f x).length=size) (h2:hi<=l.length)
  (hk:∀v',(Sat e w<|L.set i<|Zz t size f v'<|l.take hi)->K v' w):slc size v none (some (.int k (hi:Int))) w K:=by
 obtain ⟨A,c,rfl,hlc⟩:=hS.shape i hiL<|λ_=>Zp;refine ⟨A,l.length,c,0,hi,rfl,rfl,⟨k,hi,rfl,by omega,by omega⟩,by omega,by omega,hk _ ?_⟩;have hA:(if c=0 then A else A.map (·.add (0*size)))=A:=by
  split
  .rfl
  .cases A with
   | none=>rfl
   | some a=>simp[Addr.add]
 rw[hA];refine hS.imp_at i hiL λg hg=>?_;have hlt:(l.take hi).length=hi:=by rw[List.length_take];omega
 rcases hg with ⟨h3,rfl⟩ | ⟨b,c',cs,h3,hb,hc,hn,hx⟩
 .injection h3 with e1 e2 e3;subst e1 e3;have:hi=0:=by simpa using h2
  subst this;exact .inl ⟨rfl,rfl⟩
 .injection h3 with e1 e2 e3;subst e1 e3;refine .inr ⟨b,c,cs,by rw[hlt];rfl,hb,hc,by omega,?_⟩;rw[hlt];have e7:(l.take hi).flatMap f=(l.flatMap f).take (hi*size):=by
   have:l.flatMap f=(l.take hi).flatMap f++(l.drop hi).flatMap f:=by rw[<-List.flatMap_append,List.take_append_drop]
   rw[this];have e8:((l.take hi).flatMap f).length=hi*size:=by rw[Zy hf,hlt]
   rw[<-e8,List.take_left]
  rw[e7,<-hx,List.take_take,Nat.min_eq_left<|Nat.mul_le_mul_right _ h2]
end
end Go.E
end
section
namespace Go.E
open Go.RowKit
section
variable {P:Program} {w:World} {K:KV}
theorem Zb9 {a b:Nat} (h1:a+b<9223372036854775807) (h:K (Iw ((a+b:Nat):Int)) w):bi .add .i64 (Iw (a:Int)) (Iw (b:Int)) w K:=
 Qadds (by rw[show (a:Int)+(b:Int)=((a+b:Nat):Int) from by omega];exact h)
theorem Qaddns {a b:Nat} (h:K (Iw ((a+b:Nat):Int)) w) (c:a+b<9223372036854775807:=by omega):bi .add .i64 (Iw (a:Int)) (Iw (b:Int)) w K:=Zb9 c h
theorem Zdh {a b:Nat} (h1:b<=a) (h2:a<9223372036854775807) (h:K (Iw ((a - b:Nat):Int)) w):bi .sub .i64 (Iw (a:Int)) (Iw (b:Int)) w K:=
 Qsubs (by rw[show (a:Int) - (b:Int)=((a - b:Nat):Int) from by omega];exact h)
theorem ZjR {a:Nat} (h1:1<=a) (h2:a<9223372036854775807) (h:K (Iw ((a - 1:Nat):Int)) w):bi .sub .i64 (Iw (a:Int)) (Iw 1) w K:=Zdh (b:=1) h1 h2 h
theorem Zp5 {a b:Nat} (h1:a*b<9223372036854775807) (h:K (Iw ((a*b:Nat):Int)) w):bi .mul .i64 (Iw (a:Int)) (Iw (b:Int)) w K:=
 ZGn (by have:(0:Int)<=((a*b:Nat):Int):=(by omega);rw[Int.natCast_mul] at this;omega) (by have:((a*b:Nat):Int)<9223372036854775807:=(by omega);rw[Int.natCast_mul] at this;omega) (by rw[<-Int.natCast_mul];exact h)
theorem Zpd {k:IntKind} {a b:Nat} (h1:a<b->K Bt w) (h2:b<=a->K Bf w):bi .lss k (.int k (a:Int)) (.int k (b:Int)) w K:=
 Za7 (λc=>h1<|by omega) (λc=>h2<|by omega)
theorem Zt6 {n:Nat} (h:n<9223372036854775807):IntKind.u64.wrap (n:Int)=n:=by
 unfold IntKind.wrap;simp only[IntKind.bits,IntKind.signed];have:(n:Int) % 2 ^ 64=n:=Int.emod_eq_of_lt (by omega) (by omega);simp;omega
theorem Zqe {t:TypeId} {xo yo:Nat->Operand} {n:Nat} (h:n<9223372036854775807) (hk:K (Iw ((n / 2:Nat):Int)) w) :
  cvI .u64 (Iw (n:Int)) w λx w=>bO P .shr t (xo 0) (yo 0) x (.int .u64 1) w λy w=>cvI .i64 y w K:=by
 refine ZDy ?_;rw[Zt6 h];refine Yn (w':=w) (v:=.int .u64 ((n / 2:Nat):Int)) ?_ ?_
 .have hg:(eqGuard .shr t (xo 0) (yo 0) (.int .u64 (n:Int)) (.int .u64 1)).run P w=.ok () w:=rfl;simp only[Sem.run_bind,hg,Result.andThen_ok,binOp,Op.shift,Sem.run_pure,Int.reduceLT,if_false];have e1:min (1:Int).toNat IntKind.u64.bits=1:=by decide
  rw[e1];have e2:(n:Int).fdiv (2 ^ 1)=((n / 2:Nat):Int):=by
   rw[show (2:Int) ^ 1=2 from by decide,Int.fdiv_eq_ediv_of_nonneg _ (by decide)];omega
  rw[e2]
 .refine ZDy ?_;rw[Zdl (by omega) (by omega)];exact hk
end
section
variable {α:Type} {e w:World} {R:List HP} {K:KV} {size:Nat} {f:α->List Value} {v:Value} {l:List α} {t:TypeId}
theorem ZuH {i j:Nat} {x y:α} (hf:∀x,(f x).length=size) (hff:∀x,∀c∈f x,flat c=true) (hx:l[i]?=some x) (hy:l[j]?=some y) (hS:Sat e w<|Zz t size f v l::R)
  (hk:∀w',Sat e w' (Zz t size f v ((l.set i y).set j x)::R)->K undef w') :
  ixS size v (Iw (j:Int)) w λp _=>ldN size p w λa _=>ixS size v (Iw (i:Int)) w λq _=>ldN size q w λb _=>
   ixS size v (Iw (i:Int)) w λq _=>stN size q a w λ_ w=>ixS size v (Iw (j:Int)) w λp _=>stN size p b w K:=by
 have hi:i<l.length:=(List.getElem?_eq_some_iff.1 hx).1;have hj:j<l.length:=(List.getElem?_eq_some_iff.1 hy).1;exact Zw hS 0 rfl (λ_=>Zp) hf hy λp hp=>Ym hS 0 rfl hp (hf y)<|Zw hS 0 rfl (λ_=>Zp) hf hx λq hq=>Ym hS 0 rfl hq (hf x)<|ZdJ hS 0 rfl hf hi (x:=y) rfl (hff y) λw1 h1=>ZdJ h1 0 rfl hf (by rw[List.length_set];exact hj) (x:=x) rfl (hff x) λw2 h2=>hk _ h2
end
section
variable {α:Type}
theorem Zj2 {X Y:List α} {a:α} {n:Nat} (h:n=X.length):(X++a::Y)[n]?=some a:=by subst h;simp
theorem ZrB {X Y:List α} {a b:α} {n:Nat} (h:n=X.length):(X++a::Y).set n b=X++b::Y:=by subst h;simp
theorem ZiK {X M Y:List α} {a b:α} {n:Nat} (h:n=X.length+1+M.length):(X++a::(M++b::Y))[n]?=some b:=by
 rw[show X++a::(M++b::Y)=(X++a::M)++b::Y from by simp];exact Zj2 (by rw[h];simp;omega)
theorem Zsx {X M Y:List α} {a b c:α} {n:Nat} (h:n=X.length+1+M.length):(X++a::(M++b::Y)).set n c=X++a::(M++c::Y):=by
 rw[show X++a::(M++b::Y)=(X++a::M)++b::Y from by simp,ZrB (by rw[h];simp;omega)];simp
theorem Zsz {X M Y:List α} {a b:α} {i j:Nat} (h1:i=X.length) (h2:j=X.length+1+M.length):((X++a::(M++b::Y)).set i b).set j a=X++b::(M++a::Y):=by
 rw[ZrB h1,Zsx h2]
theorem Zp0 {X M Y:List α} {a b:α} {i j:Nat} (h1:i=X.length) (h2:j=X.length+1+M.length):((X++a::(M++b::Y)).set j a).set i b=X++b::(M++a::Y):=by
 rw[Zsx h2,ZrB h1]
theorem Zaq {l:List α} {i:Nat} {x:α} (h:l[i]?=some x):l.drop i=x::l.drop (i+1):=by
 obtain ⟨hi,he⟩:=List.getElem?_eq_some_iff.1 h;rw[<-he,<-List.drop_eq_getElem_cons]
end
end Go.E
end
section
namespace Go.Proofs.YtceipnkeijhebaaGreat
open Go Go.E Go.RowKit Go.WideShapes Go.Deep
set_option maxRecDepth 100000
structure Out where
 Class:Int
 Delay:Int
 Add:Int
 deriving DecidableEq
def Out.ns (x:Out):List Int:=[x.Class,x.Delay,x.Add]
abbrev Out.cs (x:Out):List Value:=Yi x.ns
structure Zsp where
 State:Int
 Class:Int
 Next:Int
 Sends:List Out
structure Fed where
 Kind:Int
 Look:Int
 Start:Int
 Rules:List Zsp
 Pubs:List Int
 Subs:List Int
 Init:List Out
structure Wd where
 Parents:List Int
 Feds:List Fed
 End:Int
structure Yg where
 State:Int
 Class:Int
 Next:Int
 sv:Value
 Sends:List Out
def Yg.cs (x:Yg):List Value:=[Iw x.State,Iw x.Class,Iw x.Next,x.sv]
def Yg.r (x:Yg):Zsp:=⟨x.State,x.Class,x.Next,x.Sends⟩
structure Zao where
 Kind:Int
 Look:Int
 Start:Int
 rv:Value
 Rules:List Yg
 pv:Value
 Pubs:List Int
 sv:Value
 Subs:List Int
 iv:Value
 Init:List Out
def Zao.cs (x:Zao):List Value:=[Iw x.Kind,Iw x.Look,Iw x.Start,x.rv,x.pv,x.sv,x.iv]
def Zao.f (x:Zao):Fed:=⟨x.Kind,x.Look,x.Start,x.Rules.map Yg.r,x.Pubs,x.Subs,x.Init⟩
structure WdX where
 pv:Value
 Parents:List Int
 fv:Value
 Feds:List Zao
 End:Int
def WdX.cs (x:WdX):List Value:=[x.pv,x.fv,Iw x.End]
def WdX.w (x:WdX):Wd:=⟨x.Parents,x.Feds.map Zao.f,x.End⟩
structure Zew (v:Value) (l:List Yg) (g:Hp):Prop where
 s:rdS 4 Yg.cs v l g
 e:∀r∈l,rdS 3 Out.cs r.sv r.Sends g
structure ZmQ (f:Zao) (g:Hp):Prop where
 rules:Zew f.rv f.Rules g
 pubs:rdS 1 (Ye .i64) f.pv f.Pubs g
 subs:rdS 1 (Ye .i64) f.sv f.Subs g
 init:rdS 3 Out.cs f.iv f.Init g
structure ZtG (x:WdX) (g:Hp):Prop where
 par:rdS 1 (Ye .i64) x.pv x.Parents g
 feds:rdS 7 Zao.cs x.fv x.Feds g
 fed:∀f∈x.Feds,ZmQ f g
def i64 (n:Int):Prop:=(Lit.int .i64 n).wf=true
def Out.wf (o:Out):Prop:=i64 o.Class/\i64 o.Delay/\i64 o.Add
def Yg.wf (r:Yg):Prop:=i64 r.State/\i64 r.Class/\i64 r.Next/\∀o∈r.Sends,o.wf
def Zao.wf (f:Zao):Prop:=i64 f.Kind/\i64 f.Look/\i64 f.Start/\(∀r∈f.Rules,r.wf)/\(∀n∈f.Pubs,i64 n)/\(∀n∈f.Subs,i64 n)/\∀o∈f.Init,o.wf
def WdX.wf (x:WdX):Prop:=(∀n∈x.Parents,i64 n)/\(∀f∈x.Feds,f.wf)/\i64 x.End
section
variable {H:Type} {enc:TypeId × Value->H} {P:Program} {w:World} {base:Nat} {spare:Nat->Bool} {held:Bool}
theorem ZKi {α:Type} {st t:TypeId} {s:Nat} {f:α->List Value} (Good:α->Prop) (hu:P.underlying st=some (.slice t)) (hsz:szD P t=s) (hs:0<s) (hf:∀x,(f x).length=s)
  (hdec:∀fuel cs x,DataW.trod enc P w base spare held fuel t cs=some x->∃a:α,f a=cs/\Good a) {fuel:Nat} {cs:List Value} {x:DataW H × List MemPlace}
  (h:DataW.trod enc P w base spare held fuel st cs=some x):∃(v:Value) (l:List α),cs=[v]/\(∀a∈l,Good a)/\∀g,Old w g->rdS s f v l g:=by
 rcases open_slice hu h with ⟨hcs,_⟩ | ⟨a',len,cap,m,k,D,Pl,hcs,hb,hl,hm,hmm,hx,hi⟩
 .exact ⟨_,[],hcs,by simp,λg _=>⟨none,0,rfl,Nat.le_refl _,λh=>absurd h<|by simp⟩⟩
 .rw[ZsI,hsz] at hi;have hlm:len<=m:=by rw[hmm];split <;> omega
  have hex:∀i,i<len->∃a:α,Good a/\w.cells? base (a'.add<|i*s) s=some (f a):=by
   intro i hil;obtain ⟨cs',h1,h2⟩:=hi i (by omega);obtain ⟨a,h3,h4⟩:=hdec _ _ _ h2;exact ⟨a,h4,by rw[h3];exact h1⟩
  rcases Nat.eq_zero_or_pos len with h0 | h0
  .subst h0;exact ⟨_,[],hcs,by simp,λg _=>⟨some a',cap,rfl,Nat.zero_le _,λh=>absurd h<|by simp⟩⟩
  obtain ⟨a0,_⟩:=hex 0 h0;obtain ⟨F,hF⟩:∃F:Nat->α,∀i,i<len->Good (F i)/\w.cells? base (a'.add<|i*s) s=some (f<|F i):=
   ⟨λi=>if h:i<len then (hex i h).choose else a0,λi h=>by simp only[dif_pos h];exact (hex i h).choose_spec⟩
  refine ⟨_,(List.range len).map F,hcs,λa ha=>?_,λg hg=>⟨some a',cap,by simp,by simpa using hl,λ_=>⟨a',rfl,?_⟩⟩⟩
  .obtain ⟨i,hi,rfl⟩:=List.mem_map.1 ha;exact (hF i<|by simpa using hi).1
  .have hblk:a'.block<w.heap.size:=by
    have:=Zuq hs (hF 0 h0).2
    simpa [Addr.add] using this
   refine Old.cells hblk (λi v hv=>?_) g hg;have hli:i<len*s:=by
    have h1:=(List.getElem?_eq_some_iff.1 hv).1;rw[Zy hf,List.length_map,List.length_range] at h1;exact h1
   have hq:i / s<len:=by rw[Nat.div_lt_iff_lt_mul hs];exact hli
   have hmod:=Nat.mod_lt i hs;obtain ⟨_,h2⟩:=hF (i / s) hq;obtain ⟨_,_,h3⟩:=World.cells?_some h2;have h4:=h3 (i % s) hmod;have hdm:i / s*s+i % s=i:=by rw[Nat.mul_comm];exact Nat.div_add_mod i s
   rw[E.add_add,hdm] at h4;rw[h4];have h5:=ZjU hf ((List.range len).map F) (i / s) (F<|i / s) (by simp[hq]);have h6:=congrArg (λl=>l[i % s]?) h5;simp only[List.getElem?_take,List.getElem?_drop,hdm,if_pos hmod] at h6;rw[<-h6];exact hv
def ZLB (P:Program) (t:TypeId) (l:List<|TypeId × Nat):Bool:=match P.underlying t with
 | some (.struct fs)=>fs.toList.map (λf=>(f.type,f.offset))==l
 | _=>false
theorem ZKH {t:TypeId} {l:List<|TypeId × Nat} (hB:ZLB P t l=true) {fuel:Nat} {cs:List Value} {x:DataW H × List MemPlace} (h:DataW.trod enc P w base spare held fuel t cs=some x) :
  cs.length=szD P t/\∀(i:Nat) (ty:TypeId) (off:Nat),l[i]?=some (ty,off)->∃n y,DataW.trod enc P w base spare held n ty ((cs.drop off).take<|szD P ty)=some y:=by
 unfold ZLB at hB;split at hB
 .rename_i fs hu;have hl:=beq_iff_eq.1 hB;obtain ⟨xs,n,_,_,hlen,hxl,hg⟩:=DataW.trod_struct hu h;refine ⟨hlen.trans<|ZsI t,λi ty off hi=>?_⟩;rw[<-hl,List.getElem?_map,Array.getElem?_toList] at hi;cases hf:fs[i]? with
  | none=>rw[hf] at hi;cases hi
  | some f=>
   rw[hf] at hi;simp only[Option.map_some,Option.some.injEq,Prod.mk.injEq] at hi;obtain ⟨rfl,rfl⟩:=hi;have h1:=hg i f hf;rw[ZsI] at h1;have h2:=(Array.getElem?_eq_some_iff.1 hf).1;cases hy:xs[i]? with
   | none=>rw[List.getElem?_eq_none_iff] at hy;omega
   | some y=>exact ⟨n,y,h1.trans hy⟩
 .cases hB
end
section
variable {H:Type} {enc:TypeId × Value->H} {w:World} {base:Nat} {spare:Nat->Bool} {held:Bool} {fuel:Nat} {cs:List Value} {x:DataW H × List MemPlace}
theorem ZKw (h:DataW.trod enc prog w base spare held fuel 3 cs=some x):∃n,cs=[Iw n]/\i64 n:=Zs8 (by kernel_rfl) h
theorem ZLS (h:DataW.trod enc prog w base spare held fuel 133 cs=some x):∃a:Out,Out.cs a=cs/\a.wf:=by
 obtain ⟨ns,h1,h2,h3⟩:=Zup 6 133 3 Z1V (by kernel_rfl) _ _ _ h
 match ns,h1 with
 | [a,b,c],_=>exact ⟨⟨a,b,c⟩,h2.symm,h3 a (by simp),h3 b (by simp),h3 c<|by simp⟩
theorem ZLp (h:DataW.trod enc prog w base spare held fuel 50 cs=some x):∃(v:Value) (l:List Out),cs=[v]/\(∀a∈l,a.wf)/\∀g,Old w g->rdS 3 Out.cs v l g:=
 ZKi (f:=Out.cs) (s:=3) Out.wf ZQM (by kernel_rfl) (by decide) (λ_=>rfl) (λ_ _ _ h=>ZLS h) h
theorem ZK1 (h:DataW.trod enc prog w base spare held fuel 22 cs=some x):∃(v:Value) (l:List Int),cs=[v]/\(∀a∈l,i64 a)/\∀g,Old w g->rdS 1 (Ye .i64) v l g:=
 ZKi (f:=Ye .i64) (s:=1) i64 ZxC (by kernel_rfl) (by decide) (λ_=>rfl) (λ_ cs _ h=>by obtain ⟨n,h1,h2⟩:=ZKw h;exact ⟨n,h1.symm,h2⟩) h
theorem ZLM (h:DataW.trod enc prog w base spare held fuel 54 cs=some x):∃a:Yg,Yg.cs a=cs/\a.wf/\∀g,Old w g->rdS 3 Out.cs a.sv a.Sends g:=by
 obtain ⟨h1,h2⟩:=ZKH (l:=[(3,0),(3,1),(3,2),(50,3)]) (by kernel_rfl) h;have hsz:szD prog 54=4:=by kernel_rfl
 have hs1:szD prog 3=1:=by kernel_rfl
 have hs2:szD prog 50=1:=by kernel_rfl
 rw[hsz] at h1
 match cs,h1 with
 | [a,b,c,d],_=>
  obtain ⟨_,_,k1⟩:=h2 0 _ _ rfl;obtain ⟨_,_,k2⟩:=h2 1 _ _ rfl;obtain ⟨_,_,k3⟩:=h2 2 _ _ rfl;obtain ⟨_,_,k4⟩:=h2 3 _ _ rfl;rw[hs1] at k1 k2 k3;rw[hs2] at k4;obtain ⟨n1,e1,f1⟩:=ZKw k1;obtain ⟨n2,e2,f2⟩:=ZKw k2;obtain ⟨n3,e3,f3⟩:=ZKw k3;obtain ⟨v,l,e4,f4,r4⟩:=ZLp k4;injection e1 with e1;injection e2 with e2;injection e3 with e3;injection e4 with e4;subst e1 e2 e3 e4;exact ⟨⟨n1,n2,n3,d,l⟩,rfl,⟨f1,f2,f3,f4⟩,r4⟩
theorem ZLC (h:DataW.trod enc prog w base spare held fuel 49 cs=some x):∃(v:Value) (l:List Yg),cs=[v]/\(∀a∈l,a.wf)/\∀g,Old w g->Zew v l g:=by
 obtain ⟨v,l,h1,h2,h3⟩:=ZKi (f:=Yg.cs) (s:=4) (λa:Yg=>a.wf/\∀g,Old w g->rdS 3 Out.cs a.sv a.Sends g) Z0T (by kernel_rfl) (by decide) (λ_=>rfl) (λ_ _ _ h=>ZLM h) h;exact ⟨v,l,h1,λa ha=>(h2 a ha).1,λg hg=>⟨h3 g hg,λr hr=>(h2 r hr).2 g hg⟩⟩
theorem ZL5 (h:DataW.trod enc prog w base spare held fuel 52 cs=some x):∃a:Zao,Zao.cs a=cs/\a.wf/\∀g,Old w g->ZmQ a g:=by
 obtain ⟨h1,h2⟩:=ZKH (l:=[(3,0),(3,1),(3,2),(49,3),(22,4),(22,5),(50,6)]) (by kernel_rfl) h;have hsz:szD prog 52=7:=by kernel_rfl
 have hs1:szD prog 3=1:=by kernel_rfl
 have hs2:szD prog 50=1:=by kernel_rfl
 have hs3:szD prog 49=1:=by kernel_rfl
 have hs4:szD prog 22=1:=by kernel_rfl
 rw[hsz] at h1
 match cs,h1 with
 | [a,b,c,d,e,f,i],_=>
  obtain ⟨_,_,k1⟩:=h2 0 _ _ rfl;obtain ⟨_,_,k2⟩:=h2 1 _ _ rfl;obtain ⟨_,_,k3⟩:=h2 2 _ _ rfl;obtain ⟨_,_,k4⟩:=h2 3 _ _ rfl;obtain ⟨_,_,k5⟩:=h2 4 _ _ rfl;obtain ⟨_,_,k6⟩:=h2 5 _ _ rfl;obtain ⟨_,_,k7⟩:=h2 6 _ _ rfl;rw[hs1] at k1 k2 k3;rw[hs3] at k4;rw[hs4] at k5 k6;rw[hs2] at k7;obtain ⟨n1,e1,f1⟩:=ZKw k1;obtain ⟨n2,e2,f2⟩:=ZKw k2;obtain ⟨n3,e3,f3⟩:=ZKw k3;obtain ⟨v4,l4,e4,f4,r4⟩:=ZLC k4;obtain ⟨v5,l5,e5,f5,r5⟩:=ZK1 k5;obtain ⟨v6,l6,e6,f6,r6⟩:=ZK1 k6;obtain ⟨v7,l7,e7,f7,r7⟩:=ZLp k7;injection e1 with e1;injection e2 with e2;injection e3 with e3;injection e4 with e4;injection e5 with e5;injection e6 with e6;injection e7 with e7;subst e1 e2 e3 e4 e5 e6 e7;exact ⟨⟨n1,n2,n3,d,l4,e,l5,f,l6,i,l7⟩,rfl,⟨f1,f2,f3,f4,f5,f6,f7⟩,λg hg=>⟨r4 g hg,r5 g hg,r6 g hg,r7 g hg⟩⟩
theorem ZLu {base:Nat} {v:Value} {d:DataW H} {p:List MemPlace} {cs:Array Value} (hv:v=.agg cs) (h:DataW.Trod enc prog w base spare held 25 v d p):∃a:WdX,v=.agg a.cs.toArray/\a.wf/\∀g,Old w g->ZtG a g:=by
 subst hv;obtain ⟨fuel,hf⟩:=h;obtain ⟨h1,h2⟩:=ZKH (l:=[(22,0),(23,1),(3,2)]) (by kernel_rfl) hf;have hsz:szD prog 25=3:=by kernel_rfl
 have hs1:szD prog 3=1:=by kernel_rfl
 have hs2:szD prog 22=1:=by kernel_rfl
 have hs3:szD prog 23=1:=by kernel_rfl
 rw[hsz] at h1;have hc:(Value.agg cs).cells.toList=cs.toList:=rfl;rw[hc] at h1 h2;obtain ⟨a,b,c,hl⟩:∃a b c,cs.toList=[a,b,c]:=by
  match hcs:cs.toList,h1 with
  | [a,b,c],_=>exact ⟨a,b,c,rfl⟩
 rw[hl] at h2;obtain ⟨_,_,k1⟩:=h2 0 _ _ rfl;obtain ⟨_,_,k2⟩:=h2 1 _ _ rfl;obtain ⟨_,_,k3⟩:=h2 2 _ _ rfl;rw[hs2] at k1;rw[hs3] at k2;rw[hs1] at k3;obtain ⟨v1,l1,e1,f1,r1⟩:=ZK1 k1;obtain ⟨v2,l2,e2,f2,r2⟩:=ZKi (f:=Zao.cs) (s:=7) (λa:Zao=>a.wf/\∀g,Old w g->ZmQ a g) ZxQ (by kernel_rfl) (by decide) (λ_=>rfl) (λ_ _ _ h=>ZL5 h) k2;obtain ⟨n3,e3,f3⟩:=ZKw k3;injection e1 with e1;injection e2 with e2;injection e3 with e3;subst e1 e2 e3;refine ⟨⟨a,l1,b,l2,n3⟩,?_,⟨f1,λf hf=>(f2 f hf).1,f3⟩,λg hg=>⟨r1 g hg,r2 g hg,λf hf=>(f2 f hf).2 g hg⟩⟩;congr 1;apply Array.ext';exact hl
end
end Go.Proofs.YtceipnkeijhebaaGreat
end
section
namespace Go.E
open Go.RowKit
section
variable {κ:Type} [DecidableEq κ] {P:Program} {kt:TypeId} {ns:κ->List Int} {s n m D:Nat}
theorem ZiB (d:Nat):∀l:List Int,((Yi l).zip<|Yi l).all (λ(x,y)=>Instr.sameBits d x y)=true
 | []=>rfl
 | a::l=>by
  have ih:=ZiB d l;simp only[Yi,List.map_cons,List.zip_cons_cons,List.all_cons] at ih ⊢;rw[ih];cases d <;> simp[Instr.sameBits]
theorem Zhl (hT:eqT P n kt=some s) (hag:Zb7 P kt=true) (hn:n<=10000) (hl:∀k,(ns k).length=s) (hinj:∀a b,(ns a==ns b)=decide (a=b)) (k:κ) :
  ∀(es:List MapEntry) (ks:List κ) (i:Nat) (w:World),es.map (·.key)=ks.map (λk=>Value.agg (Yi<|ns k).toArray)->
   (Instr.findAsking kt (.agg (Yi<|ns k).toArray) es i).run P w=.ok ((ks.findIdx? λx=>decide<|x=k).bind λj=>(es[j]?).map λe=>(i+j,e.val)) w
 | [],ks,i,w,h=>by
  cases ks with
  | nil=>rfl
  | cons=>cases h
 | e::es,ks,i,w,h=>by
  cases ks with
  | nil=>cases h
  | cons x ks=>
   simp only[List.map_cons,List.cons.injEq] at h;have he:=(Zn4 n kt s hT (10000 - n) (ns k) (ns x) (hl k) (hl x) w).2 hag;rw[show 10000 - n+n=10000 from by omega,hinj] at he;have he':(Op.equal kt (.agg (Yi<|ns k).toArray) (.agg (Yi<|ns x).toArray)).run P w=.ok (decide<|k=x) w:=he;simp only[Instr.findAsking,Sem.run_bind,h.1,he',Result.andThen_ok,List.findIdx?_cons];by_cases hx:x=k
   .subst hx;simp
   .have hk:¬k=x:=λe=>hx e.symm;simp only[hk,hx,decide_false,Bool.false_eq_true,if_false];rw[Zhl hT hag hn hl hinj k es ks (i+1) w h.2];cases ks.findIdx? (λx=>decide<|x=k) with
    | none=>rfl
    | some j=>simp[Nat.add_comm,Nat.add_left_comm]
theorem Zr0 {fs:Array Field} (hu:P.underlying kt=some (.struct fs)) (hT:eqT P n kt=some s) (hag:Zb7 P kt=true) (hn:n<=10000) (hl:∀k,(ns k).length=s) (hinj:∀a b,(ns a==ns b)=decide (a=b))
  (hc:∀(b:Bool) (k:κ) (w:World),(Instr.checkKey b 10000 kt (.agg (Yi<|ns k).toArray)).run P w=.ok () w):ZvT P kt (λk=>.agg (Yi<|ns k).toArray) where
 chk:=hc
 fnd k es ks h w:=by
  unfold Instr.findKey;have h1:=Zhl (w:=w) hT hag hn hl hinj k es ks 0 h;cases es with
  | nil=>
   cases ks with
   | nil=>simp only[Sem.run_bind,Yb hu,Result.andThen_ok,Instr.findNow,Sem.run_pure];rfl
   | cons=>cases h
  | cons e es=>
   have h2:Instr.findNow (.struct fs) (.agg (Yi<|ns k).toArray) (e::es) 0=none:=by
    unfold Instr.findNow;simp[Instr.sameNow]
   simp only[Sem.run_bind,Yb hu,Result.andThen_ok,h2,h1,Nat.zero_add]
 sam k:=by
  show Instr.sameBits (9999+1) _ _=true;simp only[Instr.sameBits,beq_self_eq_true,Bool.true_and];exact ZiB 9999<|ns k
end
section
variable {κ ν:Type} [DecidableEq κ] {P:Program} {kt vt t:TypeId} {kf:κ->Value} {vf:ν->Value} {zv:Value} {e w:World} {L:List HP} {K:KV} {b:Nat} {m:List<|κ × ν}
def dlA (m:List<|κ × ν) (k:κ):List (κ × ν):=match (m.map (·.1)).findIdx? λx=>decide (x=k) with
 | some i=>m.eraseIdx i
 | none=>m
theorem ZGa {ty:TypeId} (KT:ZvT P kt kf) (MT:Zx6 P t kt vt zv) {x:TypeId} (hS:Sat e w<|Zaj kf vf b m::L) (k:κ)
  (hk:∀w',Sat e w' (Zaj kf vf b (dlA m k)::L)->K (.tuple #[]) w'):dlM P #[t,x] ty (.map<|some b) (kf k) w K:=by
 obtain ⟨h1,h2,d,s1,s2,⟨es,clock,hb,hm,hbo⟩,r⟩:=hS.mem;have hh:w.heap[b]?=some (.map es clock):=s1 _ _ hb;have hS0:Sat e w ((λg=>g b=some (.map es clock))::L):=⟨hS.os,hS.tape,hS.output,hS.drawn,hS.size,h1,h2,d,s1,s2,hb,r⟩;have hf:=KT.fnd k es.toList (m.map (·.1)) (ZlZ hm) w;cases hx:(m.map (·.1)).findIdx? (λx=>decide<|x=k) with
 | none=>
  rw[hx] at hf;simp only[Option.bind_none] at hf;refine Yn (w':=World.setB w b (.map es clock)) (v:=.tuple #[]) ?_<|hk _ ?_
  .unfold Builtin.delete_;simp only[List.getElem?_toArray,List.getElem?_cons_zero,List.getElem?_cons_succ,Sem.run_bind,Yb MT.und,Result.andThen_ok,Zbf hh,KT.chk,hf,setObj,Sem.run,hh,World.setB,Sem.run_pure]
  .refine hS0.setB.imp λg hg=>⟨_,_,hg,?_,hbo⟩;rw[show dlA m k=m from by unfold dlA;rw[hx]];exact hm
 | some i=>
  rw[hx] at hf;simp only[Option.bind_some] at hf;obtain ⟨hi,_,_⟩:=List.findIdx?_eq_some_iff_getElem.1 hx;simp only[List.length_map] at hi;have hle:es.toList.length=m.length:=by simpa using congrArg List.length hm
  have hie:i<es.toList.length:=by omega
  rw[List.getElem?_eq_getElem hie] at hf;simp only[Option.map_some] at hf;have he:(es.eraseIdxIfInBounds i).toList=es.toList.eraseIdx i:=by
   unfold Array.eraseIdxIfInBounds;rw[dif_pos (by simpa using hie),Array.toList_eraseIdx]
  refine Yn (w':=World.setB w b (.map (es.eraseIdxIfInBounds i) clock)) (v:=.tuple #[]) ?_<|hk _ ?_
  .unfold Builtin.delete_;simp only[List.getElem?_toArray,List.getElem?_cons_zero,List.getElem?_cons_succ,Sem.run_bind,Yb MT.und,Result.andThen_ok,Zbf hh,KT.chk,hf,setObj,Sem.run,hh,World.setB,Sem.run_pure]
  .refine hS0.setB.imp λg hg=>⟨_,_,hg,?_,?_,?_⟩
   .rw[show dlA m k=m.eraseIdx i from by unfold dlA;rw[hx],he,List.eraseIdx_map_c,hm,<-List.eraseIdx_map_c]
   .rw[he];exact hbo.1.sublist<|List.eraseIdx_sublist _ _
   .intro x hx;rw[he] at hx;exact hbo.2 x<|List.mem_of_mem_eraseIdx hx
theorem Zj8:∀{m:List<|κ × ν},Znz m->∀k,dlA m k=m.filter λp=>!decide (p.1=k)
 | [],_,k=>rfl
 | p::m,h,k=>by
  unfold Znz at h;rw[List.map_cons,List.nodup_cons] at h;by_cases hp:p.1=k
  .have h1:dlA (p::m) k=m:=by unfold dlA;simp[List.findIdx?_cons,hp]
   rw[h1,List.filter_cons];simp only[hp,decide_true,Bool.not_true,Bool.false_eq_true,if_false];symm;apply List.filter_eq_self.2;intro q hq;have:¬q.1=k:=λe=>h.1 (by rw[hp,<-e];exact List.mem_map.2 ⟨q,hq,rfl⟩);simp[this]
  .have ih:=Zj8 (m:=m) h.2 k;have h1:dlA (p::m) k=p::dlA m k:=by
    unfold dlA;rw[List.map_cons,List.findIdx?_cons];simp only[hp,decide_false,Bool.false_eq_true,if_false];cases (m.map (·.1)).findIdx? (λx=>decide<|x=k) with
    | none=>rfl
    | some i=>rfl
   rw[h1,ih,List.filter_cons];simp[hp]
theorem Znz.dl {m:List<|κ × ν} (h:Znz m) (k:κ):Znz (dlA m k):=by
 rw[Zj8 h];exact (List.Sublist.map _ List.filter_sublist).nodup h
theorem ZEP {m:List<|κ × ν} (h:Znz m) (k j:κ):lkA (dlA m k) j=if j=k then none else lkA m j:=by
 rw[Zj8 h];unfold lkA;rw[List.find?_filter];by_cases hj:j=k
 .subst hj;rw[if_pos rfl];simp
 .rw[if_neg hj];congr 1;congr 1;funext p;by_cases hp:p.1=j
  .have:¬p.1=k:=λe=>hj<|hp.symm.trans e;simp[hp,hj]
  .simp[hp]
end
end Go.E
end
section
namespace Go.Proofs.YtceipnkeijhebaaGreat
open Go Go.E
set_option maxRecDepth 100000
variable {e w:World} {L R:List HP} {K:KV} {S:HP}
def ZkT (ps:List Int):Prop:=1<=ps.length/\ps.length<=16/\∀(i:Nat) p,ps[i]?=some p->-1<=p/\p<i
def ZuI (o:Out):Prop:=0<=o.Class/\o.Class<16/\0<=o.Delay/\o.Delay<1048577/\0<=o.Add/\o.Add<1000
def ZrU (r:Zsp):Prop:=0<=r.State/\r.State<8/\0<=r.Next/\r.Next<8/\0<=r.Class/\r.Class<16/\r.Sends.length<=3/\∀o∈r.Sends,ZuI o
def ZFW (r:Zsp):Int × Int:=(r.State,r.Class)
def Zc4 (l:List Zsp):Prop:=l.length<=32/\(∀r∈l,ZrU r)/\(l.map ZFW).Nodup
def ZaF (most:Int):Int->List Int->Prop
 | _,[]=>True
 | lo,c::l=>lo<c/\c<most/\ZaF most c l
def ZbW (f:Fed):List Out->Int
 | []=>0
 | o::l=>if o.Class∉f.Pubs then 81 else if o.Delay<f.Look then 80 else ZbW f l
def Zca (f:Fed) (most:Int):List Zsp->Int
 | []=>0
 | r::l=>if most<=r.Class then 81 else if ZbW f r.Sends≠0 then ZbW f r.Sends else Zca f most l
def ZlW (f:Fed):Prop:=f.Init.length<=4/\∀o∈f.Init,o.Class∈f.Pubs/\0<=o.Delay/\o.Delay<=1099511627776/\0<=o.Add/\o.Add<=999
open Classical in
noncomputable def Zs3 (f:Fed) (most:Int):List Int:=[if 0<=f.Kind/\f.Kind<=1 then 0 else 1,if 1<=f.Look/\f.Look<=1048576 then 0 else 80,if 0<=f.Start/\f.Start<=7 then 0 else 70,
 if Zc4 f.Rules then 0 else 70,if ZaF most (-1) f.Pubs/\ZaF most (-1) f.Subs then 0 else 81,Zca f most f.Rules,if ZlW f then 0 else 82]
def Zkm (l:List Int):Int:=(l.find? λn=>decide<|n≠0).getD 0
theorem Zbt (a:Int) (l:List Int):Zkm (a::l)=if a=0 then Zkm l else a:=by
 unfold Zkm;by_cases h:a=0 <;> simp[h]
theorem ZjN:Zkm []=0:=rfl
noncomputable def Zre (f:Fed) (most:Int):Int:=Zkm<|Zs3 f most
open Classical in
noncomputable def ZhY (ps:List Int):Int:=if ZkT ps then 0 else 50
noncomputable def Zm3 (most:Int):Nat->List Fed->Int × Int
 | _,[]=>(-1,0)
 | i,f::l=>if Zre f most≠0 then ((i:Int),Zre f most) else Zm3 most (i+1) l
noncomputable def Za4 (x:Wd):Int × Int:=
 if ZhY x.Parents≠0 then (-1,ZhY x.Parents)
 else if ¬((0<=x.End/\x.End<=1099511627776)/\(1<=(x.Feds.length:Int)/\(x.Feds.length:Int)<=8)) then (-1,1)
 else Zm3 x.Parents.length 0 x.Feds
theorem Zet {n a b:Int} (hk:K (.bool<|decide<|a<=n/\n<=b) w):Cl prog 70 #[Iw n,Iw a,Iw b] w K:=by
 refine Zh6 ?_;unfold Zjk;by_cases c1:a<=n
 .by_cases c2:n<=b
  .rw[decide_eq_true ⟨c1,c2⟩] at hk;exact Qget<|Ze<|Ze<|Ze<|ZCA (by omega)<|Yv hk
  .rw[decide_eq_false λh=>c2 h.2] at hk;exact Qget<|Ze<|Ze<|Ze<|ZCF (by omega)<|Yv hk
 .rw[decide_eq_false λh=>c1 h.1] at hk;exact Qgef<|Zu<|Zu<|Zd<|Yd hk
theorem ZjW {n m:Int} (hn:i64 n) (h0:0<=m) (h1:m<=4611686018427387904) (hk:K (.bool<|decide<|0<=n/\n<m) w):Cl prog 183 #[Iw n,Iw m] w K:=by
 refine Zj0 ?_;unfold ZmF;have hn':=ZmY.of_wf hn;have hm:ZmY m:=by unfold ZmY;omega
 refine ZDy<|ZDy ?_;rw[Zot hn',Zot hm,if_pos h0];unfold ZmY at hn';by_cases c1:0<=n
 .rw[if_pos c1];by_cases c2:n<m
  .rw[decide_eq_true ⟨c1,c2⟩] at hk;exact Ztt c2 hk
  .rw[decide_eq_false λh=>c2 h.2] at hk;exact Ze7 c2 hk
 .rw[if_neg c1,decide_eq_false λh=>c1 h.1] at*;exact Qltf hk
theorem ZyK {v:Value} {l:List Int} {x:Int} (i:Nat) (hi:L[i]?=some S) (hS:Sat e w L) (hr:∀g,S g->rdS 1 (Ye .i64) v l g) (hl:l.length<=1000000) (h1:x∈l->∀j:Nat,K (Iw j) w) (h2:x∉l->K (Iw (-1)) w):Cl prog 181 #[v,Iw x] w K:=by
 refine Zdb ?_;unfold ZcG;refine Zt hS i hi hr<|Zdk (λq t8 w'=>∃j:Nat,j<=l.length/\t8=Iw j/\q=l.length - j/\x∉l.take j/\w'=w) l.length ⟨0,Nat.zero_le _,rfl,rfl,by simp,rfl⟩ ?_;rintro q _ w' g ⟨j,hj,rfl,rfl,hno,rfl⟩ hg;refine Za7 (λc=>Zi ?_)<|λc=>Zf ?_
 .obtain ⟨y,hy⟩:=Zk (l:=l) (j:=j) (by omega);refine Zw hS i hi hr (λ_=>rfl) hy λa ha=>Yt hS i hi ha (v:=Iw y) rfl<|ZoR (λc2=>Zi ?_)<|λc2=>Zf ?_
  .exact h1 (c2▸List.mem_of_getElem? hy) j
  .refine Qincs<|hg _ _ _ (by omega) ⟨j+1,by omega,rfl,rfl,?_,rfl⟩;rw[List.take_add_one,hy];simp[hno,c2]
 .have ej:j=l.length:=by omega
  rw[ej,List.take_length] at hno;exact h2 hno
theorem ZnP {v:Value} {l:List Int} {x:Int} (i:Nat) (hi:L[i]?=some S) (hS:Sat e w L) (hr:∀g,S g->rdS 1 (Ye .i64) v l g) (hl:l.length<=1000000) (hk:K (.bool<|decide<|x∈l) w):Cl prog 131 #[v,Iw x] w K:=by
 refine ZcF<|ZyK i hi hS hr hl (λh j=>?_)<|λh=>?_
 .rw[decide_eq_true h] at hk;exact Qget hk
 .rw[decide_eq_false h] at hk;exact Qgef hk
abbrev unV (c d:Nat):Value:=.func (.func 128) #[] #[pt c,pt d]
def UN (c d:Nat) (b:Bool) (er:Int):HP:=Yh [blk c 4 [.bool b],blk d 30 [Iw er]]
theorem Zdj {b:Bool} {er:Int} (hS:Sat e w L) (hk:∀c d w',Sat e w' (UN c d b er::L)->K (unV c d) w'):Cl prog 69 #[.bool b,Iw er] w K:=by
 refine Zhy ?_;unfold Ziv;exact Yp (cs:=[.bool b]) hS rfl λc w1 h1=>Yp (cs:=[Iw er]) h1 rfl λd w2 h2=>hk _ _ _<|Sat.join (l':=[_,_]) h2.swap
theorem Zcw {c d:Nat} {b:Bool} {er:Int} (i:Nat) (hi:L[i]?=some (UN c d b er)) (hS:Sat e w L) (hk:K (Iw<|if b=true then 0 else er) w):clV prog (unV c d) #[] w K:=by
 refine ⟨_,_,_,rfl,ZfU (t0:=pt c) (t1:=pt d) ?_⟩;unfold Zfn;have h1:=(hS.pick i hi).split;refine Zb h1 0 rfl rfl ?_;cases b with
 | true=>exact Zi hk
 | false=>exact Zf (Zb h1 1 rfl rfl hk)
theorem ZqN {v:Value} {fs:List Value} {Es:List Int} (i:Nat) (hi:L[i]?=some S) (hS:Sat e w L) (hr:∀g,S g->rdS 1 (λv=>[v]) v fs g) (hl:fs.length<=1000) (hE:Es.length=fs.length)
  (hc:∀(j:Nat) fv E,fs[j]?=some fv->Es[j]?=some E->(∀E'∈Es.take j,E'=0)->∀(w:World) (K:KV),Sat e w L->(∀w',Sat e w' L->K (Iw E) w')->clV prog fv #[] w K)
  (hk:∀w',Sat e w' L->K (Iw<|Zkm Es) w'):Cl prog 66 #[v] w K:=by
 refine ZiT ?_;unfold Zkn;refine Zt hS i hi hr<|Zdk (λq t8 w'=>∃j:Nat,j<=fs.length/\t8=Iw j/\q=fs.length - j/\(∀E'∈Es.take j,E'=0)/\Sat e w' L) fs.length ⟨0,Nat.zero_le _,rfl,rfl,by simp,hS⟩ ?_;rintro q _ w' g ⟨j,hj,rfl,rfl,hno,h1⟩ hg;have hz:∀(l1 l2:List Int),(∀E'∈l1,E'=0)->Zkm (l1++l2)=Zkm l2:=by
  intro l1 l2 h;induction l1 with
  | nil=>rfl
  | cons a l1 ih=>rw[List.cons_append,Zbt,if_pos<|h a (by simp),ih λx hx=>h x (by simp[hx])]
 refine Za7 (λc=>Zi ?_)<|λc=>Zf ?_
 .obtain ⟨fv,hf⟩:=Zk (l:=fs) (j:=j) (by omega);obtain ⟨E,hE'⟩:=Zk (l:=Es) (j:=j) (by omega);refine Zw h1 i hi hr (λ_=>rfl) hf λa ha=>Yt h1 i hi ha (v:=fv) rfl<|hc j fv E hf hE' hno _ _ h1 λw2 h2=>?_;have hsp:Es=Es.take j++E::Es.drop (j+1):=by
   rw[<-Zaq hE',List.take_append_drop]
  refine ZrP (λc2=>Zi ?_)<|λc2=>Zf ?_
  .have:=hk _ h2;rw[hsp,hz _ _ hno,Zbt,if_neg c2] at this;exact this
  .refine Qincs<|hg _ _ _ (by omega) ⟨j+1,by omega,rfl,rfl,?_,h2⟩;intro E' hE2;rw[List.take_add_one,hE'] at hE2;rcases List.mem_append.1 hE2 with h | h
   .exact hno E' h
   .simp at h;rw[h];exact c2
 .have ej:j=fs.length:=by omega
  have:=hk _ h1;rw[ej,<-hE,List.take_length] at hno;rw[<-List.append_nil Es,hz _ _ hno] at this;exact this
end Go.Proofs.YtceipnkeijhebaaGreat
namespace Go.Proofs.YtceipnkeijhebaaGreat
open Go Go.E
set_option maxRecDepth 100000
variable {e w:World} {L R:List HP} {K:KV} {S:HP}
theorem ZGf {κ ν:Type} [DecidableEq κ] {kf:κ->Value} {vf:ν->Value} {t kt vt:TypeId} {zv:Value} {b:Nat} {m:List<|κ × ν} (KT:ZvT prog kt kf) (MT:Zx6 prog t kt vt zv) (hS:Sat e w L) (i:Nat) (hi:L[i]?=some (Zaj kf vf b m)) (k:κ)
  (hk:K (match lkA m k with | some x=>vf x | none=>zv) w):lkM prog t (.map<|some b) (kf k) false w K:=by
 obtain ⟨es,clock,h1,h2,h3⟩:=hS.getMap i hi;obtain ⟨inf,hi1,hi2⟩:=MT.zero;refine Yn (w':=w) ?_ hk;have hf:=KT.fnd k es.toList (m.map (·.1)) (ZlZ h2) w;unfold Instr.lookup;simp only[Sem.run_bind,Yb MT.und,Result.andThen_ok,Zbf h1,Sem.run_pure,KT.chk,hf];have hl:=ZlY m k;cases hx:(m.map (·.1)).findIdx? (λx=>decide<|x=k) with
 | none=>
  rw[hx] at hl;simp only[Option.bind_none] at hl ⊢;rw[<-hl];simp only[Sem.run_bind,Zdn hi1 hi2,Result.andThen_ok,Sem.run_pure];rfl
 | some j=>
  rw[hx] at hl;simp only[Option.bind_some] at hl ⊢;have hv:=ZxB h2 j;have hjl:j<m.length:=by
   obtain ⟨hj,_⟩:=List.findIdx?_eq_some_iff_getElem.1 hx
   simpa using hj
  rw[List.getElem?_eq_getElem hjl] at hv hl;simp only[Option.map_some] at hv hl;obtain ⟨e',he,hev⟩:=Option.map_eq_some_iff.1 hv;rw[he,<-hl];simp only[Option.map_some,hev];rfl
theorem Zkz {v:Value} {l:List Int} (i:Nat) (hi:L[i]?=some S) (hS:Sat e w L) (hr:∀g,S g->rdS 1 (Ye .i64) v l g) (hk:K (Iw<|ZhY l) w):Cl prog 68 #[v] w K:=by
 refine Zk1 ?_;unfold ZnC;have hbad:¬ZkT l->K (Iw 50) w:=λh=>by unfold ZhY at hk;rw[if_neg h] at hk;exact hk
 refine Zt hS i hi hr ?_;by_cases c1:1<=l.length
 .by_cases c2:l.length<=16
  .refine Qltf<|Zj<|Ze<|Qgtf<|Yd<|Zf<|Zt hS i hi hr<|Zdk (λq t8 w'=>∃j:Nat,j<=l.length/\t8=Iw j/\q=l.length - j/\(∀(i:Nat) p,i<j->l[i]?=some p->-1<=p/\p<i)/\w'=w) l.length ⟨0,Nat.zero_le _,rfl,rfl,λ_ _ h=>absurd h (by omega),rfl⟩ ?_;rintro q _ w' g ⟨j,hj,rfl,rfl,hno,rfl⟩ hg;refine Za7 (λc=>Zi ?_)<|λc=>Zf ?_
   .obtain ⟨y,hy⟩:=Zk (l:=l) (j:=j) (by omega);refine Zw hS i hi hr (λ_=>rfl) hy λa ha=>Yt hS i hi ha (v:=Iw y) rfl ?_;by_cases c3:y < -1
    .exact Qltt<|Zd<|Zd<|Zd<|Yv<|Zi (hbad λh=>by have:=h.2.2 j y hy;omega)
    .by_cases c4:(j:Int)<=y
     .exact Qltf<|Zj<|Zj<|Ze<|Qget<|Yd<|Zi (hbad λh=>by have:=h.2.2 j y hy;omega)
     .refine Qltf<|Zj<|Zj<|Ze<|Qgef<|Yd<|Zf<|Qincs<|hg _ _ _ (by omega) ⟨j+1,by omega,rfl,rfl,λi p hi hp=>?_,rfl⟩;by_cases h:i=j
      .subst h;rw[hy] at hp;cases hp;omega
      .exact hno i p (by omega) hp
   .have ej:j=l.length:=by omega
    unfold ZhY at hk;rw[if_pos ⟨c1,c2,λi p hp=>hno i p (by have:=(List.getElem?_eq_some_iff.1 hp).1;omega) hp⟩] at hk;exact hk
  .exact Qltf<|Zj<|Ze<|Qgtt<|Yd<|Zi<|hbad λh=>c2 h.2.1
 .exact Qltt<|Zd<|Zd<|Yv<|Zi<|hbad λh=>c1 h.1
theorem ZFA {o:Out} (ho:o.wf) (hS:Sat e w R) (hk:∀w',Sat e w' R->∀b:Bool,(b=true↔¬ZuI o)->K (.bool b) w'):clV prog (.func (.func 182) #[] #[]) #[.agg o.cs.toArray] w K:=by
 refine ⟨_,_,_,rfl,Zh0 (t0:=.agg o.cs.toArray) ?_⟩;unfold Zix;obtain ⟨w1,w2,w3⟩:=ho;refine Yp (cs:=o.cs) hS rfl λb2 w1' h1=>?_;have hk:=hk w1' h1.drop;refine Za<|Zb h1 0 rfl (v:=Iw o.Class) rfl<|ZjW w1 (by decide) (by decide) ?_;refine Zk5 ?_;by_cases c1:0<=o.Class/\o.Class<16
 .rw[decide_eq_true c1,Bool.not_true];refine Ze<|Za<|Ze<|Zb h1 0 rfl (v:=Iw o.Delay) rfl<|Zj<|ZjW w2 (by decide) (by decide) ?_;refine Zj<|Zk5 ?_;by_cases c2:0<=o.Delay/\o.Delay<1048577
  .rw[decide_eq_true c2,Bool.not_true];refine Yd<|Ze<|Za<|Ze<|Zb h1 0 rfl (v:=Iw o.Add) rfl<|Zj<|ZjW w3 (by decide) (by decide) ?_;refine Zj<|Zk5<|Yd<|hk _ ?_;unfold ZuI;by_cases c3:0<=o.Add/\o.Add<1000
   .simp[c1,c2,c3]
   .rw[decide_eq_false c3];simp only[Bool.not_false,true_iff];exact λh=>c3 h.2.2.2.2
  .rw[decide_eq_false c2,Bool.not_false];exact Yd<|Zd<|Zd<|Zd<|Zd<|Yv<|hk _ ⟨λ_ (h:ZuI o)=>c2 ⟨h.2.2.1,h.2.2.2.1⟩,λ_=>rfl⟩
 .rw[decide_eq_false c1,Bool.not_false];exact Zd<|Zd<|Zd<|Zd<|Yv<|Zd<|Zd<|Zd<|Zd<|Yv<|hk _ ⟨λ_ h=>c1 ⟨h.1,h.2.1⟩,λ_=>rfl⟩
theorem Zi6 {v fv:Value} {l:List Out} {p:Out->Prop} (i:Nat) (hi:L[i]?=some S) (hS:Sat e w L) (hr:∀g,S g->rdS 3 Out.cs v l g) (hl:l.length<=1000000)
  (hp:∀o∈l,∀(w:World) (K:KV),Sat e w L->(∀w',Sat e w' L->∀b:Bool,(b=true↔p o)->K (.bool b) w')->clV prog fv #[.agg o.cs.toArray] w K)
  (hk:∀w',Sat e w' L->∀b:Bool,(b=true↔∃o∈l,p o)->K (.bool b) w'):Cl prog 135 #[v,fv] w K:=by
 refine Zbh ?_;unfold ZaA;refine ZbB ?_;unfold ZaQ;refine Zt hS i hi hr<|Zdk (λq t8 w=>∃j:Nat,j<=l.length/\t8=Iw j/\q=l.length - j/\(∀o∈l.take j,¬p o)/\Sat e w L) l.length ⟨0,Nat.zero_le _,rfl,rfl,by simp,hS⟩ ?_;rintro q _ w g ⟨j,hj,rfl,rfl,hno,h1⟩ hg;refine Za7 (λc=>Zi ?_)<|λc=>Zf ?_
 .obtain ⟨o,ho⟩:=Zk (l:=l) (j:=j) (by omega);refine Zw h1 i hi hr (λ_=>rfl) ho λa ha=>Ym h1 i hi ha rfl<|hp o (List.mem_of_getElem? ho) _ _ h1 λw2 h2 b hb=>?_;cases b with
  | true=>exact Zi (Qget<|hk _ h2 true ⟨λ_=>⟨o,List.mem_of_getElem? ho,hb.1 rfl⟩,λ_=>rfl⟩)
  | false=>
   refine Zf<|Qincs<|hg _ _ _ (by omega) ⟨j+1,by omega,rfl,rfl,λy hy=>?_,h2⟩;rw[List.take_add_one,ho] at hy;rcases List.mem_append.1 hy with h | h
   .exact hno y h
   .simp at h;subst h;exact λh=>by have:=hb.2 h;cases this
 .have ej:j=l.length:=by omega
  rw[ej,List.take_length] at hno;exact Qgef<|hk _ h1 false ⟨(λh=>by cases h),λ⟨o,ho,hpo⟩=>absurd hpo<|hno o ho⟩
structure OnK where
 s:Int
 c:Int
 deriving DecidableEq
def OnK.ns (x:OnK):List Int:=[x.s,x.c]
def kfO (x:OnK):Value:=.agg (Yi x.ns).toArray
def vfB (b:Bool):Value:=.bool b
theorem OnK.eq_ns (a b:OnK):(a.ns==b.ns)=decide (a=b):=by
 rw[Bool.eq_iff_iff];obtain ⟨a0,a1⟩:=a;obtain ⟨b0,b1⟩:=b;simp[OnK.ns]
theorem ZuK:ZvT prog 267 kfO:=
 Zr0 (κ:=OnK) (ns:=OnK.ns) (n:=6) Tryz.underlying267 Z11 Z1N (by decide) (λ_=>rfl) OnK.eq_ns (λb k w=>by cases b <;> kernel_rfl)
def onK (r:Yg):OnK:=⟨r.State,r.Class⟩
theorem Zjx {l:List Yg}:Zc4 (l.map Yg.r)↔l.length<=32/\(∀r∈l,ZrU r.r)/\(l.map onK).Nodup:=by
 unfold Zc4;rw[List.length_map,List.map_map];refine and_congr Iff.rfl<|and_congr ⟨λh r hr=>h _<|List.mem_map_of_mem hr,λh r hr=>?_⟩ ?_
 .obtain ⟨x,hx,rfl⟩:=List.mem_map.1 hr;exact h x hx
 .rw[List.nodup_iff_pairwise_ne,List.nodup_iff_pairwise_ne,List.pairwise_map,List.pairwise_map];constructor
  .refine λh=>h.imp λhne e=>hne ?_;simp only[onK,OnK.mk.injEq] at e;simp only[Function.comp,ZFW,Yg.r,e]
  .refine λh=>h.imp λhne e=>hne ?_;simp only[Function.comp,ZFW,Yg.r,Prod.mk.injEq] at e;simp only[onK,e]
theorem Zxg {α β:Type} {f:α->β} {l:List α} {j:Nat} {x:α} (h:(l.map f).Nodup) (hx:l[j]?=some x):f x∉(l.take j).map f:=by
 have hsp:l=l.take j++x::l.drop (j+1):=by rw[<-Zaq hx,List.take_append_drop]
 rw[hsp,List.map_append,List.map_cons,List.nodup_append] at h;intro hm;exact h.2.2 _ hm _ List.mem_cons_self rfl
theorem Ztv {α β:Type} {f:α->β} {l:List α} {j:Nat} {x:α} (h:((l.take j).map f).Nodup) (hx:l[j]?=some x) (hn:f x∉(l.take j).map f):((l.take<|j+1).map f).Nodup:=by
 rw[List.take_add_one,hx,Option.toList_some,List.map_append,List.nodup_append];refine ⟨h,by simp,λa ha b hb=>?_⟩;simp at hb;subst hb;exact λe=>hn<|e▸ha
open Classical in
theorem Zom {v:Value} {l:List Yg} (i:Nat) (hi:L[i]?=some S) (hS:Sat e w L) (hr:∀g,S g->Zew v l g) (hwf:∀r∈l,r.wf) (hl:∀r∈l,r.Sends.length<=1000000) (hk:∀w',Sat e w' L->K (Iw<|if Zc4 (l.map Yg.r) then 0 else 70) w') :
  Cl prog 134 #[v] w K:=by
 refine ZjH ?_;unfold Zmi;have hbad:¬Zc4 (l.map Yg.r)->∀w',Sat e w' L->K (Iw 70) w':=λh w' h'=>by have:=hk w' h';rw[if_neg h] at this;exact this
 refine Zt hS i hi (λ_ h=>(hr _ h).s) ?_;by_cases c1:32<l.length
 .exact Qgtt<|Zi<|hbad (λh=>by have:=h.1;rw[List.length_map] at this;omega) _ hS
 refine Qgtf<|Zf<|Zfx kfO vfB hS λmb w1 h1=>Zt h1 (i+1) hi (λ_ h=>(hr _ h).s) ?_;refine Zdk (λq t14 w=>∃(j:Nat) (m:List<|OnK × Bool),j<=l.length/\t14=Iw j/\q=l.length - j/\(∀r∈l.take j,ZrU r.r)/\((l.take j).map onK).Nodup/\Znz m/\(∀k,lkA m k=if k∈(l.take j).map onK then some true else none)/\Sat e w (Zaj kfO vfB mb m::L)) l.length
  ⟨0,[],Nat.zero_le _,rfl,rfl,by simp,by simp,by simp[Znz],by simp[lkA],h1⟩ ?_
 rintro q _ w g ⟨j,m,hj,rfl,rfl,hall,hnd,hu,hlk,h2⟩ hg;refine Za7 (λc=>Zi ?_)<|λc=>Zf ?_
 .obtain ⟨r,hrj⟩:=Zk (l:=l) (j:=j) (by omega);have hrm:=List.mem_of_getElem? hrj;obtain ⟨f1,f2,f3,f4⟩:=hwf r hrm;have hi1:(Zaj kfO vfB mb m::L)[i+1]?=some S:=hi;refine Zw h2 (i+1) hi1 (λ_ h=>(hr _ h).s) (λ_=>rfl) hrj λa ha=>Ym h2 (i+1) hi1 ha rfl ?_;rw[Z1c,Z1B];refine Yp (cs:=[Iw 0,Iw 0,Iw 0,Sn]) h2 rfl λt w3 h3=>?_;have hflat:∀c∈r.cs,flat c=true:=by
   obtain ⟨g,hg,_⟩:=hS.get i hi;obtain ⟨A,c',hsv,_⟩:=(hr g hg).e r hrm;intro c hc;simp only[Yg.cs,List.mem_cons,List.not_mem_nil,or_false] at hc;rcases hc with rfl | rfl | rfl | rfl
   .rfl
   .rfl
   .rfl
   .rw[hsv];rfl
  refine Zq h3 0 rfl (vs:=r.cs) rfl rfl (by simp) hflat (cs':=r.cs) (by rfl) λw4 h4=>?_;refine Za<|Zb h4 0 rfl (v:=Iw r.State) rfl<|Za<|Zb h4 0 rfl (v:=Iw r.Class) rfl<|Zaf [Iw r.State,Iw r.Class] (by kernel_rfl) ?_;refine Yp (cs:=[Iw 0,Iw 0]) h4 rfl λt6 w5 h5=>Zq h5 0 rfl (vs:=Yi (onK r).ns) rfl rfl (by simp) (Zg _) (cs':=Yi (onK r).ns) (by rfl) λw6 h6=>?_;refine Zo h6 0 (vs:=Yi (onK r).ns) rfl (by rfl) rfl ?_;refine ZGf ZuK Z0r h6 2 rfl (onK r) ?_;rw[hlk];have hi3:(blk t6 267 (Yi (onK r).ns)::blk t 54 r.cs::Zaj kfO vfB mb m::L)[i+3]?=some S:=hi;by_cases hmem:onK r∈(l.take j).map onK
  .rw[if_pos hmem];show gd Bt false _ _ _;exact Zd<|Zd<|Zd<|Zd<|Yv<|Zd<|Zd<|Zd<|Zd<|Yv<|Zd<|Zd<|Zd<|Zd<|Yv<|Zd<|Zd<|Zd<|Zd<|Yv<|Zd<|Zd<|Zd<|Zd<|Yv<|Zi<|hbad (λh=>Zxg (Zjx.1 h).2.2 hrj hmem) _ h6.drop.drop.drop
  rw[if_neg hmem];show gd Bf false _ _ _;have hno:¬ZrU r.r->K (Iw 70) w6:=λh=>hbad (λh2=>h<|(Zjx.1 h2).2.1 r hrm) _ h6.drop.drop.drop;refine Ze<|Za<|Ze<|Zb h6 1 rfl (v:=Iw r.State) rfl<|Zj<|ZjW f1 (by decide) (by decide) ?_;refine Zj<|Zk5 ?_;by_cases d1:0<=r.State/\r.State<8
  case neg=>
   rw[decide_eq_false d1,Bool.not_false];exact Yd<|Zd<|Zd<|Zd<|Zd<|Yv<|Zd<|Zd<|Zd<|Zd<|Yv<|Zd<|Zd<|Zd<|Zd<|Yv<|Zd<|Zd<|Zd<|Zd<|Yv<|Zi<|hno λh=>d1 ⟨h.1,h.2.1⟩
  rw[decide_eq_true d1,Bool.not_true];refine Yd<|Ze<|Za<|Ze<|Zb h6 1 rfl (v:=Iw r.Next) rfl<|Zj<|ZjW f3 (by decide) (by decide) ?_;refine Zj<|Zk5 ?_;by_cases d2:0<=r.Next/\r.Next<8
  case neg=>
   rw[decide_eq_false d2,Bool.not_false];exact Yd<|Zd<|Zd<|Zd<|Zd<|Yv<|Zd<|Zd<|Zd<|Zd<|Yv<|Zd<|Zd<|Zd<|Zd<|Yv<|Zi<|hno λh=>d2 ⟨h.2.2.1,h.2.2.2.1⟩
  rw[decide_eq_true d2,Bool.not_true];refine Yd<|Ze<|Za<|Ze<|Zb h6 1 rfl (v:=Iw r.Class) rfl<|Zj<|ZjW f2 (by decide) (by decide) ?_;refine Zj<|Zk5 ?_;by_cases d3:0<=r.Class/\r.Class<16
  case neg=>
   rw[decide_eq_false d3,Bool.not_false];exact Yd<|Zd<|Zd<|Zd<|Zd<|Yv<|Zd<|Zd<|Zd<|Zd<|Yv<|Zi<|hno λh=>d3 ⟨h.2.2.2.2.1,h.2.2.2.2.2.1⟩
  rw[decide_eq_true d3,Bool.not_true];refine Yd<|Ze<|Za<|Ze<|Zb h6 1 rfl (v:=r.sv) rfl<|Zj<|Zt h6 (i+3) hi3 (λ_ h=>(hr _ h).e r hrm) ?_;by_cases d4:3<r.Sends.length
  .exact Ze<|Qgtt<|Yd<|Zd<|Zd<|Zd<|Zd<|Yv<|Zi (hno λh=>by have:=h.2.2.2.2.2.2.1;simp only[Yg.r] at this;omega)
  refine Zj<|Qgtf<|Yd<|Ze<|Za<|Ze<|Zb h6 1 rfl (v:=r.sv) rfl<|Zj<|Zj<|Zi6 (p:=λo=>¬ZuI o) (i+3) hi3 h6 (λ_ h=>(hr _ h).e r hrm) (hl r hrm) (λo ho w K h hk=>ZFA (f4 o ho) h hk) λw7 h7 b hb=>Yd<|ZBL b (λhbt=>?_)<|λhbf=>?_
  .obtain ⟨o,ho,hno'⟩:=hb.1 hbt;exact hbad (λh2=>hno'<|((Zjx.1 h2).2.1 r hrm).2.2.2.2.2.2.2 o ho) _ h7.drop.drop.drop
  .refine Zo h7 0 (vs:=Yi (onK r).ns) rfl (by rfl) rfl ?_;refine ZsG ZuK Z0r hu (h7.pick 2 rfl) (onK r) true rfl λw8 h8=>Qincs<|hg _ _ _ (by omega) ⟨j+1,_,by omega,rfl,rfl,λx hx=>?_,Ztv hnd hrj hmem,hu.up _ _,λk=>?_,h8.sn 3 [0]⟩
   .rw[List.take_add_one,hrj] at hx;rcases List.mem_append.1 hx with h | h
    .exact hall x h
    .simp at h;subst h;refine ⟨d1.1,d1.2,d2.1,d2.2,d3.1,d3.2,by simp only[Yg.r];omega,λo ho=>Classical.not_not.1 λh=>?_⟩;have:=hb.2 ⟨o,ho,h⟩;rw[hbf] at this;cases this
   .rw[ZiY hu,hlk,List.take_add_one,hrj,Option.toList_some,List.map_append];by_cases hk1:k=onK r
    .simp[hk1]
    .simp[hk1]
 .have ej:j=l.length:=by omega
  rw[ej,List.take_length] at hall hnd;have:=hk _ h2.drop;rw[if_pos<|Zjx.2 ⟨by omega,hall,hnd⟩] at this;exact this
end Go.Proofs.YtceipnkeijhebaaGreat
end
section
namespace Go.Proofs.YtceipnkeijhebaaGreat
open Go Go.E
set_option maxRecDepth 100000
variable {e w:World} {L R:List HP} {K:KV} {S:HP}
structure Zao.short (f:Zao):Prop where
 pubs:f.Pubs.length<=1000
 subs:f.Subs.length<=1000
 init:f.Init.length<=1000
 rules:f.Rules.length<=1000
 sends:∀r∈f.Rules,r.Sends.length<=1000
theorem ZhF {most lo:Int}:∀{l:List Int},ZaF most lo l↔∀(i:Nat) c,l[i]?=some c->(if i=0 then lo else l.getD (i - 1) 0)<c/\c<most:=by
 intro l;induction l generalizing lo with
 | nil=>simp[ZaF]
 | cons a l ih=>
  unfold ZaF;rw[ih];constructor
  .rintro ⟨h1,h2,h3⟩ i c hc
   match i with
   | 0=>simp at hc;subst hc;exact ⟨h1,h2⟩
   | 1=>have:=h3 0 c hc;simpa using this
   | i+2=>have:=h3 (i+1) c hc;simpa using this
  .intro h;refine ⟨(h 0 a rfl).1,(h 0 a rfl).2,λi c hc=>?_⟩
   match i with
   | 0=>have:=h 1 c hc;simpa using this
   | i+1=>have:=h (i+2) c hc;simpa using this
open Classical in
theorem ZrV {v:Value} {l:List Int} {most:Int} {b:Nat} (i k:Nat) (hi:L[i]?=some S) (hb:L[k]?=some (blk b 3 [Iw most])) (hS:Sat e w L) (hr:∀g,S g->rdS 1 (Ye .i64) v l g) (hl:l.length<=1000)
  (hk:K (.bool<|decide<|ZaF most (-1) l) w):clV prog (.func (.func 129) #[] #[pt b]) #[v] w K:=by
 refine ⟨_,_,_,rfl,Zjf (t0:=v) (t1:=pt b) ?_⟩;unfold ZkW;have hbad:¬ZaF most (-1) l->K Bf w:=λh=>by rw[decide_eq_false h] at hk;exact hk
 refine Zt hS i hi hr<|ZjF (λq t4 t9 w'=>∃j:Nat,j<=l.length/\t9=Iw j/\t4=Iw (if j=0 then -1 else l.getD (j - 1) 0)/\q=l.length - j/\(∀(i:Nat) c,i<j->l[i]?=some c->(if i=0 then -1 else l.getD (i - 1) 0)<c/\c<most)/\w'=w) l.length ⟨0,Nat.zero_le _,rfl,rfl,rfl,λ_ _ h=>absurd h (by omega),rfl⟩ ?_;rintro q _ _ w' g ⟨j,hj,rfl,rfl,rfl,hno,rfl⟩ hg;refine Za7 (λc=>Zi ?_)<|λc=>Zf ?_
 .obtain ⟨y,hy⟩:=Zk (l:=l) (j:=j) (by omega);refine Zw hS i hi hr (λ_=>rfl) hy λa ha=>Yt hS i hi ha (v:=Iw y) rfl ?_;generalize hlo:(if j=0 then (-1:Int) else l.getD (j - 1) 0)=lo;by_cases c1:y<=lo
  .refine ZCA (by omega)<|Zd<|Zd<|Zd<|Yv<|Zi<|hbad λh=>?_;have:=(ZhF.1 h j y hy).1;omega
  refine ZCF c1<|Zj<|Ze<|Zb hS k hb rfl ?_;by_cases c2:most<=y
  .refine Ze<|Qget<|Yd<|Zi<|hbad λh=>?_;have:=(ZhF.1 h j y hy).2;omega
  refine Zj<|Qgef<|Yd<|Zf<|Qincs<|hg _ _ _ _ (by omega) ⟨j+1,by omega,rfl,?_,rfl,λi c hi hc=>?_,rfl⟩
  .rw[if_neg (by omega),Nat.add_sub_cancel,List.getD_eq_getElem?_getD,hy];rfl
  .by_cases h:i=j
   .subst h;rw[hy] at hc;cases hc;rw[hlo];omega
   .exact hno i c (by omega) hc
 .have ej:j=l.length:=by omega
  rw[decide_eq_true<|ZhF.2 λi c hc=>hno i c (by have:=(List.getElem?_eq_some_iff.1 hc).1;omega) hc] at hk;exact hk
theorem Zco (f:Fed) (o:Out) (l:List Out):ZbW f (o::l)=if o.Class∉f.Pubs then 81 else if o.Delay<f.Look then 80 else ZbW f l:=rfl
theorem Zcp (f:Fed) (most:Int) (r:Zsp) (l:List Zsp):Zca f most (r::l)=if most<=r.Class then 81 else if ZbW f r.Sends≠0 then ZbW f r.Sends else Zca f most l:=rfl
theorem ZjG (f:Fed):∀(a b:List Out),ZbW f a=0->ZbW f (a++b)=ZbW f b
 | [],_,_=>rfl
 | o::a,b,h=>by
  rw[Zco] at h;rw[List.cons_append,Zco];split at h
  .cases h
  .rename_i h1;split at h
   .cases h
   .rename_i h2;rw[if_neg h1,if_neg h2];exact ZjG f a b h
theorem Zj3 (f:Fed) (most:Int):∀(a b:List Zsp),Zca f most a=0->Zca f most (a++b)=Zca f most b
 | [],_,_=>rfl
 | r::a,b,h=>by
  rw[Zcp] at h;rw[List.cons_append,Zcp];split at h
  .cases h
  .rename_i h1;split at h
   .rename_i h2;exact absurd h h2
   .rename_i h2;rw[if_neg h1,if_neg h2];exact Zj3 f most a b h
theorem Zgn {α:Type} {l:List α} {j:Nat} {x:α} (h:l[j]?=some x):l=l.take j++x::l.drop (j+1):=by rw[<-Zaq h,List.take_append_drop]
theorem ZAR {f:Zao} {most:Int} {b c:Nat} (i k m:Nat) (hi:L[i]?=some S) (hb:L[k]?=some (blk b 52 f.cs)) (hc:L[m]?=some (blk c 3 [Iw most])) (hS:Sat e w L) (hr:∀g,S g->ZmQ f g) (hs:f.short)
  (hk:∀w',Sat e w' L->K (Iw<|Zca f.f most f.f.Rules) w'):clV prog (.func (.func 130) #[] #[pt b,pt c]) #[] w K:=by
 refine ⟨_,_,_,rfl,ZjB (t0:=pt b) (t1:=pt c) ?_⟩;unfold Zku;rw[Z1c,ZYy];refine Za<|Zb hS k hb (v:=f.rv) rfl<|Zt hS i hi (λ_ h=>(hr _ h).rules.s) ?_;have hrl:=hs.rules;refine Zdk (λq t11 w=>∃j:Nat,j<=f.Rules.length/\t11=Iw j/\q=f.Rules.length - j/\Zca f.f most ((f.Rules.take j).map Yg.r)=0/\Sat e w L) f.Rules.length ⟨0,Nat.zero_le _,rfl,rfl,rfl,hS⟩ ?_;rintro q _ w g ⟨j,hj,rfl,rfl,hno,h1⟩ hg;refine Za7 (λc0=>Zi ?_)<|λc0=>Zf ?_
 .obtain ⟨r,hrj⟩:=Zk (l:=f.Rules) (j:=j) (by omega);have hrm:=List.mem_of_getElem? hrj;have hsl:=hs.sends r hrm;have hsp:f.f.Rules=(f.Rules.take j).map Yg.r++r.r::(f.Rules.drop<|j+1).map Yg.r:=by
   show f.Rules.map Yg.r=_
   conv=>lhs;rw[Zgn hrj]
   simp
  have hkE:∀w',Sat e w' L->K (Iw<|Zca f.f most<|r.r::(f.Rules.drop<|j+1).map Yg.r) w':=by
   intro w' h';have:=hk w' h';rw[hsp,Zj3 _ _ _ _ hno] at this;exact this
  refine Zw h1 i hi (λ_ h=>(hr _ h).rules.s) (λ_=>rfl) hrj λa ha=>Ym h1 i hi ha rfl ?_;have hflat:∀c∈r.cs,flat c=true:=by
   obtain ⟨g,hg,_⟩:=hS.get i hi;obtain ⟨A,c',hsv,_⟩:=(hr g hg).rules.e r hrm;intro c hc;simp only[Yg.cs,List.mem_cons,List.not_mem_nil,or_false] at hc;rcases hc with rfl | rfl | rfl | rfl
   .rfl
   .rfl
   .rfl
   .rw[hsv];rfl
  refine Yp (cs:=[Iw 0,Iw 0,Iw 0,Sn]) h1 rfl λt w3 h3=>Zq h3 0 rfl (vs:=r.cs) rfl rfl (by simp) hflat (cs':=r.cs) (by rfl) λw4 h4=>?_;have hi1:(blk t 54 r.cs::L)[i+1]?=some S:=hi;have hb1:(blk t 54 r.cs::L)[k+1]?=some (blk b 52 f.cs):=hb;have hc1:(blk t 54 r.cs::L)[m+1]?=some (blk c 3 [Iw most]):=hc;refine Za<|Zb h4 0 rfl (v:=Iw r.Class) rfl<|Zb h4 (m+1) hc1 rfl<|Zu5 (λc2=>Zi ?_)<|λc2=>Zf ?_
  .have:=hkE _ h4.drop;rw[Zcp] at this;rw[if_pos (show most<=r.r.Class from c2)] at this;exact this
  refine Za<|Zb h4 0 rfl (v:=r.sv) rfl<|Zt h4 (i+1) hi1 (λ_ h=>(hr _ h).rules.e r hrm)<|Zdk (λq t22 w=>∃n:Nat,n<=r.Sends.length/\t22=Iw n/\q=r.Sends.length - n/\ZbW f.f (r.Sends.take n)=0/\Sat e w (blk t 54 r.cs::L)) r.Sends.length ⟨0,Nat.zero_le _,rfl,rfl,rfl,h4⟩ ?_;rintro q _ w g2 ⟨n,hn,rfl,rfl,hso,h5⟩ hg2;refine Za7 (λc3=>Zi ?_)<|λc3=>Zf ?_
  .obtain ⟨o,ho⟩:=Zk (l:=r.Sends) (j:=n) (by omega);have hsp2:=Zgn ho;refine Zw h5 (i+1) hi1 (λ_ h=>(hr _ h).rules.e r hrm) (λ_=>rfl) ho λa ha=>Ym h5 (i+1) hi1 ha rfl<|Yp (cs:=Yi [0,0,0]) h5 rfl λt2 w6 h6=>Zq h6 0 rfl (vs:=o.cs) rfl rfl (by decide) (Zg _) (cs':=o.cs) (by rfl) λw7 h7=>?_;refine ZaY h7 λw8 h8=>?_;have hi2:(blk t2 133 o.cs::blk t 54 r.cs::L)[i+2]?=some S:=hi;have hb2:(blk t2 133 o.cs::blk t 54 r.cs::L)[k+2]?=some (blk b 52 f.cs):=hb;refine Za<|Zb h8 (k+2) hb2 (v:=f.pv) rfl<|Za<|Zb h8 0 rfl (v:=Iw o.Class) rfl<|Za<|Zb h8 0 rfl (v:=Iw o.Delay) rfl<|Za<|Zb h8 (k+2) hb2 (v:=Iw f.Look) rfl<|ZGo<|ZnP (i+2) hi2 h8 (λ_ h=>(hr _ h).pubs) (by have:=hs.pubs;omega) ?_;refine ⟨Zb h8 (k+2) hb2 (v:=Iw f.Look) rfl ⟨rfl,rfl⟩,Zb h8 0 rfl (v:=Iw o.Delay) rfl ⟨rfl,rfl⟩,Zdj h8 λc3' d3 w9 h9=>?_⟩;have hb3:(UN c3' d3 (decide<|o.Class∈f.Pubs) 81::blk t2 133 o.cs::blk t 54 r.cs::L)[k+3]?=some (blk b 52 f.cs):=hb;refine ⟨Zb h9 (k+3) hb3 (v:=Iw f.Look) rfl ⟨rfl,rfl⟩,Zb h9 1 rfl (v:=Iw o.Delay) rfl ⟨rfl,rfl⟩,Zdj h9 λc4 d4 w10 h10=>Zfk [unV c3' d3,unV c4 d4] h10 (by kernel_rfl) λbb w11 h11=>?_⟩;refine ZqN (fs:=[unV c3' d3,unV c4 d4]) (Es:=[if decide (o.Class∈f.Pubs)=true then 0 else 81,if decide (f.Look<=o.Delay)=true then 0 else 80]) 0 rfl h11 (Zbx (f:=λv=>[v]) [unV c3' d3,unV c4 d4] rfl<|Nat.le_refl _) (by simp) rfl (λj fv E hf hE _ w K hw hK=>?_) λw12 h12=>?_
   .match j with
    | 0=>
     simp only[List.getElem?_cons_zero,Option.some.injEq] at hf hE;subst hf hE;exact Zcw 2 rfl hw (hK _ hw)
    | 1=>
     simp only[List.getElem?_cons_succ,List.getElem?_cons_zero,Option.some.injEq] at hf hE;subst hf hE;exact Zcw 1 rfl hw (hK _ hw)
    | j+2=>simp at hf
   .have h13:Sat e w12 (blk t 54 r.cs::L):=h12.drop.drop.drop.drop;have hkS:∀E,E≠0->ZbW f.f (o::r.Sends.drop (n+1))=E->K (Iw E) w12:=by
     intro E hE0 hE;have:=hkE _ h13.drop;rw[Zcp] at this;have e1:ZbW f.f r.r.Sends=E:=by
      show ZbW f.f r.Sends=E;rw[hsp2,ZjG _ _ _ hso];exact hE
     rw[if_neg (show ¬most<=r.r.Class by simp only[Yg.r];omega),e1,if_pos hE0] at this;exact this
    rw[Zbt,Zbt,ZjN];by_cases d1:o.Class∈f.Pubs
    .by_cases d2:f.Look<=o.Delay
     .rw[decide_eq_true d1,decide_eq_true d2];simp only[if_true];refine ZoP rfl<|Zf<|Qincs<|hg2 _ _ _ (by omega) ⟨n+1,by omega,rfl,rfl,?_,h13⟩;rw[List.take_add_one,ho,ZjG _ _ _ hso];show ZbW f.f [o]=0;rw[Zco];rw[if_neg (show ¬o.Class∉f.f.Pubs from λh=>h d1),if_neg (show ¬o.Delay<f.f.Look by simp only[Zao.f];omega)];rfl
     .rw[decide_eq_true d1,decide_eq_false d2];refine Zng (by decide)<|Zi<|hkS 80 (by decide) ?_;rw[Zco];rw[if_neg (show ¬o.Class∉f.f.Pubs from λh=>h d1),if_pos (show o.Delay<f.f.Look by simp only[Zao.f];omega)]
    .rw[decide_eq_false d1];refine Zng (by simp)<|Zi<|hkS 81 (by decide) ?_;rw[Zco];rw[if_pos (show o.Class∉f.f.Pubs from d1)]
  .have en:n=r.Sends.length:=by omega
   rw[en,List.take_length] at hso;refine Qincs<|hg _ _ _ (by omega) ⟨j+1,by omega,rfl,rfl,?_,h5.drop⟩;rw[List.take_add_one,hrj,List.map_append,Zj3 _ _ _ _ hno];show Zca f.f most [r.r]=0;rw[Zcp];rw[if_neg (show ¬most<=r.r.Class by simp only[Yg.r];omega),if_neg (show ¬ZbW f.f r.r.Sends≠0 from λh=>h hso)];rfl
 .have ej:j=f.Rules.length:=by omega
  rw[ej,List.take_length] at hno;have:=hk _ h1;rw[show f.f.Rules=f.Rules.map Yg.r from rfl,hno] at this;exact this
end Go.Proofs.YtceipnkeijhebaaGreat
namespace Go.Proofs.YtceipnkeijhebaaGreat
open Go Go.E
set_option maxRecDepth 100000
variable {e w:World} {L R:List HP} {K:KV} {S:HP}
def ZDE (f:Fed) (o:Out):Prop:=o.Class∈f.Pubs/\0<=o.Delay/\o.Delay<=1099511627776/\0<=o.Add/\o.Add<=999
theorem ZEr {f:Zao} {b:Nat} {o:Out} (i k:Nat) (hi:L[i]?=some S) (hb:L[k]?=some (blk b 52 f.cs)) (hS:Sat e w L) (hr:∀g,S g->ZmQ f g) (hs:f.short)
  (hk:∀w',Sat e w' L->∀q:Bool,(q=true↔¬ZDE f.f o)->K (.bool q) w'):clV prog (.func (.func 132) #[] #[pt b]) #[.agg o.cs.toArray] w K:=by
 refine ⟨_,_,_,rfl,Zja (t0:=.agg o.cs.toArray) (t1:=pt b) ?_⟩;unfold Zko;refine Yp (cs:=o.cs) hS rfl λt w1 h1=>?_;have hi1:(blk t 133 o.cs::L)[i+1]?=some S:=hi;have hb1:(blk t 133 o.cs::L)[k+1]?=some (blk b 52 f.cs):=hb;have hk:=hk w1 h1.drop;refine Za<|Zb h1 (k+1) hb1 (v:=f.pv) rfl<|Za<|Zb h1 0 rfl (v:=Iw o.Class) rfl<|ZnP (i+1) hi1 h1 (λ_ h=>(hr _ h).pubs) (by have:=hs.pubs;omega)<|Zk5 ?_;by_cases c1:o.Class∈f.Pubs
 case neg=>
  rw[decide_eq_false c1,Bool.not_false];exact Zd<|Zd<|Zd<|Zd<|Yv<|Zd<|Zd<|Zd<|Zd<|Yv<|hk true ⟨λ_ h=>c1 h.1,λ_=>rfl⟩
 rw[decide_eq_true c1,Bool.not_true];refine Ze<|Za<|Ze<|Zb h1 0 rfl (v:=Iw o.Delay) rfl<|Zj<|Zet<|Zj<|Zk5 ?_;by_cases c2:0<=o.Delay/\o.Delay<=1099511627776
 case neg=>
  rw[decide_eq_false c2,Bool.not_false];exact Yd<|Zd<|Zd<|Zd<|Zd<|Yv<|hk true ⟨λ_ h=>c2 ⟨h.2.1,h.2.2.1⟩,λ_=>rfl⟩
 rw[decide_eq_true c2,Bool.not_true];refine Yd<|Ze<|Za<|Ze<|Zb h1 0 rfl (v:=Iw o.Add) rfl<|Zj<|Zet<|Zj<|Zk5<|Yd<|hk _ ?_;by_cases c3:0<=o.Add/\o.Add<=999
 .rw[decide_eq_true c3,Bool.not_true];exact ⟨(λh=>by cases h),λh=>absurd ⟨c1,c2.1,c2.2,c3.1,c3.2⟩ h⟩
 .rw[decide_eq_false c3,Bool.not_false];exact ⟨λ_ h=>c3 h.2.2.2,λ_=>rfl⟩
open Classical in
theorem ZCM {f:Zao} {b:Nat} (i k:Nat) (hi:L[i]?=some S) (hb:L[k]?=some (blk b 52 f.cs)) (hS:Sat e w L) (hr:∀g,S g->ZmQ f g) (hwf:f.wf) (hs:f.short)
  (hk:∀w',Sat e w' L->K (Iw<|if Zc4 f.f.Rules then 0 else 70) w'):clV prog (.func (.func 133) #[] #[pt b]) #[] w K:=by
 refine ⟨_,_,_,rfl,Zjd (t0:=pt b) ?_⟩;unfold ZkH;exact Za<|Zb hS k hb (v:=f.rv) rfl<|Zom i hi hS (λ_ h=>(hr _ h).rules) hwf.2.2.2.1 (λr hr=>by have:=hs.sends r hr;omega) hk
theorem Zn1 {p:Prop} {i j:Decidable p} {a b:Int}:(if @decide p i=true then a else b)=@ite _ p j a b:=by
 by_cases h:p <;> simp[h]
theorem Zzp {p q:Prop} {i:Decidable p} {j:Decidable q} (h:p↔q) {a b:Int}:@ite _ p i a b=@ite _ q j a b:=by
 by_cases hp:p
 .rw[if_pos hp,if_pos<|h.1 hp]
 .rw[if_neg hp,if_neg λk=>hp<|h.2 k]
theorem Zc1 {f:Zao} (i:Nat) (hi:L[i]?=some S) (hS:Sat e w L) (hr:∀g,S g->ZmQ f g):∀c∈f.cs,flat c=true:=by
 obtain ⟨g,hg,_⟩:=hS.get i hi;obtain ⟨_,_,h1,_⟩:=(hr g hg).rules.s;obtain ⟨_,_,h2,_⟩:=(hr g hg).pubs;obtain ⟨_,_,h3,_⟩:=(hr g hg).subs;obtain ⟨_,_,h4,_⟩:=(hr g hg).init;intro c hc;simp only[Zao.cs,List.mem_cons,List.not_mem_nil,or_false] at hc;rcases hc with rfl | rfl | rfl | rfl | rfl | rfl | rfl
 .rfl
 .rfl
 .rfl
 .rw[h1];rfl
 .rw[h2];rfl
 .rw[h3];rfl
 .rw[h4];rfl
open Classical in
theorem ZpE {f:Zao} {most:Int} (i:Nat) (hi:L[i]?=some S) (hS:Sat e w L) (hr:∀g,S g->ZmQ f g) (hwf:f.wf) (hs:f.short)
  (hk:∀w',Sat e w' L->K (Iw<|Zre f.f most) w'):Cl prog 71 #[.agg f.cs.toArray,Iw most] w K:=by
 refine Zk6 ?_;unfold ZnF;refine Yp (cs:=f.cs) hS rfl λb w1 h1=>Yp (cs:=[Iw most]) h1 rfl λc w2 h2=>ZaY h2 λw3 h3=>?_;have hi3:(blk c 3 [Iw most]::blk b 52 f.cs::L)[i+2]?=some S:=hi;refine Za<|Zb h3 1 rfl (v:=Iw f.Kind) rfl<|Za<|Zb h3 1 rfl (v:=Iw f.Look) rfl<|Za<|Zb h3 1 rfl (v:=Iw f.Start) rfl<|Za<|Zb h3 1 rfl (v:=f.pv) rfl<|Za<|Zb h3 1 rfl (v:=f.iv) rfl<|Zt h3 (i+2) hi3 (λ_ h=>(hr _ h).init)<|ZHY<|Zet ?_;have ld:∀{A:List HP} {w:World} (n:Nat),Sat e w A->A[n]?=some (blk b 52 f.cs)->∀(o:Nat) (v:Value),f.cs[o]?=some v->ld1 (.pointer<|some ⟨b,o,none⟩) w (λv' w''=>v'=v/\w''=w):=λn h hA o v ho=>Zb h n hA ho ⟨rfl,rfl⟩;refine ⟨ld 1 h3 rfl 6 _ rfl,ld 1 h3 rfl 4 _ rfl,ld 1 h3 rfl 2 _ rfl,ld 1 h3 rfl 1 _ rfl,Zdj h3 λc1 d1 w4 h4=>⟨ld 2 h4 rfl 6 _ rfl,ld 2 h4 rfl 4 _ rfl,ld 2 h4 rfl 2 _ rfl,ld 2 h4 rfl 1 _ rfl,Zet<|⟨ld 2 h4 rfl 6 _ rfl,ld 2 h4 rfl 4 _ rfl,ld 2 h4 rfl 2 _ rfl,Zdj h4 λc2 d2 w5 h5=>⟨ld 3 h5 rfl 6 _ rfl,ld 3 h5 rfl 4 _ rfl,ld 3 h5 rfl 2 _ rfl,Zet<|⟨ld 3 h5 rfl 6 _ rfl,ld 3 h5 rfl 4 _ rfl,Zdj h5 λc3 d3 w6 h6=>⟨ld 4 h6 rfl 6 _ rfl,ld 4 h6 rfl 4 _ rfl,ZrV (most:=most) (i+5) 3 hi rfl h6 (λ_ h=>(hr _ h).pubs) hs.pubs<|⟨ld 4 h6 rfl 6 _ rfl,?_⟩⟩⟩⟩⟩⟩⟩;have hmid:∀K:World->KV,K w6 (.bool<|decide<|ZaF most (-1) f.Pubs/\ZaF most (-1) f.Subs) w6->gd (.bool<|decide<|ZaF most (-1) f.Pubs) true (λk=>k (.func (.func 129) #[] #[pt c]) w6) w6 λt29 _=>
   gd (.bool<|decide<|ZaF most (-1) f.Pubs) true (λk=>fld 5 (pt b) w6 k) w6 λt30 _=>
   gd (.bool<|decide<|ZaF most (-1) f.Pubs) true (λk=>ld1 t30 w6 k) w6 λt31 _=>
   gd (.bool<|decide<|ZaF most (-1) f.Pubs) true (λk=>clV prog t29 #[t31] w6 k) w6 λt32 w=>
   (ld1 (.pointer<|some ⟨b,0+6,none⟩) w<|λv' w''=>v'=f.iv/\w''=w)/\(pk (.bool<|decide<|ZaF most (-1) f.Pubs) t32 Bf w<|K w):=by
  intro K hK;by_cases q1:ZaF most (-1) f.Pubs
  .rw[decide_eq_true q1];refine Ze<|Ze<|Za<|Ze<|Zb h6 4 rfl (v:=f.sv) rfl<|Ze<|ZrV (most:=most) (i+5) 3 hi rfl h6 (λ_ h=>(hr _ h).subs) hs.subs<|⟨ld 4 h6 rfl 6 _ rfl,Yv ?_⟩;by_cases q2:ZaF most (-1) f.Subs
   .rw[decide_eq_true q2];rw[decide_eq_true ⟨q1,q2⟩] at hK;exact hK
   .rw[decide_eq_false q2];rw[decide_eq_false λh=>q2 h.2] at hK;exact hK
  .rw[decide_eq_false q1];rw[decide_eq_false λh=>q1 h.1] at hK;exact Zu<|Zu<|Zu<|Zu ⟨ld 4 h6 rfl 6 _ rfl,Yd hK⟩
 refine hmid (λw t33 _=>_) ?_;clear hmid;refine Zdj h6 λc5 d5 w7 h7=>⟨ld 5 h7 rfl 6 _ rfl,?_⟩;have hmid:∀K:World->KV,(∀w',Sat e w' (UN c5 d5 (decide<|ZaF most (-1) f.Pubs/\ZaF most (-1) f.Subs) 81::UN c3 d3 (decide<|0<=f.Start/\f.Start<=7) 70::UN c2 d2 (decide<|1<=f.Look/\f.Look<=1048576) 80::UN c1 d1 (decide<|0<=f.Kind/\f.Kind<=1) 1::blk c 3 [Iw most]::blk b 52 f.cs::L)->∀q:Bool,(q=true↔ZlW f.f)->K w' (.bool q) w')->
   gd (.bool<|decide<|(f.Init.length:Int)<=4) true (λk=>fld 6 (pt b) w7 k) w7 λt41 _=>
   gd (.bool<|decide<|(f.Init.length:Int)<=4) true (λk=>ld1 t41 w7 k) w7 λt42 _=>
   gd (.bool<|decide<|(f.Init.length:Int)<=4) true (λk=>k (.func (.func 132) #[] #[pt b]) w7) w7 λt43 _=>
   gd (.bool<|decide<|(f.Init.length:Int)<=4) true (λk=>Cl prog 135 #[t42,t43] w7 k) w7 λt44 w=>
   gd (.bool<|decide<|(f.Init.length:Int)<=4) true (λk=>Zb3 t44 w k) w λt45 _=>
   pk (.bool<|decide<|(f.Init.length:Int)<=4) t45 Bf w (K w):=by
  intro K hK;by_cases q1:(f.Init.length:Int)<=4
  .rw[decide_eq_true q1];refine Ze<|Za<|Ze<|Zb h7 5 rfl (v:=f.iv) rfl<|Ze<|Ze<|Zi6 (p:=λo=>¬ZDE f.f o) (i+6) hi h7 (λ_ h=>(hr _ h).init) (by have:=hs.init;omega) (λo ho w K h hk=>ZEr (i+6) 5 hi rfl h hr hs hk) λw8 h8 q hq=>Ze<|Zk5<|Yv<|hK _ h8 _ ?_;constructor
   .intro h;refine ⟨by show f.Init.length<=4;omega,λo ho=>Classical.not_not.1 λhn=>?_⟩;have:=hq.2 ⟨o,ho,hn⟩;rw[this] at h;cases h
   .intro h;cases q with
    | false=>rfl
    | true=>
     obtain ⟨o,ho,hn⟩:=hq.1 rfl;exact absurd (h.2 o ho) hn
  .rw[decide_eq_false q1];exact Zu<|Zu<|Zu<|Zu<|Zu<|Yd<|hK _ h7 _ ⟨(λh=>by cases h),λh=>absurd (show (f.Init.length:Int)<=4 from by have h2:f.Init.length<=4:=h.1;omega) q1⟩
 refine hmid (λw t46 _=>_) λw8 h8 q hq=>?_;clear hmid;refine Zdj h8 λc7 d7 w9 h9=>Zfk [unV c1 d1,unV c2 d2,unV c3 d3,.func (.func 133) #[] #[pt b],unV c5 d5,.func (.func 130) #[] #[pt b,pt c],unV c7 d7] h9 (by kernel_rfl) λbb w10 h10=>?_;have hEs:Zs3 f.f most=[if decide (0<=f.Kind/\f.Kind<=1)=true then 0 else 1,if decide (1<=f.Look/\f.Look<=1048576)=true then 0 else 80,if decide (0<=f.Start/\f.Start<=7)=true then 0 else 70,if Zc4 f.f.Rules then 0 else 70,
   if decide (ZaF most (-1) f.Pubs/\ZaF most (-1) f.Subs)=true then 0 else 81,Zca f.f most f.f.Rules,if q=true then 0 else 82]:=by
  unfold Zs3;rw[Zn1,Zn1,Zn1,Zn1,Zzp hq];rfl
 refine ZqN (fs:=[unV c1 d1,unV c2 d2,unV c3 d3,.func (.func 133) #[] #[pt b],unV c5 d5,.func (.func 130) #[] #[pt b,pt c],unV c7 d7]) (Es:=Zs3 f.f most) 0 rfl h10 (Zbx (f:=λv=>[v]) [unV c1 d1,unV c2 d2,unV c3 d3,.func (.func 133) #[] #[pt b],unV c5 d5,.func (.func 130) #[] #[pt b,pt c],unV c7 d7] rfl<|Nat.le_refl _) (by simp) rfl (λj fv E hf hE _ w K hw hK=>?_) λw11 h11=>?_
 .rw[hEs] at hE
  match j with
  | 0=>
   simp only[List.getElem?_cons_zero,Option.some.injEq] at hf hE;subst hf hE;exact Zcw 5 rfl hw (hK _ hw)
  | 1=>
   simp only[List.getElem?_cons_succ,List.getElem?_cons_zero,Option.some.injEq] at hf hE;subst hf hE;exact Zcw 4 rfl hw (hK _ hw)
  | 2=>
   simp only[List.getElem?_cons_succ,List.getElem?_cons_zero,Option.some.injEq] at hf hE;subst hf hE;exact Zcw 3 rfl hw (hK _ hw)
  | 3=>
   simp only[List.getElem?_cons_succ,List.getElem?_cons_zero,Option.some.injEq] at hf hE;subst hf hE;exact ZCM (i+8) 7 hi rfl hw hr hwf hs hK
  | 4=>
   simp only[List.getElem?_cons_succ,List.getElem?_cons_zero,Option.some.injEq] at hf hE;subst hf hE;exact Zcw 2 rfl hw (hK _ hw)
  | 5=>
   simp only[List.getElem?_cons_succ,List.getElem?_cons_zero,Option.some.injEq] at hf hE;subst hf hE;exact ZAR (i+8) 7 6 hi rfl rfl hw hr hs hK
  | 6=>
   simp only[List.getElem?_cons_succ,List.getElem?_cons_zero,Option.some.injEq] at hf hE;subst hf hE;exact Zcw 1 rfl hw (hK _ hw)
  | j+7=>simp at hf
 .exact hk _<|h11.sn 8 []
structure WdX.short (x:WdX):Prop where
 feds:x.Feds.length<=1000
 par:x.Parents.length<=1000
 fed:∀f∈x.Feds,f.short
theorem ZdR (most:Int) (i:Nat) (f:Fed) (l:List Fed):Zm3 most i (f::l)=if Zre f most≠0 then ((i:Int),Zre f most) else Zm3 most (i+1) l:=rfl
theorem ZlI (most:Int):∀(a b:List Fed) (i:Nat),(∀f∈a,Zre f most=0)->Zm3 most i (a++b)=Zm3 most (i+a.length) b
 | [],_,_,_=>rfl
 | f::a,b,i,h=>by
  rw[List.cons_append,ZdR,if_neg<|λk=>k<|h f (by simp),ZlI most a b (i+1) λg hg=>h g (by simp[hg])];congr 1;simp;omega
theorem ZoI {x:WdX} (i:Nat) (hi:L[i]?=some S) (hS:Sat e w L) (hr:∀g,S g->ZtG x g):∀c∈x.cs,flat c=true:=by
 obtain ⟨g,hg,_⟩:=hS.get i hi;obtain ⟨_,_,h1,_⟩:=(hr g hg).par;obtain ⟨_,_,h2,_⟩:=(hr g hg).feds;intro c hc;simp only[WdX.cs,List.mem_cons,List.not_mem_nil,or_false] at hc;rcases hc with rfl | rfl | rfl
 .rw[h1];rfl
 .rw[h2];rfl
 .rfl
theorem ZdI {x:WdX} (i:Nat) (hi:L[i]?=some S) (hS:Sat e w L) (hr:∀g,S g->ZtG x g) (hwf:x.wf) (hs:x.short)
  (hk:∀w',Sat e w' L->K (.tuple #[Iw (Za4 x.w).1,Iw (Za4 x.w).2]) w'):Cl prog 24 #[.agg x.cs.toArray] w K:=by
 refine Ziy ?_;unfold Zks;refine Yp (cs:=x.cs) hS rfl λb w1 h1=>?_;have hi1:(blk b 25 x.cs::L)[i+1]?=some S:=hi;have hfl:=hs.feds;refine Za<|Zb h1 0 rfl (v:=Iw x.End) rfl<|Zet ?_;have hmid:∀K:KV,K (.bool<|decide<|(0<=x.End/\x.End<=1099511627776)/\(1<=(x.Feds.length:Int)/\(x.Feds.length:Int)<=8)) w1->
   gd (.bool<|decide<|0<=x.End/\x.End<=1099511627776) true (λk=>fld 1 (pt b) w1 k) w1 λt13 w=>
   gd (.bool<|decide<|0<=x.End/\x.End<=1099511627776) true (λk=>ld1 t13 w k) w λt14 w=>
   gd (.bool<|decide<|0<=x.End/\x.End<=1099511627776) true (λk=>lnS t14 w k) w λt15 w=>
   gd (.bool<|decide<|0<=x.End/\x.End<=1099511627776) true (λk=>Cl prog 70 #[t15,Iw 1,Iw 8] w k) w λt16 w=>
   pk (.bool<|decide<|0<=x.End/\x.End<=1099511627776) t16 Bf w K:=by
  intro K hK;by_cases q1:0<=x.End/\x.End<=1099511627776
  .rw[decide_eq_true q1];refine Ze<|Za<|Ze<|Zb h1 0 rfl (v:=x.fv) rfl<|Ze<|Zt h1 (i+1) hi1 (λ_ h=>(hr _ h).feds)<|Ze<|Zet<|Yv ?_;by_cases q2:1<=(x.Feds.length:Int)/\(x.Feds.length:Int)<=8
   .rw[decide_eq_true q2];rw[decide_eq_true ⟨q1,q2⟩] at hK;exact hK
   .rw[decide_eq_false q2];rw[decide_eq_false λh=>q2 h.2] at hK;exact hK
  .rw[decide_eq_false q1];rw[decide_eq_false λh=>q1 h.1] at hK;exact Zu<|Zu<|Zu<|Zu<|Yd hK
 refine hmid _ ?_;clear hmid;refine Zdj h1 λc1 d1 w2 h2=>Zfk [.func (.func 67) #[] #[pt b],unV c1 d1] h2 (by kernel_rfl) λbb w3 h3=>?_;refine ZqN (fs:=[.func (.func 67) #[] #[pt b],unV c1 d1]) (Es:=[ZhY x.Parents,if decide ((0<=x.End/\x.End<=1099511627776)/\(1<=(x.Feds.length:Int)/\(x.Feds.length:Int)<=8))=true then 0 else 1]) 0 rfl h3
  (Zbx (f:=λv=>[v]) [.func (.func 67) #[] #[pt b],unV c1 d1] rfl<|Nat.le_refl _) (by simp) rfl (λj fv E hf hE _ w K hw hK=>?_) λw4 h4=>?_
 .match j with
  | 0=>
   simp only[List.getElem?_cons_zero,Option.some.injEq] at hf hE;subst hf hE;refine ⟨_,_,_,rfl,ZgJ (t0:=pt b) ?_⟩;unfold Zhe;exact Za (Zb hw 2 rfl (v:=x.pv) rfl<|Zkz (i+3) hi hw (λ_ h=>(hr _ h).par)<|hK _ hw)
  | 1=>
   simp only[List.getElem?_cons_succ,List.getElem?_cons_zero,Option.some.injEq] at hf hE;subst hf hE;exact Zcw 1 rfl hw (hK _ hw)
  | j+2=>simp at hf
 have h5:Sat e w4 (blk b 25 x.cs::L):=h4.drop.drop;rw[Zbt,Zbt,ZjN];by_cases p1:ZhY x.Parents=0
 case neg=>
  rw[if_neg p1];have:=hk _ h5.drop;unfold Za4 at this;rw[if_pos (show ZhY x.w.Parents≠0 from p1)] at this;exact Zng p1<|Zi this
 rw[if_pos p1];by_cases p2:(0<=x.End/\x.End<=1099511627776)/\(1<=(x.Feds.length:Int)/\(x.Feds.length:Int)<=8)
 case neg=>
  rw[decide_eq_false p2,if_neg (by decide)];have:=hk _ h5.drop;unfold Za4 at this;rw[if_neg (show ¬ZhY x.w.Parents≠0 from λh=>h p1),if_pos (by simp only[WdX.w,List.length_map];exact p2)] at this;exact Zng (by decide)<|Zi this
 rw[decide_eq_true p2,if_pos rfl];have hk:∀w',Sat e w' L->K (.tuple #[Iw (Zm3 x.Parents.length 0<|x.Feds.map Zao.f).1,Iw (Zm3 x.Parents.length 0<|x.Feds.map Zao.f).2]) w':=by
  intro w' h';have:=hk w' h';unfold Za4 at this;rw[if_neg (show ¬ZhY x.w.Parents≠0 from λh=>h p1),if_neg (by simp only[WdX.w,List.length_map];exact λh=>h p2)] at this;exact this
 refine ZoP (by simp)<|Zf<|Za<|Zb h5 0 rfl (v:=x.fv) rfl<|Zt h5 (i+1) hi1 (λ_ h=>(hr _ h).feds)<|Zdk (λq t w=>∃j:Nat,j<=x.Feds.length/\t=Iw j/\q=x.Feds.length - j/\(∀f∈(x.Feds.take j).map Zao.f,Zre f x.Parents.length=0)/\Sat e w (blk b 25 x.cs::L)) x.Feds.length ⟨0,Nat.zero_le _,rfl,rfl,by simp,h5⟩ ?_;rintro q _ w g ⟨j,hj,rfl,rfl,hno,h6⟩ hg;refine Za7 (λc0=>Zi ?_)<|λc0=>Zf ?_
 .obtain ⟨f,hf⟩:=Zk (l:=x.Feds) (j:=j) (by omega);have hfm:=List.mem_of_getElem? hf;refine Zw h6 (i+1) hi1 (λ_ h=>(hr _ h).feds) (λ_=>rfl) hf λa ha=>Ym h6 (i+1) hi1 ha rfl ?_;rw[ZYE];refine Yp (cs:=[Iw 0,Iw 0,Iw 0,Sn,Sn,Sn,Sn]) h6 rfl λt w7 h7=>Zq h7 0 rfl (vs:=f.cs) rfl rfl (by simp) (Zc1 i hi hS λg hg=>(hr g hg).fed f hfm) (cs':=f.cs) (by rfl) λw8 h8=>?_;refine Zo h8 0 (vs:=f.cs) rfl (by rfl) rfl ?_;refine Za<|Zb h8 1 rfl (v:=x.pv) rfl ?_;have hi2:(blk t 52 f.cs::blk b 25 x.cs::L)[i+2]?=some S:=hi;refine Zt h8 (i+2) hi2 (λ_ h=>(hr _ h).par)<|ZpE (i+2) hi2 h8 (λ_ h=>(hr _ h).fed f hfm) (hwf.2.1 f hfm) (hs.fed f hfm) λw9 h9=>?_;have hsp:x.Feds.map Zao.f=(x.Feds.take j).map Zao.f++f.f::(x.Feds.drop<|j+1).map Zao.f:=by
   conv=>lhs;rw[Zgn hf]
   simp
  have hlen:0+((x.Feds.take j).map Zao.f).length=j:=by rw[List.length_map,List.length_take];omega
  refine ZrP (λc2=>Zi ?_)<|λc2=>Zf<|Qincs ?_
  .have:=hk _ h9.drop.drop;rw[hsp,ZlI _ _ _ _ hno,ZdR,if_pos c2,hlen] at this;exact this
  .refine hg _ _ _ (by omega) ⟨j+1,by omega,rfl,rfl,λy hy=>?_,h9.drop⟩;rw[List.take_add_one,hf,List.map_append] at hy;rcases List.mem_append.1 hy with h | h
   .exact hno y h
   .simp at h;rw[h];exact c2
 .have ej:j=x.Feds.length:=by omega
  rw[ej,List.take_length] at hno;have:=hk _ h6.drop;rw[<-List.append_nil (x.Feds.map Zao.f),ZlI _ _ _ _ hno] at this;exact this
end Go.Proofs.YtceipnkeijhebaaGreat
end
