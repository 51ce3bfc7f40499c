import Derived.Test.YtjaifpiopmhmlaaGreatBareRunsBase
import Derived.Test.YtjaifpiopmhmlaaGreatBareRunsYa
set_option maxRecDepth 100000
set_option linter.all false
namespace Go.Proofs.YtjaifpiopmhmlaaGreat
open Go Go.GD Go.IntKind
noncomputable section
def Qov(status:Int)(from0:Int)(to:Int):Tree Int:=
.br (iand u32 status from0 !=0) (.lf (ior u32 status to)) (.lf (Qg7 u32 status to))
def Q8q(status:Int)(from0:Int)(to:Int):Int:=(Qov status from0 to).m
def Zm1:Q0c:=mkR 209 [] true [.one (.int .u32), .one (.int .u32), .one (.int .u32)] [] (λargs rows=>Q8q (argI args 0) (argI args 1) (argI args 2)) (λX=> .int .u32 X) (λX=>[])
theorem Z2t:Q06 Tryz.prog Zm1:=Q0z Q0j Q0l (.nil) Tryz.func209 Tryz.call209 (λargs rows=>Qov (argI args 0) (argI args 1) (argI args 2)) [] [] 2
def Qkz(c:Q04)(cause:Int)(bad:Int):Tree Q04:=
.lv (Q8q c.B5.a0 1 8) λ(x0:Int)=> .lv (Q8q x0 2 16) λ(x1:Int)=> .lf ({X:=c.X,Pc:=c.B5.a1,B5:={a0:=Qg7 u32 (ior u32 x1 1) 2,a1:=c.B5.a1,a2:=c.Pc,a3:=wrap u32 cause,a4:=bad,a5:=c.B5.a5,a6:=c.B5.a6,a7:=c.B5.a7}})
def Q4f(c:Q04)(cause:Int)(bad:Int):Q04:=(Qkz c cause bad).m
def Zmj:Q0c:=mkR 154 [] true [.agg Q04.sig, .one (.int .i64), .one (.int .u32)] [] (λargs rows=>Q4f (Q04.of (aC args 0)) (argI args 1) (argI args 2)) (λX=> .agg (Q04.cells X)) (λX=>[])
theorem Qiq:Q06 Tryz.prog Zmj:=Q0z Q0j Q0l (.cons Z2t (.nil)) Tryz.func154 Tryz.call154 (λargs rows=>Qkz (Q04.of (aC args 0)) (argI args 1) (argI args 2)) [] [] 2
def Qsp(access:Int):Tree (Int×Bool):=
.br (access==1) (.lf (4,true)) (.br (access==2) (.lf (5,true)) (.br (access==3) (.lf (6,true)) (.lf (5,false))))
def Qr0(access:Int):(Int×Bool):=(Qsp access).m
def Z9y:Q0c:=mkR 249 [] true [.one (.int .i64)] [] (λargs rows=>Qr0 (argI args 0)) (λX=> .tup [.int .i64 (X.1), .bool (X.2)]) (λX=>[])
theorem Z4u:Q06 Tryz.prog Z9y:=Q0z Q0j Q0l (.nil) Tryz.func249 Tryz.call249 (λargs rows=>Qsp (argI args 0)) [] [] 2
def Qwb(c:Q04):Tree Bool:=
.lf (iand u32 c.B5.a0 (1:Int) !=(0:Int))
def Qa0(c:Q04):Bool:=(Qwb c).m
def Zc4:Q0c:=mkR 158 [] true [.agg Q04.sig] [] (λargs rows=>Qa0 (Q04.of (aC args 0))) (λX=> .bool X) (λX=>[])
theorem Qtc:Q06 Tryz.prog Zc4:=Q0z Q0j Q0l (.nil) Tryz.func158 Tryz.call158 (λargs rows=>Qwb (Q04.of (aC args 0))) [] [] 2
def Qmf(access:Int):Tree (Int×Bool):=
.br (access==1) (.lf (4,true)) (.br (access==2) (.lf (5,true)) (.br (access==3) (.lf (6,true)) (.lf (5,false))))
def Qju(access:Int):(Int×Bool):=(Qmf access).m
def Qxo:Q0c:=mkR 269 [] true [.one (.int .i64)] [] (λargs rows=>Qju (argI args 0)) (λX=> .tup [.int .i64 (X.1), .bool (X.2)]) (λX=>[])
theorem Qux:Q06 Tryz.prog Qxo:=Q0z Q0j Q0l (.nil) Tryz.func269 Tryz.call269 (λargs rows=>Qmf (argI args 0)) [] [] 2
def Qh0(m:(List Int))(frame:Int):Tree Bool:=
.lv (Q0u m) λ(x0:Int)=> .lf (decide (wrap u64 frame<wrap u64 x0))
def Qa9(m:(List Int))(frame:Int):Bool:=(Qh0 m frame).m
def Z0p:Q0c:=mkR 270 [] true [.one (.ints .u32), .one (.int .u32)] [] (λargs rows=>Qa9 (argL .u32 args 0) (argI args 1)) (λX=> .bool X) (λX=>[])
theorem Qy8:Q06 Tryz.prog Z0p:=Q0z Q0j Q0l (.cons Q4b (.nil)) Tryz.func270 Tryz.call270 (λargs rows=>Qh0 (argL .u32 args 0) (argI args 1)) [] [] 2
def Q6b(m:(List Int))(addr:Int)(size:Int):Tree (Int×Bool):=
.an (Qa2 m addr size) (.lv (Qg1 m addr size) λ(x0:Bool)=> .br (!x0) (.lf (0,false)) (.cn (Nat.beq 1 1&&Nat.blt 0 1&&decide (0<=wrap u32 (Int.tdiv addr 4)/\wrap u32 (Int.tdiv addr 4)<(m.length:Int))) (let E1:=Int.toNat (wrap u32 (Int.tdiv addr 4)); .br (size==1) (let E2:=wrap i64 (wrap i64 (Int.tmod addr 4)*8); .an (Q58 (m.getD E1 0) E2 8) (.lv (Q2z (m.getD E1 0) E2 8) λ(x1:Int)=> .lf (x1,true))) (.lf (m.getD E1 0,true)))))
def Q4s(m:(List Int))(addr:Int)(size:Int):(Int×Bool):=(Q6b m addr size).m
abbrev Q33(m:(List Int))(addr:Int)(size:Int):Prop:=(Q6b m addr size).p
def Z9p:Q0c:=mkP 211 [] true [.one (.ints .u32), .one (.int .u32), .one (.int .i64)] [] (λargs rows=>Q33 (argL .u32 args 0) (argI args 1) (argI args 2)) (λargs rows=>Q4s (argL .u32 args 0) (argI args 1) (argI args 2)) (λX=> .tup [.int .u32 (X.1), .bool (X.2)]) (λX=>[])
theorem Qas:Q06 Tryz.prog Z9p:=Q0n Q0j Q0l (.cons Qmm (.cons Qlk (.nil))) Tryz.func211 Tryz.call211 (λargs rows=>Q6b (argL .u32 args 0) (argI args 1) (argI args 2)) [] [] 2
def Qmn(pte:Int)(access:Int):Tree Bool:=
.br (iand u32 pte (1:Int)==(0:Int)) (.lf false) (.br (access==3) (.lf (iand u32 pte (2:Int) !=(0:Int))) (.br (access==1) (.lf (iand u32 pte (4:Int) !=(0:Int))) (.lf true)))
def Qav(pte:Int)(access:Int):Bool:=(Qmn pte access).m
def Qy0:Q0c:=mkR 271 [] true [.one (.int .u32), .one (.int .i64)] [] (λargs rows=>Qav (argI args 0) (argI args 1)) (λX=> .bool X) (λX=>[])
theorem Qu6:Q06 Tryz.prog Qy0:=Q0z Q0j Q0l (.nil) Tryz.func271 Tryz.call271 (λargs rows=>Qmn (argI args 0) (argI args 1)) [] [] 2
def Q84(pte:Int):Tree Int:=
.an (Q58 pte 8 8) (.lv (Q2z pte 8 8) λ(x0:Int)=> .lf x0)
def Qeg(pte:Int):Int:=(Q84 pte).m
abbrev Qcm(pte:Int):Prop:=(Q84 pte).p
def Qyb:Q0c:=mkP 272 [] true [.one (.int .u32)] [] (λargs rows=>Qcm (argI args 0)) (λargs rows=>Qeg (argI args 0)) (λX=> .int .u32 X) (λX=>[])
theorem Qu7:Q06 Tryz.prog Qyb:=Q0n Q0j Q0l (.cons Qlk (.nil)) Tryz.func272 Tryz.call272 (λargs rows=>Q84 (argI args 0)) [] [] 2
def Qa7(m:(List Int))(root:Int)(va:Int)(access:Int):Tree Q15:=
.lv (Qju access) λ(x0:Int×Bool)=>let E1:=({Addr:=0,F4:=0,F1:=x0.1}:Q15); .br (!x0.2) (.lf (E1)) (.br (decide (va>=4096)) (.lf (E1)) (.lv (Qa9 m root) λ(x1:Bool)=> .br (!x1) (.lf (E1)) (let E2:=wrap u32 (root*128)+wrap u32 (4*wrap u32 (Int.tdiv va 128)); .an (Q33 m (wrap u32 E2) 4) (.lv (Q4s m (wrap u32 E2) 4) λ(x2:Int×Bool)=> .br (!x2.2) (.lf (E1)) (.lv (Qav x2.1 access) λ(x3:Bool)=> .br (!x3) (.lf (E1)) (.an (Qcm x2.1) (.lv (Qeg x2.1) λ(x4:Int)=> .lv (Qa9 m x4) λ(x5:Bool)=> .br (!x5) (.lf (E1)) (.an (Qcm x2.1) (.lv (Qeg x2.1) λ(x6:Int)=> .lf ({Addr:=wrap u32 (wrap u32 (x6*128)+Int.tmod va 128),F4:=wrap u32 E2,F1:=0}))))))))))
def Qhh(m:(List Int))(root:Int)(va:Int)(access:Int):Q15:=(Qa7 m root va access).m
abbrev Qhk(m:(List Int))(root:Int)(va:Int)(access:Int):Prop:=(Qa7 m root va access).p
def Z8g:Q0c:=mkP 250 [] true [.one (.ints .u32), .one (.int .u32), .one (.int .u32), .one (.int .i64)] [] (λargs rows=>Qhk (argL .u32 args 0) (argI args 1) (argI args 2) (argI args 3)) (λargs rows=>Qhh (argL .u32 args 0) (argI args 1) (argI args 2) (argI args 3)) (λX=> .agg (Q15.cells X)) (λX=>[])
theorem Z32:Q06 Tryz.prog Z8g:=Q0n Q0j Q0l (.cons Qux (.cons Qy8 (.cons Qas (.cons Qu6 (.cons Qu7 (.nil)))))) Tryz.func250 Tryz.call250 (λargs rows=>Qa7 (argL .u32 args 0) (argI args 1) (argI args 2) (argI args 3)) [] [] 2
def Q8i(m:(List Int))(entry:Int)(access:Int):Tree (List Int):=
.an (Q33 m entry 4) (.lv (Q4s m entry 4) λ(x0:Int×Bool)=> .br (!x0.2) (.an (Q08 m) (.lv (Q03 m) λ(x1:List Int)=> .lf x1)) (.br (access==3) (.an (Qaz m entry 4 (ior u32 (ior u32 x0.1 8) 16)) (.lv (Q9r m entry 4 (ior u32 (ior u32 x0.1 8) 16)) λ(x2:List Int×Bool)=> .lf x2.1)) (.an (Qaz m entry 4 (ior u32 x0.1 8)) (.lv (Q9r m entry 4 (ior u32 x0.1 8)) λ(x3:List Int×Bool)=> .lf x3.1))))
def Qbr(m:(List Int))(entry:Int)(access:Int):(List Int):=(Q8i m entry access).m
abbrev Qfw(m:(List Int))(entry:Int)(access:Int):Prop:=(Q8i m entry access).p
def Z3s:Q0c:=mkP 251 [] true [.one (.ints .u32), .one (.int .u32), .one (.int .i64)] [] (λargs rows=>Qfw (argL .u32 args 0) (argI args 1) (argI args 2)) (λargs rows=>Qbr (argL .u32 args 0) (argI args 1) (argI args 2)) (λX=> .all 0) (λX=>[⟨false,23,1, .ints .u32 X⟩])
theorem Qzy:Q06 Tryz.prog Z3s:=Q0n Q0j Q0l (.cons Qas (.cons Q0w (.cons Qnz (.nil)))) Tryz.func251 Tryz.call251 (λargs rows=>Q8i (argL .u32 args 0) (argI args 1) (argI args 2)) [.row 23 1 (.ints .u32)] [] 2
def Q6f(c:Q04)(m:(List Int))(va:Int)(size:Int)(access:Int):Tree (Int×(List Int)×Int):=
.lv (Qr0 access) λ(x0:Int×Bool)=>let T3:Tree ((Int×(List Int)×Int)):= .an (Q08 m) (.lv (Q03 m) λ(x1:List Int)=> .lf (0,x1,5)); .br (!x0.2) T3 (let T1:Tree ((Int×(List Int)×Int)):= .cn (decide (wrap u32 size≠0)) (.br (Int.tmod va (wrap u32 size) !=0) (.an (Q08 m) (.lv (Q03 m) λ(x3:List Int)=> .lf (0,x3,3))) (.lv (Qa0 c) λ(x4:Bool)=>let T2:Tree ((Int×(List Int)×Int)):= .an (Q33 m va size) (.lv (Q4s m va size) λ(x8:Int×Bool)=> .br (!x8.2) (.an (Q08 m) (.lv (Q03 m) λ(x9:List Int)=> .lf (0,x9,x0.1))) (.an (Q08 m) (.lv (Q03 m) λ(x10:List Int)=> .lf (va,x10,0)))); .br (!x4) (.br (iand u32 c.B5.a0 (4:Int) !=(0:Int)) (.an (Qhk m c.B5.a6 va access) (.lv (Qhh m c.B5.a6 va access) λ(x5:Q15)=> .br (x5.F1 !=0) (.an (Q08 m) (.lv (Q03 m) λ(x6:List Int)=> .lf (0,x6,x5.F1))) (.an (Qfw m x5.F4 access) (.lv (Qbr m x5.F4 access) λ(x7:List Int)=> .lf (x5.Addr,x7,0))))) T2) T2)); .br (size !=1) (.br (size !=4) T3 T1) T1)
def Q23(c:Q04)(m:(List Int))(va:Int)(size:Int)(access:Int):(Int×(List Int)×Int):=(Q6f c m va size access).m
abbrev Q9n(c:Q04)(m:(List Int))(va:Int)(size:Int)(access:Int):Prop:=(Q6f c m va size access).p
def Z9i:Q0c:=mkP 210 [] true [.agg Q04.sig, .one (.ints .u32), .one (.int .u32), .one (.int .i64), .one (.int .i64)] [] (λargs rows=>Q9n (Q04.of (aC args 0)) (argL .u32 args 1) (argI args 2) (argI args 3) (argI args 4)) (λargs rows=>Q23 (Q04.of (aC args 0)) (argL .u32 args 1) (argI args 2) (argI args 3) (argI args 4)) (λX=> .tup [.int .u32 (X.1), .all 0, .int .i64 (X.2.2)]) (λX=>[⟨false,23,1, .ints .u32 (X.2.1)⟩])
theorem Qjk:Q06 Tryz.prog Z9i:=Q0n Q0j Q0l (.cons Z4u (.cons Q0w (.cons Qtc (.cons Z32 (.cons Qzy (.cons Qas (.nil))))))) Tryz.func210 Tryz.call210 (λargs rows=>Q6f (Q04.of (aC args 0)) (argL .u32 args 1) (argI args 2) (argI args 3) (argI args 4)) [.row 23 1 (.ints .u32)] [] 2
def Qb9(c:Q04)(m:(List Int)):Tree (Int×(List Int)×Int):=
.an (Q9n c m c.Pc 4 1) (.lv (Q23 c m c.Pc 4 1) λ(x0:Int×List Int×Int)=> .br (x0.2.2 !=0) (.lf (0,x0.2.1,x0.2.2)) (.an (Q33 x0.2.1 x0.1 4) (.lv (Q4s x0.2.1 x0.1 4) λ(x1:Int×Bool)=> .lf (x1.1,x0.2.1,0))))
def Qo3(c:Q04)(m:(List Int)):(Int×(List Int)×Int):=(Qb9 c m).m
abbrev Ql9(c:Q04)(m:(List Int)):Prop:=(Qb9 c m).p
def Zfp:Q0c:=mkP 155 [] true [.agg Q04.sig, .one (.ints .u32)] [] (λargs rows=>Ql9 (Q04.of (aC args 0)) (argL .u32 args 1)) (λargs rows=>Qo3 (Q04.of (aC args 0)) (argL .u32 args 1)) (λX=> .tup [.int .u32 (X.1), .all 0, .int .i64 (X.2.2)]) (λX=>[⟨false,23,1, .ints .u32 (X.2.1)⟩])
theorem Zdw:Q06 Tryz.prog Zfp:=Q0n Q0j Q0l (.cons Qjk (.cons Qas (.nil))) Tryz.func155 Tryz.call155 (λargs rows=>Qb9 (Q04.of (aC args 0)) (argL .u32 args 1)) [.row 23 1 (.ints .u32)] [] 2
def Qmk(op:Int):Tree Bool:=
.br (op==57) (.lf true) (.br (op==58) (.lf true) (.br (op==59) (.lf true) (.br (op==60) (.lf true) (.br (op==61) (.lf true) (.br (op==62) (.lf true) (.br (op==63) (.lf true) (.br (op==64) (.lf true) (.lf false))))))))
def Q8j(op:Int):Bool:=(Qmk op).m
def Qyc:Q0c:=mkR 157 [] true [.one (.int .i64)] [] (λargs rows=>Q8j (argI args 0)) (λX=> .bool X) (λX=>[])
theorem Qw2:Q06 Tryz.prog Qyc:=Q0z Q0j Q0l (.nil) Tryz.func157 Tryz.call157 (λargs rows=>Qmk (argI args 0)) [] [] 2
def Qr2(op:Int):Tree Int:=
.br (op==32) (.lf 4) (.br (op==35) (.lf 4) (.lf 1))
def Qex(op:Int):Int:=(Qr2 op).m
def Zf8:Q0c:=mkR 216 [] true [.one (.int .i64)] [] (λargs rows=>Qex (argI args 0)) (λX=> .int .i64 X) (λX=>[])
theorem Qxa:Q06 Tryz.prog Zf8:=Q0z Q0j Q0l (.nil) Tryz.func216 Tryz.call216 (λargs rows=>Qr2 (argI args 0)) [] [] 2
def Qch(c:Q04)(register:Int)(v:Int):Tree Q04:=
.br (register !=0) (.cn (Nat.blt 0 1&&decide (0<=register/\register<(↑16:Int))) (.lf ({X:=A16.of 0 (List.set (A16.l c.X) register.toNat v),Pc:=c.Pc,B5:=c.B5}))) (.lf c)
def Qai(c:Q04)(register:Int)(v:Int):Q04:=(Qch c register v).m
abbrev Q7g(c:Q04)(register:Int)(v:Int):Prop:=(Qch c register v).p
def vz:Q0c:=mkP 217 [] true [.agg Q04.sig, .one (.int .i64), .one (.int .u32)] [] (λargs rows=>Q7g (Q04.of (aC args 0)) (argI args 1) (argI args 2)) (λargs rows=>Qai (Q04.of (aC args 0)) (argI args 1) (argI args 2)) (λX=> .agg (Q04.cells X)) (λX=>[])
theorem Z5k:Q06 Tryz.prog vz:=Q0n Q0j Q0l (.nil) Tryz.func217 Tryz.call217 (λargs rows=>Qch (Q04.of (aC args 0)) (argI args 1) (argI args 2)) [] [] 2
def Qdb(c:Q04)(m:(List Int))(i:Q0k):Tree (Q04×(List Int)):=
.cn (Nat.blt 0 1&&decide (0<=i.B/\i.B<(↑16:Int))) (.lv (Qex i.Op) λ(x0:Int)=>let E1:=wrap u32 (List.getD (A16.l c.X) i.B.toNat 0+wrap u32 i.Imm); .an (Q9n c m E1 x0 2) (.lv (Q23 c m E1 x0 2) λ(x1:Int×List Int×Int)=> .br (x1.2.2 !=0) (.lv (Q4f c x1.2.2 E1) λ(x2:Q04)=> .lf (x2,x1.2.1)) (.lv (Qex i.Op) λ(x3:Int)=> .an (Q33 x1.2.1 x1.1 x3) (.lv (Q4s x1.2.1 x1.1 x3) λ(x4:Int×Bool)=> .br (i.Op==33) (.an (Qb4 x4.1 8) (.lv (Q2f x4.1 8) λ(x5:Int)=> .an (Q7g c i.A x5) (.lv (Qai c i.A x5) λ(x6:Q04)=> .lf ({X:=x6.X,Pc:=wrap u32 (x6.Pc+4),B5:=x6.B5},x1.2.1)))) (.an (Q7g c i.A x4.1) (.lv (Qai c i.A x4.1) λ(x7:Q04)=> .lf ({X:=x7.X,Pc:=wrap u32 (x7.Pc+4),B5:=x7.B5},x1.2.1)))))))
def Q6g(c:Q04)(m:(List Int))(i:Q0k):(Q04×(List Int)):=(Qdb c m i).m
abbrev Qxe(c:Q04)(m:(List Int))(i:Q0k):Prop:=(Qdb c m i).p
def Zlt:Q0c:=mkP 159 [] true [.agg Q04.sig, .one (.ints .u32), .agg Q0k.sig] [] (λargs rows=>Qxe (Q04.of (aC args 0)) (argL .u32 args 1) (Q0k.of (aC args 2))) (λargs rows=>Q6g (Q04.of (aC args 0)) (argL .u32 args 1) (Q0k.of (aC args 2))) (λX=> .tup [.agg (Q04.cells (X.1)), .all 0]) (λX=>[⟨false,23,1, .ints .u32 (X.2)⟩])
theorem Zfk:Q06 Tryz.prog Zlt:=Q0n Q0j Q0l (.cons Qjk (.cons Qxa (.cons Qiq (.cons Qas (.cons Qj1 (.cons Z5k (.nil))))))) Tryz.func159 Tryz.call159 (λargs rows=>Qdb (Q04.of (aC args 0)) (argL .u32 args 1) (Q0k.of (aC args 2))) [.row 23 1 (.ints .u32)] [] 2
def Qbf(c:Q04)(m:(List Int))(i:Q0k):Tree (Q04×(List Int)):=
.cn (Nat.blt 0 1&&decide (0<=i.B/\i.B<(↑16:Int))) (.lv (Qex i.Op) λ(x0:Int)=>let E1:=wrap u32 (List.getD (A16.l c.X) i.B.toNat 0+wrap u32 i.Imm); .an (Q9n c m E1 x0 3) (.lv (Q23 c m E1 x0 3) λ(x1:Int×List Int×Int)=> .br (x1.2.2 !=0) (.lv (Q4f c x1.2.2 E1) λ(x2:Q04)=> .lf (x2,x1.2.1)) (.lv (Qex i.Op) λ(x3:Int)=> .cn (Nat.blt 0 1&&decide (0<=i.A/\i.A<(↑16:Int))) (let E2:=List.getD (A16.l c.X) i.A.toNat 0; .an (Qaz x1.2.1 x1.1 x3 E2) (.lv (Q9r x1.2.1 x1.1 x3 E2) λ(x4:List Int×Bool)=> .lf ({X:=c.X,Pc:=wrap u32 (c.Pc+4),B5:=c.B5},x4.1))))))
def Q82(c:Q04)(m:(List Int))(i:Q0k):(Q04×(List Int)):=(Qbf c m i).m
abbrev Qtm(c:Q04)(m:(List Int))(i:Q0k):Prop:=(Qbf c m i).p
def Zg6:Q0c:=mkP 160 [] true [.agg Q04.sig, .one (.ints .u32), .agg Q0k.sig] [] (λargs rows=>Qtm (Q04.of (aC args 0)) (argL .u32 args 1) (Q0k.of (aC args 2))) (λargs rows=>Q82 (Q04.of (aC args 0)) (argL .u32 args 1) (Q0k.of (aC args 2))) (λX=> .tup [.agg (Q04.cells (X.1)), .all 0]) (λX=>[⟨false,23,1, .ints .u32 (X.2)⟩])
theorem Zd1:Q06 Tryz.prog Zg6:=Q0n Q0j Q0l (.cons Qjk (.cons Qxa (.cons Qiq (.cons Qnz (.nil))))) Tryz.func160 Tryz.call160 (λargs rows=>Qbf (Q04.of (aC args 0)) (argL .u32 args 1) (Q0k.of (aC args 2))) [.row 23 1 (.ints .u32)] [] 2
def Qzo(op:Int)(a:Int)(b:Int):Tree Bool:=
.br (op==40) (.lf (a==b)) (.br (op==41) (.lf (a !=b)) (.br (op==42) (.lf (decide (wrap i32 a<wrap i32 b))) (.br (op==43) (.lf (decide (wrap i32 a>=wrap i32 b))) (.br (op==44) (.lf (decide (a<b))) (.lf (decide (a>=b)))))))
def Zb9(op:Int)(a:Int)(b:Int):Bool:=(Qzo op a b).m
def Zfy:Q0c:=mkR 219 [] true [.one (.int .i64), .one (.int .u32), .one (.int .u32)] [] (λargs rows=>Zb9 (argI args 0) (argI args 1) (argI args 2)) (λX=> .bool X) (λX=>[])
theorem Zbp:Q06 Tryz.prog Zfy:=Q0z Q0j Q0l (.nil) Tryz.func219 Tryz.call219 (λargs rows=>Qzo (argI args 0) (argI args 1) (argI args 2)) [] [] 2
def Qew(c:Q04):Tree Q04:=
.lv (Q8q c.B5.a0 8 1) λ(x0:Int)=> .lv (Q8q x0 16 2) λ(x1:Int)=> .lf ({X:=c.X,Pc:=c.B5.a2,B5:={a0:=x1,a1:=c.B5.a1,a2:=c.B5.a2,a3:=c.B5.a3,a4:=c.B5.a4,a5:=c.B5.a5,a6:=c.B5.a6,a7:=c.B5.a7}})
def Qe7(c:Q04):Q04:=(Qew c).m
def Zcu:Q0c:=mkR 220 [] true [.agg Q04.sig] [] (λargs rows=>Qe7 (Q04.of (aC args 0))) (λX=> .agg (Q04.cells X)) (λX=>[])
theorem Z8d:Q06 Tryz.prog Zcu:=Q0z Q0j Q0l (.cons Z2t (.nil)) Tryz.func220 Tryz.call220 (λargs rows=>Qew (Q04.of (aC args 0))) [] [] 2
def Qbj(c:Q04)(csr:Int)(v:Int):Tree Q04:=
let E4:=Nat.blt 0 1&&decide (0<=csr/\csr<(↑8:Int));let T2:Tree (Q04):= .cn E4 (.lf ({X:=c.X,Pc:=c.Pc,B5:=A8.of 0 (List.set (A8.l c.B5) csr.toNat (iand u32 v 31))})); .br (csr==0) T2 (.br (csr==7) T2 (.br (csr==6) (.cn E4 (.lf ({X:=c.X,Pc:=c.Pc,B5:=A8.of 0 (List.set (A8.l c.B5) csr.toNat (iand u32 v 255))}))) (let T3:Tree (Q04):= .cn E4 (.lf ({X:=c.X,Pc:=c.Pc,B5:=A8.of 0 (List.set (A8.l c.B5) csr.toNat (Qg7 u32 v 3))})); .br (csr==1) T3 (.br (csr==2) T3 (let T1:Tree (Q04):= .cn E4 (.lf ({X:=c.X,Pc:=c.Pc,B5:=A8.of 0 (List.set (A8.l c.B5) csr.toNat v)})); .br (csr==3) T1 (.br (csr==4) T1 (.br (csr==5) T1 (.lf c))))))))
def Zei(c:Q04)(csr:Int)(v:Int):Q04:=(Qbj c csr v).m
abbrev Qrr(c:Q04)(csr:Int)(v:Int):Prop:=(Qbj c csr v).p
def Zhx:Q0c:=mkP 221 [] true [.agg Q04.sig, .one (.int .i64), .one (.int .u32)] [] (λargs rows=>Qrr (Q04.of (aC args 0)) (argI args 1) (argI args 2)) (λargs rows=>Zei (Q04.of (aC args 0)) (argI args 1) (argI args 2)) (λX=> .agg (Q04.cells X)) (λX=>[])
theorem Zda:Q06 Tryz.prog Zhx:=Q0n Q0j Q0l (.nil) Tryz.func221 Tryz.call221 (λargs rows=>Qbj (Q04.of (aC args 0)) (argI args 1) (argI args 2)) [] [] 2
def Q51(c:Q04)(i:Q0k):Tree (Q04×Q10):=
.cn (Nat.blt 0 1&&decide (0<=i.A/\i.A<(↑16:Int))) (.cn (Nat.blt 0 1&&decide (0<=i.B/\i.B<(↑16:Int))) (.br (i.Op==24) (.an (Q7g c i.A (ishl u32 (wrap u32 i.Imm) 16)) (.lv (Qai c i.A (ishl u32 (wrap u32 i.Imm) 16)) λ(x0:Q04)=> .lf ({X:=x0.X,Pc:=wrap u32 (c.Pc+4),B5:=x0.B5},{B7:=0,D1:=0,E0:=0,Value:=0}))) (let E2:=({X:=c.X,Pc:=wrap u32 (c.Pc+4),B5:=c.B5}:Q04);let E3:=List.getD (A16.l c.X) i.B.toNat 0;let E4:=List.getD (A16.l c.X) i.A.toNat 0;let T1:Tree ((Q04×Q10)):= .lv (Zb9 i.Op E4 E3) λ(x1:Bool)=> .br x1 (.lf ({X:=c.X,Pc:=wrap u32 (c.Pc+wrap u32 (4*wrap u32 i.Imm)),B5:=c.B5},{B7:=0,D1:=0,E0:=0,Value:=0})) (.lf (E2,{B7:=0,D1:=0,E0:=0,Value:=0})); .br (i.Op==40) T1 (.br (i.Op==41) T1 (.br (i.Op==42) T1 (.br (i.Op==43) T1 (.br (i.Op==44) T1 (.br (i.Op==45) T1 (.br (i.Op==48) (.an (Q7g c i.A (wrap u32 (c.Pc+4))) (.lv (Qai c i.A (wrap u32 (c.Pc+4))) λ(x7:Q04)=> .lf ({X:=x7.X,Pc:=wrap u32 (x7.Pc+wrap u32 (4*wrap u32 i.Imm)),B5:=x7.B5},{B7:=0,D1:=0,E0:=0,Value:=0}))) (.br (i.Op==49) (.an (Q7g c i.A (wrap u32 (c.Pc+4))) (.lv (Qai c i.A (wrap u32 (c.Pc+4))) λ(x8:Q04)=> .lf ({X:=x8.X,Pc:=wrap u32 (List.getD (A16.l c.X) i.B.toNat 0+wrap u32 i.Imm),B5:=x8.B5},{B7:=0,D1:=0,E0:=0,Value:=0}))) (.br (i.Op==56) (.lv (Q4f c 7 0) λ(x9:Q04)=> .lf (x9,{B7:=0,D1:=0,E0:=0,Value:=0})) (.br (i.Op==57) (.lv (Qe7 c) λ(x10:Q04)=> .lf (x10,{B7:=0,D1:=0,E0:=0,Value:=0})) (.br (i.Op==58) (.cn (Nat.blt 0 1&&decide (0<=i.Imm/\i.Imm<(↑8:Int))) (let E5:=List.getD (A8.l c.B5) i.Imm.toNat 0; .an (Q7g c i.A E5) (.lv (Qai c i.A E5) λ(x11:Q04)=> .lf ({X:=x11.X,Pc:=wrap u32 (c.Pc+4),B5:=x11.B5},{B7:=0,D1:=0,E0:=0,Value:=0})))) (.br (i.Op==59) (.an (Qrr c (wrap i64 i.Imm) E4) (.lv (Zei c (wrap i64 i.Imm) E4) λ(x12:Q04)=> .lf ({X:=x12.X,Pc:=wrap u32 (c.Pc+4),B5:=x12.B5},{B7:=0,D1:=0,E0:=0,Value:=0}))) (.br (i.Op==60) (.lf (E2,{B7:=1,D1:=wrap i64 i.Imm,E0:=i.A,Value:=0})) (.br (i.Op==61) (.lf (E2,{B7:=2,D1:=wrap i64 i.Imm,E0:=0,Value:=List.getD (A16.l c.X) i.A.toNat 0})) (.br (i.Op==62) (.lf (E2,{B7:=3,D1:=0,E0:=0,Value:=0})) (.br (i.Op==63) (.lf (E2,{B7:=5,D1:=0,E0:=0,Value:=0})) (.br (i.Op==64) (.lf (E2,{B7:=4,D1:=0,E0:=0,Value:=0})) (.cn (Nat.blt 0 1&&decide (0<=i.C/\i.C<(↑16:Int))) (.br (decide (i.Op>=16)) (.an (Qr7 i.Op E3 (wrap u32 i.Imm)) (.lv (Q4c i.Op E3 (wrap u32 i.Imm)) λ(x13:Int×Bool)=> .an (Q7g c i.A x13.1) (.lv (Qai c i.A x13.1) λ(x14:Q04)=> .lf ({X:=x14.X,Pc:=wrap u32 (c.Pc+4),B5:=x14.B5},{B7:=0,D1:=0,E0:=0,Value:=0})))) (let E6:=List.getD (A16.l c.X) i.C.toNat 0; .an (Qr7 i.Op E3 E6) (.lv (Q4c i.Op E3 E6) λ(x15:Int×Bool)=> .an (Q7g c i.A x15.1) (.lv (Qai c i.A x15.1) λ(x16:Q04)=> .lf ({X:=x16.X,Pc:=wrap u32 (c.Pc+4),B5:=x16.B5},{B7:=0,D1:=0,E0:=0,Value:=0})))))))))))))))))))))))))
def Qle(c:Q04)(i:Q0k):(Q04×Q10):=(Q51 c i).m
abbrev Qoi(c:Q04)(i:Q0k):Prop:=(Q51 c i).p
def Z7g:Q0c:=mkP 161 [] true [.agg Q04.sig, .agg Q0k.sig] [] (λargs rows=>Qoi (Q04.of (aC args 0)) (Q0k.of (aC args 1))) (λargs rows=>Qle (Q04.of (aC args 0)) (Q0k.of (aC args 1))) (λX=> .tup [.agg (Q04.cells (X.1)), .agg (Q10.cells (X.2))]) (λX=>[])
theorem Z3d:Q06 Tryz.prog Z7g:=Q0n Q0j Q0l (.cons Z5k (.cons Zbp (.cons Qiq (.cons Z8d (.cons Zda (.cons Zkv (.nil))))))) Tryz.func161 Tryz.call161 (λargs rows=>Q51 (Q04.of (aC args 0)) (Q0k.of (aC args 1))) [] [] 2
def Q71(c:Q04)(m:(List Int)):Tree (Q04×(List Int)×Q10):=
.an (Ql9 c m) (.lv (Qo3 c m) λ(x0:Int×List Int×Int)=> .br (x0.2.2 !=0) (.lv (Q4f c x0.2.2 c.Pc) λ(x1:Q04)=> .lf (x1,x0.2.1,{B7:=0,D1:=0,E0:=0,Value:=0})) (.an (Qjq x0.1) (.lv (Qgx x0.1) λ(x2:Q0k×Bool)=> .br (!x2.2) (.lv (Q4f c 1 x0.1) λ(x3:Q04)=> .lf (x3,x0.2.1,{B7:=0,D1:=0,E0:=0,Value:=0})) (.lv (Q8j x2.1.Op) λ(x4:Bool)=>let T1:Tree ((Q04×(List Int)×Q10)):=let T2:Tree ((Q04×(List Int)×Q10)):= .an (Qxe c x0.2.1 x2.1) (.lv (Q6g c x0.2.1 x2.1) λ(x7:Q04×List Int)=> .lf (x7.1,x7.2,{B7:=0,D1:=0,E0:=0,Value:=0})); .br (x2.1.Op==32) T2 (.br (x2.1.Op==33) T2 (.br (x2.1.Op==34) T2 (let T3:Tree ((Q04×(List Int)×Q10)):= .an (Qtm c x0.2.1 x2.1) (.lv (Q82 c x0.2.1 x2.1) λ(x10:Q04×List Int)=> .lf (x10.1,x10.2,{B7:=0,D1:=0,E0:=0,Value:=0})); .br (x2.1.Op==35) T3 (.br (x2.1.Op==36) T3 (.an (Qoi c x2.1) (.lv (Qle c x2.1) λ(x12:Q04×Q10)=> .lf (x12.1,x0.2.1,x12.2))))))); .br x4 (.lv (Qa0 c) λ(x5:Bool)=> .br (!x5) (.lv (Q4f c 2 x0.1) λ(x6:Q04)=> .lf (x6,x0.2.1,{B7:=0,D1:=0,E0:=0,Value:=0})) T1) T1))))
def Q7j(c:Q04)(m:(List Int)):(Q04×(List Int)×Q10):=(Q71 c m).m
abbrev Qiz(c:Q04)(m:(List Int)):Prop:=(Q71 c m).p
def Zm5:Q0c:=mkP 107 [] true [.agg Q04.sig, .one (.ints .u32)] [] (λargs rows=>Qiz (Q04.of (aC args 0)) (argL .u32 args 1)) (λargs rows=>Q7j (Q04.of (aC args 0)) (argL .u32 args 1)) (λX=> .tup [.agg (Q04.cells (X.1)), .all 0, .agg (Q10.cells (X.2.2))]) (λX=>[⟨false,23,1, .ints .u32 (X.2.1)⟩])
theorem Z2e:Q06 Tryz.prog Zm5:=Q0n Q0j Q0l (.cons Zdw (.cons Qiq (.cons Z9 (.cons Qw2 (.cons Qtc (.cons Zfk (.cons Zd1 (.cons Z3d (.nil))))))))) Tryz.func107 Tryz.call107 (λargs rows=>Q71 (Q04.of (aC args 0)) (argL .u32 args 1)) [.row 23 1 (.ints .u32)] [] 2
end
end Go.Proofs.YtjaifpiopmhmlaaGreat
