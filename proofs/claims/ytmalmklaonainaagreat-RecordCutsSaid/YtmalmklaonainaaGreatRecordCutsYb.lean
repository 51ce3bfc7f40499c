import Derived.Test.YtmalmklaonainaaGreatRecordCutsBase
import Derived.Test.YtmalmklaonainaaGreatRecordCutsYa
set_option maxRecDepth 100000
set_option linter.all false
namespace Go.Proofs.YtmalmklaonainaaGreat
open Go Go.GD Go.IntKind
noncomputable section
def Qo7(status:Int)(from0:Int)(to:Int):Tree Int:=
.br (iand u32 status from0 !=0) (.lf (ior u32 status to)) (.lf (Qg7 u32 status to))
def Q8l(status:Int)(from0:Int)(to:Int):Int:=(Qo7 status from0 to).m
def Zk6:Q0c:=mkR 230 [] true [.one (.int .u32), .one (.int .u32), .one (.int .u32)] [] (λargs rows=>Q8l (argI args 0) (argI args 1) (argI args 2)) (λX=> .int .u32 X) (λX=>[])
theorem Z01:Q04 Tryz.prog Zk6:=Q0v drawn Q0h (.nil) Tryz.func230 Tryz.call230 (λargs rows=>Qo7 (argI args 0) (argI args 1) (argI args 2)) [] [] 2
def Qjx(c:Q02)(cause:Int)(bad:Int):Tree Q02:=
.lv (Q8l c.B4.a0 1 8) λ(x0:Int)=> .lv (Q8l x0 2 16) λ(x1:Int)=> .lf ({X:=c.X,Pc:=c.B4.a1,B4:={a0:=Qg7 u32 (ior u32 x1 1) 2,a1:=c.B4.a1,a2:=c.Pc,a3:=wrap u32 cause,a4:=bad,a5:=c.B4.a5,a6:=c.B4.a6,a7:=c.B4.a7}})
def Q47(c:Q02)(cause:Int)(bad:Int):Q02:=(Qjx c cause bad).m
def Zji:Q0c:=mkR 178 [] true [.agg Q02.sig, .one (.int .i64), .one (.int .u32)] [] (λargs rows=>Q47 (Q02.of (aC args 0)) (argI args 1) (argI args 2)) (λX=> .agg (Q02.cells X)) (λX=>[])
theorem Qgw:Q04 Tryz.prog Zji:=Q0v drawn Q0h (.cons Z01 (.nil)) Tryz.func178 Tryz.call178 (λargs rows=>Qjx (Q02.of (aC args 0)) (argI args 1) (argI args 2)) [] [] 2
def Qr0(access:Int):Tree (Int×Bool):=
.br (access==1) (.lf (4,true)) (.br (access==2) (.lf (5,true)) (.br (access==3) (.lf (6,true)) (.lf (5,false))))
def Qqt(access:Int):(Int×Bool):=(Qr0 access).m
def Za0:Q0c:=mkR 272 [] true [.one (.int .i64)] [] (λargs rows=>Qqt (argI args 0)) (λX=> .tup [.int .i64 (X.1), .bool (X.2)]) (λX=>[])
theorem Z34:Q04 Tryz.prog Za0:=Q0v drawn Q0h (.nil) Tryz.func272 Tryz.call272 (λargs rows=>Qr0 (argI args 0)) [] [] 2
def Qwo(c:Q02):Tree Bool:=
.lf (iand u32 c.B4.a0 (1:Int) !=(0:Int))
def Qc3(c:Q02):Bool:=(Qwo c).m
def Zbu:Q0c:=mkR 182 [] true [.agg Q02.sig] [] (λargs rows=>Qc3 (Q02.of (aC args 0))) (λX=> .bool X) (λX=>[])
theorem Qrk:Q04 Tryz.prog Zbu:=Q0v drawn Q0h (.nil) Tryz.func182 Tryz.call182 (λargs rows=>Qwo (Q02.of (aC args 0))) [] [] 2
def Qll(access:Int):Tree (Int×Bool):=
.br (access==1) (.lf (4,true)) (.br (access==2) (.lf (5,true)) (.br (access==3) (.lf (6,true)) (.lf (5,false))))
def Qjb(access:Int):(Int×Bool):=(Qll access).m
def Qwu:Q0c:=mkR 306 [] true [.one (.int .i64)] [] (λargs rows=>Qjb (argI args 0)) (λX=> .tup [.int .i64 (X.1), .bool (X.2)]) (λX=>[])
theorem Qu1:Q04 Tryz.prog Qwu:=Q0v drawn Q0h (.nil) Tryz.func306 Tryz.call306 (λargs rows=>Qll (argI args 0)) [] [] 2
def Qh5(m:(List Int))(frame:Int):Tree Bool:=
.lv (Q0q m) λ(x0:Int)=> .lf (decide (wrap u64 frame<wrap u64 x0))
def Qa7(m:(List Int))(frame:Int):Bool:=(Qh5 m frame).m
def Z0t:Q0c:=mkR 307 [] true [.one (.ints .u32), .one (.int .u32)] [] (λargs rows=>Qa7 (argL .u32 args 0) (argI args 1)) (λX=> .bool X) (λX=>[])
theorem Qxq:Q04 Tryz.prog Z0t:=Q0v drawn Q0h (.cons Q45 (.nil)) Tryz.func307 Tryz.call307 (λargs rows=>Qh5 (argL .u32 args 0) (argI args 1)) [] [] 2
def Q6c(m:(List Int))(addr:Int)(size:Int):Tree (Int×Bool):=
.an (Qa6 m addr size) (.lv (Qgc m addr size) λ(x0:Bool)=> .br (!x0) (.lf (0,false)) (.cn (Nat.beq 1 1&&Nat.blt 0 1&&decide (0<=wrap u32 (Int.tdiv addr 4)/\wrap u32 (Int.tdiv addr 4)<(m.length:Int))) (let E1:=Int.toNat (wrap u32 (Int.tdiv addr 4)); .br (size==1) (let E2:=wrap i64 (wrap i64 (Int.tmod addr 4)*8); .an (Q50 (m.getD E1 0) E2 8) (.lv (Q2t (m.getD E1 0) E2 8) λ(x1:Int)=> .lf (x1,true))) (.lf (m.getD E1 0,true)))))
def Q4f(m:(List Int))(addr:Int)(size:Int):(Int×Bool):=(Q6c m addr size).m
abbrev Q32(m:(List Int))(addr:Int)(size:Int):Prop:=(Q6c m addr size).p
def Z8o:Q0c:=mkP 232 [] true [.one (.ints .u32), .one (.int .u32), .one (.int .i64)] [] (λargs rows=>Q32 (argL .u32 args 0) (argI args 1) (argI args 2)) (λargs rows=>Q4f (argL .u32 args 0) (argI args 1) (argI args 2)) (λX=> .tup [.int .u32 (X.1), .bool (X.2)]) (λX=>[])
theorem Qb1:Q04 Tryz.prog Z8o:=Q0k drawn Q0h (.cons Qly (.cons Qkh (.nil))) Tryz.func232 Tryz.call232 (λargs rows=>Q6c (argL .u32 args 0) (argI args 1) (argI args 2)) [] [] 2
def Qm3(pte:Int)(access:Int):Tree Bool:=
.br (iand u32 pte (1:Int)==(0:Int)) (.lf false) (.br (access==3) (.lf (iand u32 pte (2:Int) !=(0:Int))) (.br (access==1) (.lf (iand u32 pte (4:Int) !=(0:Int))) (.lf true)))
def Qaz(pte:Int)(access:Int):Bool:=(Qm3 pte access).m
def Qx:Q0c:=mkR 308 [] true [.one (.int .u32), .one (.int .i64)] [] (λargs rows=>Qaz (argI args 0) (argI args 1)) (λX=> .bool X) (λX=>[])
theorem Qu7:Q04 Tryz.prog Qx:=Q0v drawn Q0h (.nil) Tryz.func308 Tryz.call308 (λargs rows=>Qm3 (argI args 0) (argI args 1)) [] [] 2
def Q4d(pte:Int):Tree Int:=
.an (Q50 pte 8 8) (.lv (Q2t pte 8 8) λ(x0:Int)=> .lf x0)
def Qeo(pte:Int):Int:=(Q4d pte).m
abbrev Q8h(pte:Int):Prop:=(Q4d pte).p
def Qxt:Q0c:=mkP 309 [] true [.one (.int .u32)] [] (λargs rows=>Q8h (argI args 0)) (λargs rows=>Qeo (argI args 0)) (λX=> .int .u32 X) (λX=>[])
theorem Quk:Q04 Tryz.prog Qxt:=Q0k drawn Q0h (.cons Qkh (.nil)) Tryz.func309 Tryz.call309 (λargs rows=>Q4d (argI args 0)) [] [] 2
def Q6(m:(List Int))(root:Int)(va:Int)(access:Int):Tree Q15:=
.lv (Qjb access) λ(x0:Int×Bool)=>let E1:=({Addr:=0,F1:=0,E0:=x0.1}:Q15); .br (!x0.2) (.lf (E1)) (.br (decide (va>=4096)) (.lf (E1)) (.lv (Qa7 m root) λ(x1:Bool)=> .br (!x1) (.lf (E1)) (let E2:=wrap u32 (root*128)+wrap u32 (4*wrap u32 (Int.tdiv va 128)); .an (Q32 m (wrap u32 E2) 4) (.lv (Q4f m (wrap u32 E2) 4) λ(x2:Int×Bool)=> .br (!x2.2) (.lf (E1)) (.lv (Qaz x2.1 access) λ(x3:Bool)=> .br (!x3) (.lf (E1)) (.an (Q8h x2.1) (.lv (Qeo x2.1) λ(x4:Int)=> .lv (Qa7 m x4) λ(x5:Bool)=> .br (!x5) (.lf (E1)) (.an (Q8h x2.1) (.lv (Qeo x2.1) λ(x6:Int)=> .lf ({Addr:=wrap u32 (wrap u32 (x6*128)+Int.tmod va 128),F1:=wrap u32 E2,E0:=0}))))))))))
def Qic(m:(List Int))(root:Int)(va:Int)(access:Int):Q15:=(Q6 m root va access).m
abbrev Qde(m:(List Int))(root:Int)(va:Int)(access:Int):Prop:=(Q6 m root va access).p
def Z8w:Q0c:=mkP 273 [] true [.one (.ints .u32), .one (.int .u32), .one (.int .u32), .one (.int .i64)] [] (λargs rows=>Qde (argL .u32 args 0) (argI args 1) (argI args 2) (argI args 3)) (λargs rows=>Qic (argL .u32 args 0) (argI args 1) (argI args 2) (argI args 3)) (λX=> .agg (Q15.cells X)) (λX=>[])
theorem Z4c:Q04 Tryz.prog Z8w:=Q0k drawn Q0h (.cons Qu1 (.cons Qxq (.cons Qb1 (.cons Qu7 (.cons Quk (.nil)))))) Tryz.func273 Tryz.call273 (λargs rows=>Q6 (argL .u32 args 0) (argI args 1) (argI args 2) (argI args 3)) [] [] 2
def Q4z(m:(List Int))(entry:Int)(access:Int):Tree (List Int):=
.an (Q32 m entry 4) (.lv (Q4f m entry 4) λ(x0:Int×Bool)=> .br (!x0.2) (.an (Q07 m) (.lv (Q03 m) λ(x1:List Int)=> .lf x1)) (.br (access==3) (.an (Q7z m entry 4 (ior u32 (ior u32 x0.1 8) 16)) (.lv (Q8n m entry 4 (ior u32 (ior u32 x0.1 8) 16)) λ(x2:List Int×Bool)=> .lf x2.1)) (.an (Q7z m entry 4 (ior u32 x0.1 8)) (.lv (Q8n m entry 4 (ior u32 x0.1 8)) λ(x3:List Int×Bool)=> .lf x3.1))))
def Qc4(m:(List Int))(entry:Int)(access:Int):(List Int):=(Q4z m entry access).m
abbrev Qba(m:(List Int))(entry:Int)(access:Int):Prop:=(Q4z m entry access).p
def Z3j:Q0c:=mkP 274 [] true [.one (.ints .u32), .one (.int .u32), .one (.int .i64)] [] (λargs rows=>Qba (argL .u32 args 0) (argI args 1) (argI args 2)) (λargs rows=>Qc4 (argL .u32 args 0) (argI args 1) (argI args 2)) (λX=> .all 0) (λX=>[⟨false,25,1, .ints .u32 X⟩])
theorem Z0k:Q04 Tryz.prog Z3j:=Q0k drawn Q0h (.cons Qb1 (.cons Q0s (.cons Qn7 (.nil)))) Tryz.func274 Tryz.call274 (λargs rows=>Q4z (argL .u32 args 0) (argI args 1) (argI args 2)) [.row 25 1 (.ints .u32)] [] 2
def Q67(c:Q02)(m:(List Int))(va:Int)(size:Int)(access:Int):Tree (Int×(List Int)×Int):=
.lv (Qqt access) λ(x0:Int×Bool)=>let T3:Tree ((Int×(List Int)×Int)):= .an (Q07 m) (.lv (Q03 m) λ(x1:List Int)=> .lf (0,x1,5)); .br (!x0.2) T3 (let T1:Tree ((Int×(List Int)×Int)):= .cn (decide (wrap u32 size≠0)) (.br (Int.tmod va (wrap u32 size) !=0) (.an (Q07 m) (.lv (Q03 m) λ(x3:List Int)=> .lf (0,x3,3))) (.lv (Qc3 c) λ(x4:Bool)=>let T2:Tree ((Int×(List Int)×Int)):= .an (Q32 m va size) (.lv (Q4f m va size) λ(x8:Int×Bool)=> .br (!x8.2) (.an (Q07 m) (.lv (Q03 m) λ(x9:List Int)=> .lf (0,x9,x0.1))) (.an (Q07 m) (.lv (Q03 m) λ(x10:List Int)=> .lf (va,x10,0)))); .br (!x4) (.br (iand u32 c.B4.a0 (4:Int) !=(0:Int)) (.an (Qde m c.B4.a6 va access) (.lv (Qic m c.B4.a6 va access) λ(x5:Q15)=> .br (x5.E0 !=0) (.an (Q07 m) (.lv (Q03 m) λ(x6:List Int)=> .lf (0,x6,x5.E0))) (.an (Qba m x5.F1 access) (.lv (Qc4 m x5.F1 access) λ(x7:List Int)=> .lf (x5.Addr,x7,0))))) T2) T2)); .br (size !=1) (.br (size !=4) T3 T1) T1)
def Q1y(c:Q02)(m:(List Int))(va:Int)(size:Int)(access:Int):(Int×(List Int)×Int):=(Q67 c m va size access).m
abbrev Q98(c:Q02)(m:(List Int))(va:Int)(size:Int)(access:Int):Prop:=(Q67 c m va size access).p
def Z87:Q0c:=mkP 231 [] true [.agg Q02.sig, .one (.ints .u32), .one (.int .u32), .one (.int .i64), .one (.int .i64)] [] (λargs rows=>Q98 (Q02.of (aC args 0)) (argL .u32 args 1) (argI args 2) (argI args 3) (argI args 4)) (λargs rows=>Q1y (Q02.of (aC args 0)) (argL .u32 args 1) (argI args 2) (argI args 3) (argI args 4)) (λX=> .tup [.int .u32 (X.1), .all 0, .int .i64 (X.2.2)]) (λX=>[⟨false,25,1, .ints .u32 (X.2.1)⟩])
theorem Qjh:Q04 Tryz.prog Z87:=Q0k drawn Q0h (.cons Z34 (.cons Q0s (.cons Qrk (.cons Z4c (.cons Z0k (.cons Qb1 (.nil))))))) Tryz.func231 Tryz.call231 (λargs rows=>Q67 (Q02.of (aC args 0)) (argL .u32 args 1) (argI args 2) (argI args 3) (argI args 4)) [.row 25 1 (.ints .u32)] [] 2
def Qc1(c:Q02)(m:(List Int)):Tree (Int×(List Int)×Int):=
.an (Q98 c m c.Pc 4 1) (.lv (Q1y c m c.Pc 4 1) λ(x0:Int×List Int×Int)=> .br (x0.2.2 !=0) (.lf (0,x0.2.1,x0.2.2)) (.an (Q32 x0.2.1 x0.1 4) (.lv (Q4f x0.2.1 x0.1 4) λ(x1:Int×Bool)=> .lf (x1.1,x0.2.1,0))))
def Qnb(c:Q02)(m:(List Int)):(Int×(List Int)×Int):=(Qc1 c m).m
abbrev Qlb(c:Q02)(m:(List Int)):Prop:=(Qc1 c m).p
def Zep:Q0c:=mkP 179 [] true [.agg Q02.sig, .one (.ints .u32)] [] (λargs rows=>Qlb (Q02.of (aC args 0)) (argL .u32 args 1)) (λargs rows=>Qnb (Q02.of (aC args 0)) (argL .u32 args 1)) (λX=> .tup [.int .u32 (X.1), .all 0, .int .i64 (X.2.2)]) (λX=>[⟨false,25,1, .ints .u32 (X.2.1)⟩])
theorem Zar:Q04 Tryz.prog Zep:=Q0k drawn Q0h (.cons Qjh (.cons Qb1 (.nil))) Tryz.func179 Tryz.call179 (λargs rows=>Qc1 (Q02.of (aC args 0)) (argL .u32 args 1)) [.row 25 1 (.ints .u32)] [] 2
def Qm2(op:Int):Tree Bool:=
.br (op==57) (.lf true) (.br (op==58) (.lf true) (.br (op==59) (.lf true) (.br (op==60) (.lf true) (.br (op==61) (.lf true) (.br (op==62) (.lf true) (.br (op==63) (.lf true) (.br (op==64) (.lf true) (.lf false))))))))
def Q8e(op:Int):Bool:=(Qm2 op).m
def Qxd:Q0c:=mkR 181 [] true [.one (.int .i64)] [] (λargs rows=>Q8e (argI args 0)) (λX=> .bool X) (λX=>[])
theorem Qud:Q04 Tryz.prog Qxd:=Q0v drawn Q0h (.nil) Tryz.func181 Tryz.call181 (λargs rows=>Qm2 (argI args 0)) [] [] 2
def Qq0(op:Int):Tree Int:=
.br (op==32) (.lf 4) (.br (op==35) (.lf 4) (.lf 1))
def Qff(op:Int):Int:=(Qq0 op).m
def Zfo:Q0c:=mkR 237 [] true [.one (.int .i64)] [] (λargs rows=>Qff (argI args 0)) (λX=> .int .i64 X) (λX=>[])
theorem Qvx:Q04 Tryz.prog Zfo:=Q0v drawn Q0h (.nil) Tryz.func237 Tryz.call237 (λargs rows=>Qq0 (argI args 0)) [] [] 2
def Q8r(c:Q02)(register:Int)(v:Int):Tree Q02:=
.br (register !=0) (.cn (Nat.blt 0 1&&decide (0<=register/\register<(↑16:Int))) (.lf ({X:=A16.of 0 (List.set (A16.l c.X) register.toNat v),Pc:=c.Pc,B4:=c.B4}))) (.lf c)
def Qao(c:Q02)(register:Int)(v:Int):Q02:=(Q8r c register v).m
abbrev Q6s(c:Q02)(register:Int)(v:Int):Prop:=(Q8r c register v).p
def yy:Q0c:=mkP 238 [] true [.agg Q02.sig, .one (.int .i64), .one (.int .u32)] [] (λargs rows=>Q6s (Q02.of (aC args 0)) (argI args 1) (argI args 2)) (λargs rows=>Qao (Q02.of (aC args 0)) (argI args 1) (argI args 2)) (λX=> .agg (Q02.cells X)) (λX=>[])
theorem Z6d:Q04 Tryz.prog yy:=Q0k drawn Q0h (.nil) Tryz.func238 Tryz.call238 (λargs rows=>Q8r (Q02.of (aC args 0)) (argI args 1) (argI args 2)) [] [] 2
def Qa1(c:Q02)(m:(List Int))(i:Q0i):Tree (Q02×(List Int)):=
.cn (Nat.blt 0 1&&decide (0<=i.B/\i.B<(↑16:Int))) (.lv (Qff i.Op) λ(x0:Int)=>let E1:=wrap u32 (List.getD (A16.l c.X) i.B.toNat 0+wrap u32 i.Imm); .an (Q98 c m E1 x0 2) (.lv (Q1y c m E1 x0 2) λ(x1:Int×List Int×Int)=> .br (x1.2.2 !=0) (.lv (Q47 c x1.2.2 E1) λ(x2:Q02)=> .lf (x2,x1.2.1)) (.lv (Qff i.Op) λ(x3:Int)=> .an (Q32 x1.2.1 x1.1 x3) (.lv (Q4f x1.2.1 x1.1 x3) λ(x4:Int×Bool)=> .br (i.Op==33) (.an (Q7j x4.1 8) (.lv (Q25 x4.1 8) λ(x5:Int)=> .an (Q6s c i.A x5) (.lv (Qao c i.A x5) λ(x6:Q02)=> .lf ({X:=x6.X,Pc:=wrap u32 (x6.Pc+4),B4:=x6.B4},x1.2.1)))) (.an (Q6s c i.A x4.1) (.lv (Qao c i.A x4.1) λ(x7:Q02)=> .lf ({X:=x7.X,Pc:=wrap u32 (x7.Pc+4),B4:=x7.B4},x1.2.1)))))))
def Q6e(c:Q02)(m:(List Int))(i:Q0i):(Q02×(List Int)):=(Qa1 c m i).m
abbrev Qn0(c:Q02)(m:(List Int))(i:Q0i):Prop:=(Qa1 c m i).p
def Zl6:Q0c:=mkP 183 [] true [.agg Q02.sig, .one (.ints .u32), .agg Q0i.sig] [] (λargs rows=>Qn0 (Q02.of (aC args 0)) (argL .u32 args 1) (Q0i.of (aC args 2))) (λargs rows=>Q6e (Q02.of (aC args 0)) (argL .u32 args 1) (Q0i.of (aC args 2))) (λX=> .tup [.agg (Q02.cells (X.1)), .all 0]) (λX=>[⟨false,25,1, .ints .u32 (X.2)⟩])
theorem Zh9:Q04 Tryz.prog Zl6:=Q0k drawn Q0h (.cons Qjh (.cons Qvx (.cons Qgw (.cons Qb1 (.cons Qil (.cons Z6d (.nil))))))) Tryz.func183 Tryz.call183 (λargs rows=>Qa1 (Q02.of (aC args 0)) (argL .u32 args 1) (Q0i.of (aC args 2))) [.row 25 1 (.ints .u32)] [] 2
def Q7e(c:Q02)(m:(List Int))(i:Q0i):Tree (Q02×(List Int)):=
.cn (Nat.blt 0 1&&decide (0<=i.B/\i.B<(↑16:Int))) (.lv (Qff i.Op) λ(x0:Int)=>let E1:=wrap u32 (List.getD (A16.l c.X) i.B.toNat 0+wrap u32 i.Imm); .an (Q98 c m E1 x0 3) (.lv (Q1y c m E1 x0 3) λ(x1:Int×List Int×Int)=> .br (x1.2.2 !=0) (.lv (Q47 c x1.2.2 E1) λ(x2:Q02)=> .lf (x2,x1.2.1)) (.lv (Qff i.Op) λ(x3:Int)=> .cn (Nat.blt 0 1&&decide (0<=i.A/\i.A<(↑16:Int))) (let E2:=List.getD (A16.l c.X) i.A.toNat 0; .an (Q7z x1.2.1 x1.1 x3 E2) (.lv (Q8n x1.2.1 x1.1 x3 E2) λ(x4:List Int×Bool)=> .lf ({X:=c.X,Pc:=wrap u32 (c.Pc+4),B4:=c.B4},x4.1))))))
def Q7y(c:Q02)(m:(List Int))(i:Q0i):(Q02×(List Int)):=(Q7e c m i).m
abbrev Ql7(c:Q02)(m:(List Int))(i:Q0i):Prop:=(Q7e c m i).p
def Zfr:Q0c:=mkP 184 [] true [.agg Q02.sig, .one (.ints .u32), .agg Q0i.sig] [] (λargs rows=>Ql7 (Q02.of (aC args 0)) (argL .u32 args 1) (Q0i.of (aC args 2))) (λargs rows=>Q7y (Q02.of (aC args 0)) (argL .u32 args 1) (Q0i.of (aC args 2))) (λX=> .tup [.agg (Q02.cells (X.1)), .all 0]) (λX=>[⟨false,25,1, .ints .u32 (X.2)⟩])
theorem Ze0:Q04 Tryz.prog Zfr:=Q0k drawn Q0h (.cons Qjh (.cons Qvx (.cons Qgw (.cons Qn7 (.nil))))) Tryz.func184 Tryz.call184 (λargs rows=>Q7e (Q02.of (aC args 0)) (argL .u32 args 1) (Q0i.of (aC args 2))) [.row 25 1 (.ints .u32)] [] 2
def Qz2(op:Int)(a:Int)(b:Int):Tree Bool:=
.br (op==40) (.lf (a==b)) (.br (op==41) (.lf (a !=b)) (.br (op==42) (.lf (decide (wrap i32 a<wrap i32 b))) (.br (op==43) (.lf (decide (wrap i32 a>=wrap i32 b))) (.br (op==44) (.lf (decide (a<b))) (.lf (decide (a>=b)))))))
def Zdb(op:Int)(a:Int)(b:Int):Bool:=(Qz2 op a b).m
def Zgu:Q0c:=mkR 240 [] true [.one (.int .i64), .one (.int .u32), .one (.int .u32)] [] (λargs rows=>Zdb (argI args 0) (argI args 1) (argI args 2)) (λX=> .bool X) (λX=>[])
theorem Zav:Q04 Tryz.prog Zgu:=Q0v drawn Q0h (.nil) Tryz.func240 Tryz.call240 (λargs rows=>Qz2 (argI args 0) (argI args 1) (argI args 2)) [] [] 2
def Qf2(c:Q02):Tree Q02:=
.lv (Q8l c.B4.a0 8 1) λ(x0:Int)=> .lv (Q8l x0 16 2) λ(x1:Int)=> .lf ({X:=c.X,Pc:=c.B4.a2,B4:={a0:=x1,a1:=c.B4.a1,a2:=c.B4.a2,a3:=c.B4.a3,a4:=c.B4.a4,a5:=c.B4.a5,a6:=c.B4.a6,a7:=c.B4.a7}})
def Qdx(c:Q02):Q02:=(Qf2 c).m
def Zc:Q0c:=mkR 241 [] true [.agg Q02.sig] [] (λargs rows=>Qdx (Q02.of (aC args 0))) (λX=> .agg (Q02.cells X)) (λX=>[])
theorem Z7w:Q04 Tryz.prog Zc:=Q0v drawn Q0h (.cons Z01 (.nil)) Tryz.func241 Tryz.call241 (λargs rows=>Qf2 (Q02.of (aC args 0))) [] [] 2
def Q7u(c:Q02)(csr:Int)(v:Int):Tree Q02:=
let E4:=Nat.blt 0 1&&decide (0<=csr/\csr<(↑8:Int));let T2:Tree (Q02):= .cn E4 (.lf ({X:=c.X,Pc:=c.Pc,B4:=A8.of 0 (List.set (A8.l c.B4) csr.toNat (iand u32 v 31))})); .br (csr==0) T2 (.br (csr==7) T2 (.br (csr==6) (.cn E4 (.lf ({X:=c.X,Pc:=c.Pc,B4:=A8.of 0 (List.set (A8.l c.B4) csr.toNat (iand u32 v 255))}))) (let T3:Tree (Q02):= .cn E4 (.lf ({X:=c.X,Pc:=c.Pc,B4:=A8.of 0 (List.set (A8.l c.B4) csr.toNat (Qg7 u32 v 3))})); .br (csr==1) T3 (.br (csr==2) T3 (let T1:Tree (Q02):= .cn E4 (.lf ({X:=c.X,Pc:=c.Pc,B4:=A8.of 0 (List.set (A8.l c.B4) csr.toNat v)})); .br (csr==3) T1 (.br (csr==4) T1 (.br (csr==5) T1 (.lf c))))))))
def Za8(c:Q02)(csr:Int)(v:Int):Q02:=(Q7u c csr v).m
abbrev Qko(c:Q02)(csr:Int)(v:Int):Prop:=(Q7u c csr v).p
def Zhd:Q0c:=mkP 242 [] true [.agg Q02.sig, .one (.int .i64), .one (.int .u32)] [] (λargs rows=>Qko (Q02.of (aC args 0)) (argI args 1) (argI args 2)) (λargs rows=>Za8 (Q02.of (aC args 0)) (argI args 1) (argI args 2)) (λX=> .agg (Q02.cells X)) (λX=>[])
theorem Zbp:Q04 Tryz.prog Zhd:=Q0k drawn Q0h (.nil) Tryz.func242 Tryz.call242 (λargs rows=>Q7u (Q02.of (aC args 0)) (argI args 1) (argI args 2)) [] [] 2
def Q35(c:Q02)(i:Q0i):Tree (Q02×Q1):=
.cn (Nat.blt 0 1&&decide (0<=i.A/\i.A<(↑16:Int))) (.cn (Nat.blt 0 1&&decide (0<=i.B/\i.B<(↑16:Int))) (.br (i.Op==24) (.an (Q6s c i.A (ishl u32 (wrap u32 i.Imm) 16)) (.lv (Qao c i.A (ishl u32 (wrap u32 i.Imm) 16)) λ(x0:Q02)=> .lf ({X:=x0.X,Pc:=wrap u32 (c.Pc+4),B4:=x0.B4},{B7:=0,C9:=0,D8:=0,Value:=0}))) (let E2:=({X:=c.X,Pc:=wrap u32 (c.Pc+4),B4:=c.B4}:Q02);let E3:=List.getD (A16.l c.X) i.B.toNat 0;let E4:=List.getD (A16.l c.X) i.A.toNat 0;let T1:Tree ((Q02×Q1)):= .lv (Zdb i.Op E4 E3) λ(x1:Bool)=> .br x1 (.lf ({X:=c.X,Pc:=wrap u32 (c.Pc+wrap u32 (4*wrap u32 i.Imm)),B4:=c.B4},{B7:=0,C9:=0,D8:=0,Value:=0})) (.lf (E2,{B7:=0,C9:=0,D8:=0,Value:=0})); .br (i.Op==40) T1 (.br (i.Op==41) T1 (.br (i.Op==42) T1 (.br (i.Op==43) T1 (.br (i.Op==44) T1 (.br (i.Op==45) T1 (.br (i.Op==48) (.an (Q6s c i.A (wrap u32 (c.Pc+4))) (.lv (Qao c i.A (wrap u32 (c.Pc+4))) λ(x7:Q02)=> .lf ({X:=x7.X,Pc:=wrap u32 (x7.Pc+wrap u32 (4*wrap u32 i.Imm)),B4:=x7.B4},{B7:=0,C9:=0,D8:=0,Value:=0}))) (.br (i.Op==49) (.an (Q6s c i.A (wrap u32 (c.Pc+4))) (.lv (Qao c i.A (wrap u32 (c.Pc+4))) λ(x8:Q02)=> .lf ({X:=x8.X,Pc:=wrap u32 (List.getD (A16.l c.X) i.B.toNat 0+wrap u32 i.Imm),B4:=x8.B4},{B7:=0,C9:=0,D8:=0,Value:=0}))) (.br (i.Op==56) (.lv (Q47 c 7 0) λ(x9:Q02)=> .lf (x9,{B7:=0,C9:=0,D8:=0,Value:=0})) (.br (i.Op==57) (.lv (Qdx c) λ(x10:Q02)=> .lf (x10,{B7:=0,C9:=0,D8:=0,Value:=0})) (.br (i.Op==58) (.cn (Nat.blt 0 1&&decide (0<=i.Imm/\i.Imm<(↑8:Int))) (let E5:=List.getD (A8.l c.B4) i.Imm.toNat 0; .an (Q6s c i.A E5) (.lv (Qao c i.A E5) λ(x11:Q02)=> .lf ({X:=x11.X,Pc:=wrap u32 (c.Pc+4),B4:=x11.B4},{B7:=0,C9:=0,D8:=0,Value:=0})))) (.br (i.Op==59) (.an (Qko c (wrap i64 i.Imm) E4) (.lv (Za8 c (wrap i64 i.Imm) E4) λ(x12:Q02)=> .lf ({X:=x12.X,Pc:=wrap u32 (c.Pc+4),B4:=x12.B4},{B7:=0,C9:=0,D8:=0,Value:=0}))) (.br (i.Op==60) (.lf (E2,{B7:=1,C9:=wrap i64 i.Imm,D8:=i.A,Value:=0})) (.br (i.Op==61) (.lf (E2,{B7:=2,C9:=wrap i64 i.Imm,D8:=0,Value:=List.getD (A16.l c.X) i.A.toNat 0})) (.br (i.Op==62) (.lf (E2,{B7:=3,C9:=0,D8:=0,Value:=0})) (.br (i.Op==63) (.lf (E2,{B7:=5,C9:=0,D8:=0,Value:=0})) (.br (i.Op==64) (.lf (E2,{B7:=4,C9:=0,D8:=0,Value:=0})) (.cn (Nat.blt 0 1&&decide (0<=i.C/\i.C<(↑16:Int))) (.br (decide (i.Op>=16)) (.an (Qks i.Op E3 (wrap u32 i.Imm)) (.lv (Q3y i.Op E3 (wrap u32 i.Imm)) λ(x13:Int×Bool)=> .an (Q6s c i.A x13.1) (.lv (Qao c i.A x13.1) λ(x14:Q02)=> .lf ({X:=x14.X,Pc:=wrap u32 (c.Pc+4),B4:=x14.B4},{B7:=0,C9:=0,D8:=0,Value:=0})))) (let E6:=List.getD (A16.l c.X) i.C.toNat 0; .an (Qks i.Op E3 E6) (.lv (Q3y i.Op E3 E6) λ(x15:Int×Bool)=> .an (Q6s c i.A x15.1) (.lv (Qao c i.A x15.1) λ(x16:Q02)=> .lf ({X:=x16.X,Pc:=wrap u32 (c.Pc+4),B4:=x16.B4},{B7:=0,C9:=0,D8:=0,Value:=0})))))))))))))))))))))))))
def Qlk(c:Q02)(i:Q0i):(Q02×Q1):=(Q35 c i).m
abbrev Qhx(c:Q02)(i:Q0i):Prop:=(Q35 c i).p
def Z9z:Q0c:=mkP 185 [] true [.agg Q02.sig, .agg Q0i.sig] [] (λargs rows=>Qhx (Q02.of (aC args 0)) (Q0i.of (aC args 1))) (λargs rows=>Qlk (Q02.of (aC args 0)) (Q0i.of (aC args 1))) (λX=> .tup [.agg (Q02.cells (X.1)), .agg (Q1.cells (X.2))]) (λX=>[])
theorem Z3z:Q04 Tryz.prog Z9z:=Q0k drawn Q0h (.cons Z6d (.cons Zav (.cons Qgw (.cons Z7w (.cons Zbp (.cons Zkp (.nil))))))) Tryz.func185 Tryz.call185 (λargs rows=>Q35 (Q02.of (aC args 0)) (Q0i.of (aC args 1))) [] [] 2
def Q70(c:Q02)(m:(List Int)):Tree (Q02×(List Int)×Q1):=
.an (Qlb c m) (.lv (Qnb c m) λ(x0:Int×List Int×Int)=> .br (x0.2.2 !=0) (.lv (Q47 c x0.2.2 c.Pc) λ(x1:Q02)=> .lf (x1,x0.2.1,{B7:=0,C9:=0,D8:=0,Value:=0})) (.an (Qjd x0.1) (.lv (Qgm x0.1) λ(x2:Q0i×Bool)=> .br (!x2.2) (.lv (Q47 c 1 x0.1) λ(x3:Q02)=> .lf (x3,x0.2.1,{B7:=0,C9:=0,D8:=0,Value:=0})) (.lv (Q8e x2.1.Op) λ(x4:Bool)=>let T1:Tree ((Q02×(List Int)×Q1)):=let T2:Tree ((Q02×(List Int)×Q1)):= .an (Qn0 c x0.2.1 x2.1) (.lv (Q6e c x0.2.1 x2.1) λ(x7:Q02×List Int)=> .lf (x7.1,x7.2,{B7:=0,C9:=0,D8:=0,Value:=0})); .br (x2.1.Op==32) T2 (.br (x2.1.Op==33) T2 (.br (x2.1.Op==34) T2 (let T3:Tree ((Q02×(List Int)×Q1)):= .an (Ql7 c x0.2.1 x2.1) (.lv (Q7y c x0.2.1 x2.1) λ(x10:Q02×List Int)=> .lf (x10.1,x10.2,{B7:=0,C9:=0,D8:=0,Value:=0})); .br (x2.1.Op==35) T3 (.br (x2.1.Op==36) T3 (.an (Qhx c x2.1) (.lv (Qlk c x2.1) λ(x12:Q02×Q1)=> .lf (x12.1,x0.2.1,x12.2))))))); .br x4 (.lv (Qc3 c) λ(x5:Bool)=> .br (!x5) (.lv (Q47 c 2 x0.1) λ(x6:Q02)=> .lf (x6,x0.2.1,{B7:=0,C9:=0,D8:=0,Value:=0})) T1) T1))))
def Qa8(c:Q02)(m:(List Int)):(Q02×(List Int)×Q1):=(Q70 c m).m
abbrev Qj1(c:Q02)(m:(List Int)):Prop:=(Q70 c m).p
def Zkc:Q0c:=mkP 114 [] true [.agg Q02.sig, .one (.ints .u32)] [] (λargs rows=>Qj1 (Q02.of (aC args 0)) (argL .u32 args 1)) (λargs rows=>Qa8 (Q02.of (aC args 0)) (argL .u32 args 1)) (λX=> .tup [.agg (Q02.cells (X.1)), .all 0, .agg (Q1.cells (X.2.2))]) (λX=>[⟨false,25,1, .ints .u32 (X.2.1)⟩])
theorem Z14:Q04 Tryz.prog Zkc:=Q0k drawn Q0h (.cons Zar (.cons Qgw (.cons Z9m (.cons Qud (.cons Qrk (.cons Zh9 (.cons Ze0 (.cons Z3z (.nil))))))))) Tryz.func114 Tryz.call114 (λargs rows=>Q70 (Q02.of (aC args 0)) (argL .u32 args 1)) [.row 25 1 (.ints .u32)] [] 2
end
end Go.Proofs.YtmalmklaonainaaGreat
