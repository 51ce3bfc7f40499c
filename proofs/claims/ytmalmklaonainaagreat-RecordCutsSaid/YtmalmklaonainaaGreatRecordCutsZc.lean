import Derived.Test.YtmalmklaonainaaGreatRecordCutsBase
import Derived.Test.YtmalmklaonainaaGreatRecordCutsZa
import Derived.Test.YtmalmklaonainaaGreatRecordCutsZb
set_option maxRecDepth 100000
set_option linter.all false
namespace Go.Proofs.YtmalmklaonainaaGreat
open Go Go.GD Go.IntKind
noncomputable section
def Qd(steps:Int):Tree Int:=
.lf (if 4000<if 0>steps then 0 else steps then 4000 else if 0>steps then 0 else steps)
def Q0z(steps:Int):Int:=(Qd steps).m
def Qzu:Q0c:=mkR 158 [] true [.one (.int .i64)] [] (λargs rows=>Q0z (argI args 0)) (λX=> .int .i64 X) (λX=>[])
theorem Qx5:Q04 Tryz.prog Qzu:=Q0v drawn Q0h (.nil) Tryz.func158 Tryz.call158 (λargs rows=>Qd (argI args 0)) [] [] 2
def Z6n(t:Q0f)(now:Int):Tree Bool:=
.br t.D3 (.lf (decide (now>=t.C7))) (.lf false)
def Qbb(t:Q0f)(now:Int):Bool:=(Z6n t now).m
def Zlo:Q0c:=mkR 214 [] true [.agg Q0f.sig, .one (.int .u32)] [] (λargs rows=>Qbb (Q0f.of (aC args 0)) (argI args 1)) (λX=> .bool X) (λX=>[])
theorem Zeo:Q04 Tryz.prog Zlo:=Q0v drawn Q0h (.nil) Tryz.func214 Tryz.call214 (λargs rows=>Z6n (Q0f.of (aC args 0)) (argI args 1)) [] [] 2
def Qdh(m:Q01)(z:(Int)):Nat:=(32-z).toNat
def Q49(m:Q01):Tree Q02:=
.an (Qfv m) (.lv (Q2v m) λ(x0:Int)=> .br (iand u32 m.B2.B4.a0 (2:Int)==(0:Int)) (.lf m.B2) (.br (x0==0) (.lf m.B2) (.lp inferInstance (Qdh m 0+1) ((rZ/\rZ/\rE (x0:Int)/\rE (0:Int)/\True)/\(mE m (((Els.Nil (Els.ints u32 m.Mem)\/rE (1:Nat))/\rE m.Mem)) True)/\(rE (0:Int)/\rE (0:Int)/\rE (0:Int)/\rE (0:Int)/\rE (0:Int)/\rE (0:Int)/\rE (0:Int)/\rE (0:Int)/\rE (0:Int)/\rE (0:Int)/\rE (0:Int)/\rE (0:Int)/\rE (0:Int)/\rE (0:Int)/\rE (0:Int)/\rE (0:Int)/\rE (0:Int)/\rE (0:Int)/\rE (0:Int)/\rE (0:Int)/\rE (0:Int)/\rE (0:Int)/\rE (0:Int)/\rE (0:Int)/\rE (0:Int)/\True)/\True) 0 λ(v0:Int)=> .cn (decide (0<=wrap u64 v0)) (.br (iand u32 (ishr u32 x0 (wrap u64 v0)) (1:Int)==(0:Int)) (.nx ((rZ/\rZ/\rE (x0:Int)/\rE ((wrap i64 (v0+1)):Int)/\True)/\(mE m (((Els.Nil (Els.ints u32 m.Mem)\/rE (1:Nat))/\rE m.Mem)) True)/\(rE (0:Int)/\rE (0:Int)/\rE (0:Int)/\rE (0:Int)/\rE (0:Int)/\rE (0:Int)/\rE (0:Int)/\rE (0:Int)/\rE (0:Int)/\rE (0:Int)/\rE (0:Int)/\rE (0:Int)/\rE (0:Int)/\rE (0:Int)/\rE (0:Int)/\rE (0:Int)/\rE (0:Int)/\rE (0:Int)/\rE (0:Int)/\rE (0:Int)/\rE (0:Int)/\rE (0:Int)/\rE (0:Int)/\rE (0:Int)/\rE (0:Int)/\True)/\True) (Sum.inl (wrap i64 (v0+1)))) (.lv (Q2m m.B2 (wrap i64 (16+v0)) 0) λ(x1:Q02)=> .lf (Sum.inr x1))))))
def Q0n(m:Q01):Q02:=(Q49 m).m
abbrev Q6x(m:Q01):Prop:=(Q49 m).p
def Qq8:LInv:={
 α:=(Int)
 F:=λst a=>([(1, .ptr 0 0 0),(2, .ptr 1 0 0),(3,(lk st 3)),(4, .int i64 a)],[⟨true,43,49, .gen [mB (cT st 1)]⟩,⟨true,29,25, .gen [[(cT st 2 0),(cT st 2 1),(cT st 2 2),(cT st 2 3),(cT st 2 4),(cT st 2 5),(cT st 2 6),(cT st 2 7),(cT st 2 8),(cT st 2 9),(cT st 2 10),(cT st 2 11),(cT st 2 12),(cT st 2 13),(cT st 2 14),(cT st 2 15),(cT st 2 16),(cT st 2 17),(cT st 2 18),(cT st 2 19),(cT st 2 20),(cT st 2 21),(cT st 2 22),(cT st 2 23),(cT st 2 24)]]⟩])
 a0:=λst=>(lk st 4).toInt
 ex0:=λst=>[]++[(Q0m (lk st 1) (st.rows.length+0)),(Q0m (lk st 2) (st.rows.length+1))]
 next:=λst=>(lk st 4).toInt
 ex:=λst=>[]++[(Q0m (lk st 1) (st.rows.length+0)),(Q0m (lk st 2) (st.rows.length+1))]}
def Qnn:List (Nat×LInv):=[(5,Qq8)]
def Qrc:Q0c:=mkP 186 [] true [.agg Q01.sig] [] (λargs rows=>Q6x (Q01.of (aC args 0))) (λargs rows=>Q0n (Q01.of (aC args 0))) (λX=> .agg (Q02.cells X)) (λX=>[])
theorem Qbu:Q04 Tryz.prog Qrc:=Q0k drawn Q0h (.cons Qnj (.cons Qj (.nil))) Tryz.func186 Tryz.call186 (λargs rows=>Q49 (Q01.of (aC args 0))) [] Qnn 3
def Qer(m:Q01):Tree Bool:=
.an (Q6x m) (.lv (Q0n m) λ(x0:Q02)=> .br (iand u32 x0.B4.a0 (1:Int)==(0:Int)) (.lf false) (.an (Qcm m.Mem x0.Pc 4) (.lv (Q23 m.Mem x0.Pc 4) λ(x1:Int×Bool)=> .lv (Q3o x1.1) λ(x2:Q0i×Bool)=> .br x1.2 (.br x2.2 (.br (x2.1.Op==60) (.lf (x2.1.Imm==2)) (.lf false)) (.lf false)) (.lf false))))
def Qub(m:Q01):Bool:=(Qer m).m
abbrev Qj4(m:Q01):Prop:=(Qer m).p
def Zci:Q0c:=mkP 116 [] true [.agg Q01.sig] [] (λargs rows=>Qj4 (Q01.of (aC args 0))) (λargs rows=>Qub (Q01.of (aC args 0))) (λX=> .bool X) (λX=>[])
theorem Qr4:Q04 Tryz.prog Zci:=Q0k drawn Q0h (.cons Qbu (.cons Qnk (.cons Qpg (.nil)))) Tryz.func116 Tryz.call116 (λargs rows=>Qer (Q01.of (aC args 0))) [] [] 2
def Q75(m:Q01):Tree Bool:=
.an (Qef m) (.lv (Q1u m) λ(x0:Bool)=> .br x0 (.lf false) (.an (Qj4 m) (.lv (Qub m) λ(x1:Bool)=> .lf x1)))
def Q2n(m:Q01):Bool:=(Q75 m).m
abbrev Qc0(m:Q01):Prop:=(Q75 m).p
def Qtm:Q0c:=mkP 31 [] true [.agg Q01.sig] [] (λargs rows=>Qc0 (Q01.of (aC args 0))) (λargs rows=>Q2n (Q01.of (aC args 0))) (λX=> .bool X) (λX=>[])
theorem Qrf:Q04 Tryz.prog Qtm:=Q0k drawn Q0h (.cons Qqu (.cons Qr4 (.nil))) Tryz.func31 Tryz.call31 (λargs rows=>Q75 (Q01.of (aC args 0))) [] [] 2
def Q3b(c:Q0b)(port:Int):Tree (Q0b×Int):=
let T1:Tree ((Q0b×Int)):= .br (port==0) (.cn (decide ((0:Int)<=(1:Int)/\1<=(c.D0.length:Int)/\(c.D0.length:Int)<=(c.D0.length:Int))) (.cn (decide ((0:Int)<=(0:Int)/\0<(c.D0.length:Int))) (.lf ({D0:=List.take (Int.toNat (c.D0.length:Int)-Int.toNat 1) (List.drop (Int.toNat 1) c.D0)},wrap u32 (↑(UInt8.toNat (c.D0.getD (Int.toNat 0) (0:UInt8))):Int))))) (.br (port==1) (.lf (c,wrap u32 (c.D0.length:Int))) (.lf (c,0))); .br (port==0) (.br ((c.D0.length:Int)==(0:Int)) (.lf (c,4294967295)) T1) T1
def Q4y(c:Q0b)(port:Int):(Q0b×Int):=(Q3b c port).m
theorem Qs6(c:Q0b)(port:Int):(Q3b c port).p:=by
 unfold Tree.p Q3b
 repeat'(first|exact trivial|refine w_br (λ_=> ?_) (λ_=> ?_)|refine w_cn ?_ ?_|refine w_an ?_ ?_|refine w_lv (λ_ _=> ?_)|refine w_nx ?_|refine w_lf ?_|refine And.intro ?_ ?_)
 all_goals(exact fin0)
def Qxl:Q0c:=mkR 260 [] true [.agg Q0b.sig, .one (.int .i64)] [] (λargs rows=>Q4y (Q0b.of (aC args 0)) (argI args 1)) (λX=> .tup [.agg (Q0b.cells (X.1)), .int .u32 (X.2)]) (λX=>[])
theorem Qke:Q04 Tryz.prog Qxl:=Q0v drawn Q0h (.nil) Tryz.func260 Tryz.call260 (λargs rows=>Q3b (Q0b.of (aC args 0)) (argI args 1)) [] [] 2 (λ_ _ _=>by kernel_rfl) (λ_ _=>rfl) (λargs rows=>Qs6 (Q0b.of (aC args 0)) (argI args 1)) (λ_ X=>by kernel_rfl)
def Qen(t:Q0f):Tree Int:=
.br t.D2 (.lf 1) (.lf 0)
def Qfb(t:Q0f):Int:=(Qen t).m
def Z2u:Q0c:=mkR 261 [] true [.agg Q0f.sig] [] (λargs rows=>Qfb (Q0f.of (aC args 0))) (λX=> .int .u32 X) (λX=>[])
theorem Qni:Q04 Tryz.prog Z2u:=Q0v drawn Q0h (.nil) Tryz.func261 Tryz.call261 (λargs rows=>Qen (Q0f.of (aC args 0))) [] [] 2
def Qg4(d0:Q0d)(port:Int):Tree Int:=
.br (port==4) (.lf d0.C1) (.br (port==5) (.lf d0.Frame) (.br (port==6) (.lf (wrap u32 d0.C0)) (.lf 0)))
def Qib(d0:Q0d)(port:Int):Int:=(Qg4 d0 port).m
def Z8b:Q0c:=mkR 262 [] true [.agg Q0d.sig, .one (.int .i64)] [] (λargs rows=>Qib (Q0d.of (aC args 0)) (argI args 1)) (λX=> .int .u32 X) (λX=>[])
theorem Qp0:Q04 Tryz.prog Z8b:=Q0v drawn Q0h (.nil) Tryz.func262 Tryz.call262 (λargs rows=>Qg4 (Q0d.of (aC args 0)) (argI args 1)) [] [] 2
def Qfh(n:Q0l)(port:Int):Tree Int:=
.br (port==7) (.lf n.Frame) (.br (port==8) (.lf n.F0) (.br (port==9) (.br n.C5 (.br n.B6 (.lf (wrap u32 ((1:Int)+(2:Int)))) (.lf 1)) (.br n.B6 (.lf (wrap u32 ((0:Int)+(2:Int)))) (.lf 0))) (.lf 0)))
def Qgo(n:Q0l)(port:Int):Int:=(Qfh n port).m
def Ze:Q0c:=mkR 263 [] true [.agg Q0l.sig, .one (.int .i64)] [] (λargs rows=>Qgo (Q0l.of (aC args 0)) (argI args 1)) (λX=> .int .u32 X) (λX=>[])
theorem Qrr:Q04 Tryz.prog Ze:=Q0v drawn Q0h (.nil) Tryz.func263 Tryz.call263 (λargs rows=>Qfh (Q0l.of (aC args 0)) (argI args 1)) [] [] 2
def Q5w(b:Q05)(port:Int):Tree Int:=
.br (port==10) (.lf b.C8) (.br (port==11) (.lv (Qdn b) λ(x0:Int)=> .lf (wrap u32 x0)) (.lf 0))
def Q4q(b:Q05)(port:Int):Int:=(Q5w b port).m
def Qwv:Q0c:=mkR 264 [] true [.agg Q05.sig, .one (.int .i64)] [] (λargs rows=>Q4q (Q05.of (aC args 0)) (argI args 1)) (λX=> .int .u32 X) (λX=>[])
theorem Qjn:Q04 Tryz.prog Qwv:=Q0v drawn Q0h (.cons Qrb (.nil)) Tryz.func264 Tryz.call264 (λargs rows=>Q5w (Q05.of (aC args 0)) (argI args 1)) [] [] 2
def Qkc(m:Q01)(port:Int)(clock:Int):Tree (Int×Q01):=
.br (decide (port<=1)) (.lv (Q4y m.A4 port) λ(x0:Q0b×Int)=> .lf (x0.2,{B2:=m.B2,Mem:=m.Mem,A4:=x0.1,B0:=m.B0,B1:=m.B1,C4:=m.C4,A1:=m.A1,A3:=m.A3,A6:=m.A6,A9:=m.A9})) (.br (port==2) (.lf (clock,m)) (.br (port==3) (.lv (Qfb m.B0) λ(x1:Int)=> .lf (x1,m)) (.br (decide (port<=6)) (.lv (Qib m.B1 port) λ(x2:Int)=> .lf (x2,m)) (.br (decide (port<=9)) (.lv (Qgo m.C4 port) λ(x3:Int)=> .lf (x3,m)) (.lv (Q4q m.A1 port) λ(x4:Int)=> .lf (x4,m))))))
def Qdb(m:Q01)(port:Int)(clock:Int):(Int×Q01):=(Qkc m port clock).m
def qA:Q0c:=mkR 218 [true,false,false] true [.ptr 0, .one (.int .i64), .one (.int .u32)] [.box 43 49 (Q01.sigW (.row 1)), .arr 25 1 (.ints .u32)] (λargs rows=>Qdb (Q01.ofW (rows.getD 0 default).cs (rowL .u32 rows 1)) (argI args 1) (argI args 2)) (λX=> .int .u32 (X.1)) (λX=>[⟨true,43,49, .gen [(Q01.cellsW (X.2) (.all 1))]⟩,⟨false,25,1, .ints .u32 (X.2).Mem⟩])
theorem Zkn:Q04 Tryz.prog qA:=Q0v drawn Q0h (.cons Qke (.cons Qni (.cons Qp0 (.cons Qrr (.cons Qjn (.nil)))))) Tryz.func218 Tryz.call218 (λargs rows=>Qkc (Q01.ofW (rows.getD 0 default).cs (rowL .u32 rows 1)) (argI args 1) (argI args 2)) [.row 25 1 (.ints .u32)] [] 2
def Qtf(deadline:Int):Tree Q0f:=
.br (deadline==0) (.lf ({D3:=false,C7:=0,D2:=false})) (.lf ({D3:=true,C7:=deadline,D2:=false}))
def Qsr(deadline:Int):Q0f:=(Qtf deadline).m
def Zlr:Q0c:=mkR 265 [] true [.one (.int .u32)] [] (λargs rows=>Qsr (argI args 0)) (λX=> .agg (Q0f.cells X)) (λX=>[])
theorem Z02:Q04 Tryz.prog Zlr:=Q0v drawn Q0h (.nil) Tryz.func265 Tryz.call265 (λargs rows=>Qtf (argI args 0)) [] [] 2
def Qt2(x:Int)(n:Int)(z:(Int)×(List Int)):Prop:=0<=z.1/\(z.2.length:Int)=z.1/\(z.1<=n\/z.1=0)
def Qei(x:Int)(n:Int)(z:(Int)×(List Int)):Nat:=(n-z.1).toNat
def Qgn(x:Int)(n:Int):Tree (List UInt8):=
.lp inferInstance (Qei x n (0,[])+1) ((rE (x:Int)/\rE (n:Int)/\True/\rE (0:Int)/\True)/\rE ([]:List Int)/\True) (0,[]) λ(v0:Int×List Int)=> .br (decide (v0.1<n)) (.cn (decide (0<=wrap u64 (wrap i64 (8*v0.1)))) (.cn (decide (1*(v0.2.length+1)<=140737488355328)) (.nx ((rE (x:Int)/\rE (n:Int)/\True/\rE ((wrap i64 (v0.1+1)):Int)/\True)/\rE ((v0.2++[wrap u8 (ishr u32 x (wrap u64 (wrap i64 (8*v0.1))))]):List Int)/\True) (Sum.inl (wrap i64 (v0.1+1),v0.2++[wrap u8 (ishr u32 x (wrap u64 (wrap i64 (8*v0.1))))]))))) (.lf (Sum.inr (bytesOf v0.2)))
def Z9e(x:Int)(n:Int):(List UInt8):=(Qgn x n).m
def Qix(x:Int)(n:Int):Prop:=
n<=1000000000000
theorem Zbg(x:Int)(n:Int)(hw:Qix x n):(Qgn x n).p:=by
 simp only[Qix]at hw
 unfold Tree.p Qgn
 repeat'(first|refine w_lp (inv:=Qt2 x n) (μ:=Qei x n) ?_ (Nat.lt_succ_self _) (λ_ _=> ?_)|exact trivial|refine w_br (λ_=> ?_) (λ_=> ?_)|refine w_cn ?_ ?_|refine w_an ?_ ?_|refine w_lv (λ_ _=> ?_)|refine w_nx ?_|refine w_lf ?_|refine And.intro ?_ ?_)
 all_goals((try simp only[Qt2,Qei]at*);exact fin0)
def Zf5:LInv:={
 α:=(Int)×(List Int)
 F:=λst a=>([(0,(lk st 0)),(1,(lk st 1)),(5, .all 0),(6, .int i64 a.1)],[⟨false,5,1, .ints u8 a.2⟩])
 a0:=λst=>((lk st 6).toInt,(Q4s st.rows (rN st 5)))
 ex0:=λst=>[]++[(Q0m (lk st 5) (st.rows.length+0))]
 next:=λst=>((lk st 6).toInt,(Q4s st.rows (rN st 5)))
 ex:=λst=>[]++[(Q0m (lk st 5) (st.rows.length+0))]}
def Z7o:List (Nat×LInv):=[(3,Zf5)]
def Zl:Q0c:=mkP 315 [] true [.one (.int .u32), .one (.int .i64)] [] (λargs rows=>Qix (argI args 0) (argI args 1)) (λargs rows=>Z9e (argI args 0) (argI args 1)) (λX=> .str X) (λX=>[])
theorem Zgh:Q04 Tryz.prog Zl:=Q0k drawn Q0h (.nil) Tryz.func315 Tryz.call315 (λargs rows=>Qgn (argI args 0) (argI args 1)) [] Z7o 3 (hp:=λargs rows h=>Zbg (argI args 0) (argI args 1) h)
def Qhr(m:(List Int))(frame:Int)(z:(Int)×(List Int)):Nat:=(32-z.1).toNat
def Q9h(m:(List Int))(frame:Int):Tree ((List UInt8)×Bool):=
.br (decide (frame<0)) (.lf ([],false)) (.lv (Q3l m) λ(x0:Int)=> .br (decide (frame>=x0)) (.lf ([],false)) (.lp inferInstance (Qhr m frame (0,[])+1) ((((Els.Nil (Els.ints u32 m)\/rE (1:Nat))/\rE (m:List Int))/\rE (frame:Int)/\True/\rE (0:Int)/\True)/\rE ([]:List Int)/\True) (0,[]) λ(v0:Int×List Int)=> .br (decide (v0.1<32)) (.cn (Nat.beq 1 1&&Nat.blt 0 1&&decide (0<=wrap i64 (wrap i64 (frame*32)+v0.1)/\wrap i64 (wrap i64 (frame*32)+v0.1)<(m.length:Int))) (let E1:=m.getD (Int.toNat (wrap i64 (wrap i64 (frame*32)+v0.1))) 0; .an (Qix E1 4) (.lv (Z9e E1 4) λ(x1:List UInt8)=> .cn (decide (1*(v0.2.length+List.length (Qb2 x1))<=140737488355328)) (.nx ((((Els.Nil (Els.ints u32 m)\/rE (1:Nat))/\rE (m:List Int))/\rE (frame:Int)/\True/\rE ((wrap i64 (v0.1+1)):Int)/\True)/\rE ((v0.2++Qb2 x1):List Int)/\True) (Sum.inl (wrap i64 (v0.1+1),v0.2++Qb2 x1)))))) (.lf (Sum.inr (bytesOf v0.2,true)))))
def Qhz(m:(List Int))(frame:Int):((List UInt8)×Bool):=(Q9h m frame).m
abbrev Qgh(m:(List Int))(frame:Int):Prop:=(Q9h m frame).p
def Zbs:LInv:={
 α:=(Int)×(List Int)
 F:=λst a=>([(0,(lk st 0)),(1,(lk st 1)),(6, .all 0),(7, .int i64 a.1)],[⟨false,5,1, .ints u8 a.2⟩])
 a0:=λst=>((lk st 7).toInt,(Q4s st.rows (rN st 6)))
 ex0:=λst=>[]++[(Q0m (lk st 6) (st.rows.length+0))]
 next:=λst=>((lk st 7).toInt,(Q4s st.rows (rN st 6)))
 ex:=λst=>[]++[(Q0m (lk st 6) (st.rows.length+0))]}
def Z3n:List (Nat×LInv):=[(5,Zbs)]
def Zf:Q0c:=mkP 304 [] true [.one (.ints .u32), .one (.int .i64)] [] (λargs rows=>Qgh (argL .u32 args 0) (argI args 1)) (λargs rows=>Qhz (argL .u32 args 0) (argI args 1)) (λX=> .tup [.str (X.1), .bool (X.2)]) (λX=>[])
theorem Qvu:Q04 Tryz.prog Zf:=Q0k drawn Q0h (.cons Qcp (.cons Zgh (.nil))) Tryz.func304 Tryz.call304 (λargs rows=>Q9h (argL .u32 args 0) (argI args 1)) [] Z3n 3
def Qp3(d0:Q0d)(at0:Int):Tree (Q09×Bool):=
.br (d0.C0 !=1) (.lf ({B7:=0,At:=0,C1:=0,C6:=[]},false)) (.br (d0.D7==1) (.lf ({B7:=3,At:=at0,C1:=d0.B5,C6:=[]},true)) (.br (d0.D7==2) (.lf ({B7:=4,At:=at0,C1:=d0.B5,C6:=d0.C3},true)) (.lf ({B7:=0,At:=0,C1:=0,C6:=[]},false))))
def Qiz(d0:Q0d)(at0:Int):(Q09×Bool):=(Qp3 d0 at0).m
def Z3k:Q0c:=mkR 305 [] true [.agg Q0d.sig, .one (.int .u64)] [] (λargs rows=>Qiz (Q0d.of (aC args 0)) (argI args 1)) (λX=> .tup [.agg (Q09.cells (X.1)), .bool (X.2)]) (λX=>[])
theorem Z1d:Q04 Tryz.prog Z3k:=Q0v drawn Q0h (.nil) Tryz.func305 Tryz.call305 (λargs rows=>Qp3 (Q0d.of (aC args 0)) (argI args 1)) [] [] 2
def Q8c(d0:Q0d)(m:(List Int))(port:Int)(v:Int)(at0:Int):Tree (Q0d×(List Q09)):=
.br (port==4) (.lf ({Blocks:=d0.Blocks,C1:=v,Frame:=d0.Frame,C0:=d0.C0,D7:=d0.D7,B5:=d0.B5,B3:=d0.B3,C3:=d0.C3},[])) (.br (port==5) (.lf ({Blocks:=d0.Blocks,C1:=d0.C1,Frame:=v,C0:=d0.C0,D7:=d0.D7,B5:=d0.B5,B3:=d0.B3,C3:=d0.C3},[])) (.br (port !=6) (.lf (d0,[])) (let T1:Tree ((Q0d×(List Q09))):= .br (d0.C0==0) (let T2:Tree ((Q0d×(List Q09))):= .lf ({Blocks:=d0.Blocks,C1:=d0.C1,Frame:=d0.Frame,C0:=3,D7:=d0.D7,B5:=d0.B5,B3:=d0.B3,C3:=d0.C3},[]); .br (decide (d0.C1>=d0.Blocks)) T2 (.lv (Q1z m d0.Frame) λ(x0:Bool)=> .br (!x0) T2 (.br (v==2) (.an (Qgh m (wrap i64 d0.Frame)) (.lv (Qhz m (wrap i64 d0.Frame)) λ(x1:List UInt8×Bool)=>let E4:=({Blocks:=d0.Blocks,C1:=d0.C1,Frame:=d0.Frame,C0:=1,D7:=wrap i64 v,B5:=d0.C1,B3:=d0.Frame,C3:=x1.1}:Q0d); .lv (Qiz E4 at0) λ(x2:Q09×Bool)=> .lf (E4,[x2.1]))) (let E5:=({Blocks:=d0.Blocks,C1:=d0.C1,Frame:=d0.Frame,C0:=1,D7:=wrap i64 v,B5:=d0.C1,B3:=d0.Frame,C3:=[]}:Q0d); .lv (Qiz E5 at0) λ(x3:Q09×Bool)=> .lf (E5,[x3.1]))))) (.lf (d0,[])); .br (v==0) (let T3:Tree ((Q0d×(List Q09))):= .lf ({Blocks:=d0.Blocks,C1:=d0.C1,Frame:=d0.Frame,C0:=0,D7:=d0.D7,B5:=d0.B5,B3:=d0.B3,C3:=d0.C3},[]); .br (d0.C0==2) T3 (.br (d0.C0==3) T3 (.br (v==1) T1 (.br (v==2) T1 (.lf (d0,[])))))) (.br (v==1) T1 (.br (v==2) T1 (.lf (d0,[])))))))
def Qev(d0:Q0d)(m:(List Int))(port:Int)(v:Int)(at0:Int):(Q0d×(List Q09)):=(Q8c d0 m port v at0).m
abbrev Qfp(d0:Q0d)(m:(List Int))(port:Int)(v:Int)(at0:Int):Prop:=(Q8c d0 m port v at0).p
def Z2w:Q0c:=mkP 266 [] true [.agg Q0d.sig, .one (.ints .u32), .one (.int .i64), .one (.int .u32), .one (.int .u64)] [] (λargs rows=>Qfp (Q0d.of (aC args 0)) (argL .u32 args 1) (argI args 2) (argI args 3) (argI args 4)) (λargs rows=>Qev (Q0d.of (aC args 0)) (argL .u32 args 1) (argI args 2) (argI args 3) (argI args 4)) (λX=> .tup [.agg (Q0d.cells (X.1)), .sl 4 (.recs .apiOutput (X.2)) true]) (λX=>[])
theorem Qnp:Q04 Tryz.prog Z2w:=Q0k drawn Q0h (.cons Qfg (.cons Qvu (.cons Z1d (.nil)))) Tryz.func266 Tryz.call266 (λargs rows=>Q8c (Q0d.of (aC args 0)) (argL .u32 args 1) (argI args 2) (argI args 3) (argI args 4)) [.sl (.recs .apiOutput) true] [] 2
def Qai(n:Q0l)(m:(List Int))(port:Int)(v:Int)(at0:Int):Tree (Q0l×(List Q09)):=
.br (port==7) (.lf ({Frame:=v,D9:=n.D9,C5:=n.C5,B8:=n.B8,B6:=n.B6,F0:=n.F0},[])) (.br (port==8) (.lf ({Frame:=n.Frame,D9:=v,C5:=n.C5,B8:=n.B8,B6:=n.B6,F0:=n.F0},[])) (.br (port !=9) (.lf (n,[])) (.br (v==0) (.lf ({Frame:=n.Frame,D9:=n.D9,C5:=n.C5,B8:=n.B8,B6:=false,F0:=0},[])) (let T1:Tree ((Q0l×(List Q09))):= .br (v==2) (.lv (Q1z m n.Frame) λ(x2:Bool)=> .br x2 (.br (!n.C5) (.br (!n.B6) (.lf ({Frame:=n.Frame,D9:=n.D9,C5:=true,B8:=n.Frame,B6:=n.B6,F0:=n.F0},[])) (.lf (n,[]))) (.lf (n,[]))) (.lf (n,[]))) (.lf (n,[])); .br (v==1) (.br (decide (n.D9>=1)) (.br (decide (n.D9<=128)) (.lv (Q1z m n.Frame) λ(x0:Bool)=> .br x0 (.an (Qgh m (wrap i64 n.Frame)) (.lv (Qhz m (wrap i64 n.Frame)) λ(x1:List UInt8×Bool)=> .cn (decide ((0:Int)<=(0:Int)/\0<=n.D9/\n.D9<=(x1.1.length:Int))) (.lf (n,[{B7:=2,At:=at0,C1:=0,C6:=List.take (Int.toNat n.D9-Int.toNat 0) (List.drop (Int.toNat 0) x1.1)}])))) T1) T1) T1) T1))))
def Qh7(n:Q0l)(m:(List Int))(port:Int)(v:Int)(at0:Int):(Q0l×(List Q09)):=(Qai n m port v at0).m
abbrev Qhj(n:Q0l)(m:(List Int))(port:Int)(v:Int)(at0:Int):Prop:=(Qai n m port v at0).p
def Z92:Q0c:=mkP 267 [] true [.agg Q0l.sig, .one (.ints .u32), .one (.int .i64), .one (.int .u32), .one (.int .u64)] [] (λargs rows=>Qhj (Q0l.of (aC args 0)) (argL .u32 args 1) (argI args 2) (argI args 3) (argI args 4)) (λargs rows=>Qh7 (Q0l.of (aC args 0)) (argL .u32 args 1) (argI args 2) (argI args 3) (argI args 4)) (λX=> .tup [.agg (Q0l.cells (X.1)), .sl 4 (.recs .apiOutput (X.2)) true]) (λX=>[])
theorem Qpj:Q04 Tryz.prog Z92:=Q0k drawn Q0h (.cons Qfg (.cons Qvu (.nil))) Tryz.func267 Tryz.call267 (λargs rows=>Qai (Q0l.of (aC args 0)) (argL .u32 args 1) (argI args 2) (argI args 3) (argI args 4)) [.sl (.recs .apiOutput) true] [] 2
def Qi(b:Q05)(m:(List Int))(port:Int)(v:Int)(z:(Int)×(List Int)):Nat:=(32-z.1).toNat
def Q4e(b:Q05)(m:(List Int))(port:Int)(v:Int):Tree (Q05×(List Int)):=
let T1:Tree ((Q05×(List Int))):= .br (port==11) (.br (decide (v<32)) (.cn (decide (0<=v)) (.lf ({C8:=b.C8,C2:=Qg7 u32 b.C2 (ishl u32 1 v)},m))) (.lf (b,m))) (.lf (b,m)); .br (port==10) (.lv (Q1z m v) λ(x0:Bool)=> .br x0 (.cn (decide (0<=v)) (.br (iand u32 (ishr u32 b.C2 v) (1:Int)==(0:Int)) (.cn (decide (0<=v)) (.lp inferInstance (Qi b m port v (0,m)+1) ((True/\rE (v:Int)/\rZ/\rZ/\rE (0:Int)/\True)/\rE (m:List Int)/\(rE b.C8/\rE ((ior u32 b.C2 (ishl u32 1 v)):Int)/\True)/\(rE (0:Int)/\rE (0:Int)/\True)/\True) (0,m) λ(v0:Int×List Int)=> .br (decide (v0.1<32)) (let E2:=wrap i64 (wrap i64 v*32)+v0.1; .cn (Nat.beq 1 1&&Nat.blt 0 1&&decide (0<=wrap i64 E2/\wrap i64 E2<(v0.2.length:Int))) (.nx ((True/\rE (v:Int)/\rZ/\rZ/\rE ((wrap i64 (v0.1+1)):Int)/\True)/\rE ((List.set v0.2 (Int.toNat (wrap i64 (wrap i64 (wrap i64 v*32)+v0.1))) 0):List Int)/\(rE b.C8/\rE ((ior u32 b.C2 (ishl u32 1 v)):Int)/\True)/\(rE (0:Int)/\rE (0:Int)/\True)/\True) (Sum.inl (wrap i64 (v0.1+1),List.set v0.2 (Int.toNat (wrap i64 E2)) 0)))) (.lf (Sum.inr ({C8:=b.C8,C2:=ior u32 b.C2 (ishl u32 1 v)},v0.2))))) T1)) T1) T1
def Q60(b:Q05)(m:(List Int))(port:Int)(v:Int):(Q05×(List Int)):=(Q4e b m port v).m
abbrev Qki(b:Q05)(m:(List Int))(port:Int)(v:Int):Prop:=(Q4e b m port v).p
def Zap:LInv:={
 α:=(Int)×(List Int)
 F:=λst a=>([(1, .all 0),(3,(lk st 3)),(4, .ptr 1 0 0),(8, .ptr 2 0 0),(9, .int i64 a.1)],[⟨false,25,1, .ints u32 a.2⟩,⟨true,40,2, .gen [[(cT st 4 0),(cT st 4 1)]]⟩,⟨true,40,2, .gen [[(cT st 8 0),(cT st 8 1)]]⟩])
 a0:=λst=>((lk st 9).toInt,(Q4s st.rows 0))
 ex0:=λst=>[0]++[(Q0m (lk st 4) (st.rows.length+1)),(Q0m (lk st 8) (st.rows.length+2))]
 next:=λst=>((lk st 9).toInt,(Q4s st.rows 0))
 ex:=λst=>[0]++[(Q0m (lk st 4) (st.rows.length+1)),(Q0m (lk st 8) (st.rows.length+2))]}
def Z2i:List (Nat×LInv):=[(4,Zap)]
def Zf4:Q0c:=mkP 268 [false,true,false,false] true [.agg Q05.sig, .one (.row 0), .one (.int .i64), .one (.int .u32)] [.arr 25 1 (.ints .u32)] (λargs rows=>Qki (Q05.of (aC args 0)) (rowL .u32 rows 0) (argI args 2) (argI args 3)) (λargs rows=>Q60 (Q05.of (aC args 0)) (rowL .u32 rows 0) (argI args 2) (argI args 3)) (λX=> .agg (Q05.cells (X.1))) (λX=>[⟨false,25,1, .ints .u32 (X.2)⟩])
theorem Qvi:Q04 Tryz.prog Zf4:=Q0k drawn Q0h (.cons Qfg (.nil)) Tryz.func268 Tryz.call268 (λargs rows=>Q4e (Q05.of (aC args 0)) (rowL .u32 rows 0) (argI args 2) (argI args 3)) [] Z2i 3
def Qee(m:Q01)(port:Int)(v:Int):Tree ((List Q09)×Q01):=
.br (port==0) (.lf ([{B7:=1,At:=m.A3,C1:=0,C6:=[(λ(n:Int)=>UInt8.ofNat n.toNat) (wrap u8 v)]}],m)) (.br (decide (port<=2)) (.lf ([],m)) (.br (port==3) (.lv (Qsr v) λ(x0:Q0f)=> .lf ([],{B2:=m.B2,Mem:=m.Mem,A4:=m.A4,B0:=x0,B1:=m.B1,C4:=m.C4,A1:=m.A1,A3:=m.A3,A6:=m.A6,A9:=m.A9})) (.br (decide (port<=6)) (.an (Qfp m.B1 m.Mem port v m.A3) (.lv (Qev m.B1 m.Mem port v m.A3) λ(x1:Q0d×List Q09)=> .lf (x1.2,{B2:=m.B2,Mem:=m.Mem,A4:=m.A4,B0:=m.B0,B1:=x1.1,C4:=m.C4,A1:=m.A1,A3:=m.A3,A6:=m.A6,A9:=m.A9}))) (.br (decide (port<=9)) (.an (Qhj m.C4 m.Mem port v m.A3) (.lv (Qh7 m.C4 m.Mem port v m.A3) λ(x2:Q0l×List Q09)=> .lf (x2.2,{B2:=m.B2,Mem:=m.Mem,A4:=m.A4,B0:=m.B0,B1:=m.B1,C4:=x2.1,A1:=m.A1,A3:=m.A3,A6:=m.A6,A9:=m.A9}))) (.an (Qki m.A1 m.Mem port v) (.lv (Q60 m.A1 m.Mem port v) λ(x3:Q05×List Int)=> .lf ([],{B2:=m.B2,Mem:=x3.2,A4:=m.A4,B0:=m.B0,B1:=m.B1,C4:=m.C4,A1:=x3.1,A3:=m.A3,A6:=m.A6,A9:=m.A9})))))))
def Q9v(m:Q01)(port:Int)(v:Int):((List Q09)×Q01):=(Qee m port v).m
abbrev Qwb(m:Q01)(port:Int)(v:Int):Prop:=(Qee m port v).p
def Zlq:Q0c:=mkP 220 [true,false,false] true [.ptr 0, .one (.int .i64), .one (.int .u32)] [.box 43 49 (Q01.sigW (.row 1)), .arr 25 1 (.ints .u32)] (λargs rows=>Qwb (Q01.ofW (rows.getD 0 default).cs (rowL .u32 rows 1)) (argI args 1) (argI args 2)) (λargs rows=>Q9v (Q01.ofW (rows.getD 0 default).cs (rowL .u32 rows 1)) (argI args 1) (argI args 2)) (λX=> .sl 4 (.recs .apiOutput (X.1)) true) (λX=>[⟨true,43,49, .gen [(Q01.cellsW (X.2) (.all 1))]⟩,⟨false,25,1, .ints .u32 (X.2).Mem⟩])
theorem Zfi:Q04 Tryz.prog Zlq:=Q0k drawn Q0h (.cons Z02 (.cons Qnp (.cons Qpj (.cons Qvi (.nil))))) Tryz.func220 Tryz.call220 (λargs rows=>Qee (Q01.ofW (rows.getD 0 default).cs (rowL .u32 rows 1)) (argI args 1) (argI args 2)) [.sl (.recs .apiOutput) true, .row 25 1 (.ints .u32)] [] 2
def Q87(m:Q01)(clock:Int):Tree ((List Q09)×Q01):=
.an (Q6x m) (.lv (Q0n m) λ(x0:Q02)=> .an (Qpz x0 m.Mem) (.lv (Q8g x0 m.Mem) λ(x1:Q02×Q1×List Int)=>let E1:=({B2:=x1.1,Mem:=x1.2.2,A4:=m.A4,B0:=m.B0,B1:=m.B1,C4:=m.C4,A1:=m.A1,A3:=m.A3,A6:=false,A9:=m.A9}:Q01); .br (x1.2.1.B7==1) (.lv (Qdb E1 x1.2.1.C9 clock) λ(x2:Int×Q01)=> .an (Q2w x2.2.B2 x1.2.1.D8 x2.1) (.lv (Q1q x2.2.B2 x1.2.1.D8 x2.1) λ(x3:Q02)=> .lf ([],{B2:=x3,Mem:=x2.2.Mem,A4:=x2.2.A4,B0:=x2.2.B0,B1:=x2.2.B1,C4:=x2.2.C4,A1:=x2.2.A1,A3:=wrap u64 (x2.2.A3+1),A6:=x2.2.A6,A9:=x2.2.A9}))) (.br (x1.2.1.B7==2) (.an (Qwb E1 x1.2.1.C9 x1.2.1.Value) (.lv (Q9v E1 x1.2.1.C9 x1.2.1.Value) λ(x4:List Q09×Q01)=> .lf (x4.1,{B2:=x4.2.B2,Mem:=x4.2.Mem,A4:=x4.2.A4,B0:=x4.2.B0,B1:=x4.2.B1,C4:=x4.2.C4,A1:=x4.2.A1,A3:=wrap u64 (x4.2.A3+1),A6:=x4.2.A6,A9:=x4.2.A9}))) (.br (x1.2.1.B7==3) (.lf ([],{B2:=x1.1,Mem:=x1.2.2,A4:=m.A4,B0:=m.B0,B1:=m.B1,C4:=m.C4,A1:=m.A1,A3:=wrap u64 (m.A3+1),A6:=true,A9:=m.A9})) (.br (x1.2.1.B7==4) (.lf ([],{B2:=x1.1,Mem:=x1.2.2,A4:=m.A4,B0:=m.B0,B1:=m.B1,C4:=m.C4,A1:=m.A1,A3:=wrap u64 (m.A3+1),A6:=false,A9:=true})) (.lf ([],{B2:=x1.1,Mem:=x1.2.2,A4:=m.A4,B0:=m.B0,B1:=m.B1,C4:=m.C4,A1:=m.A1,A3:=wrap u64 (m.A3+1),A6:=false,A9:=m.A9})))))))
def Q0p(m:Q01)(clock:Int):((List Q09)×Q01):=(Q87 m clock).m
abbrev Qln(m:Q01)(clock:Int):Prop:=(Q87 m clock).p
def Z3c:Q0c:=mkP 160 [true,false] true [.ptr 0, .one (.int .u32)] [.box 43 49 (Q01.sigW (.row 1)), .arr 25 1 (.ints .u32)] (λargs rows=>Qln (Q01.ofW (rows.getD 0 default).cs (rowL .u32 rows 1)) (argI args 1)) (λargs rows=>Q0p (Q01.ofW (rows.getD 0 default).cs (rowL .u32 rows 1)) (argI args 1)) (λX=> .sl 4 (.recs .apiOutput (X.1)) true) (λX=>[⟨true,43,49, .gen [(Q01.cellsW (X.2) (.all 1))]⟩,⟨false,25,1, .ints .u32 (X.2).Mem⟩])
theorem Qz4:Q04 Tryz.prog Z3c:=Q0k drawn Q0h (.cons Qbu (.cons Z55 (.cons Zkn (.cons Qe8 (.cons Zfi (.nil)))))) Tryz.func160 Tryz.call160 (λargs rows=>Q87 (Q01.ofW (rows.getD 0 default).cs (rowL .u32 rows 1)) (argI args 1)) [.sl (.recs .apiOutput) true, .row 25 1 (.ints .u32)] [] 2
end
end Go.Proofs.YtmalmklaonainaaGreat
