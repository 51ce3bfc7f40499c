import Derived.Test.YtmalmklaonainaaGreatRecordCutsBase
import Derived.Test.YtmalmklaonainaaGreatRecordCutsHand
import Derived.Test.YtmalmklaonainaaGreatRecordCutsYc
import Derived.Test.YtmalmklaonainaaGreatRecordCutsYb
import Derived.Test.YtmalmklaonainaaGreatRecordCutsYa
set_option maxRecDepth 100000
set_option linter.all false
namespace Go.Proofs.YtmalmklaonainaaGreat
open Go Go.GD Go.IntKind
noncomputable section
def Q3q(m:Q01):Tree Bool:=
.an (Q53 m) (.lv (Q1c m) λ(x0:Bool)=> .br x0 (.br (!m.A9) (.an (Q80 m) (.lv (Q99 m) λ(x1:Bool)=> .br (!x1) (.lf (decide (m.A3<1152921504606846976))) (.lf false))) (.lf false)) (.lf false))
def Q3w(m:Q01):Bool:=(Q3q m).m
abbrev Qbe(m:Q01):Prop:=(Q3q m).p
def Z47:Q0c:=mkP 112 [] true [.agg Q01.sig] [] (λargs rows=>Qbe (Q01.of (aC args 0))) (λargs rows=>Q3w (Q01.of (aC args 0))) (λX=> .bool X) (λX=>[])
theorem Qmp:Q04 Tryz.prog Z47:=Q0k drawn Q0h (.cons Qja (.cons Qn9 (.nil))) Tryz.func112 Tryz.call112 (λargs rows=>Q3q (Q01.of (aC args 0))) [] [] 2
def Qh(m:Q01)(z:(Int)):Nat:=(5-z).toNat
def Q3z(m:Q01):Tree Q01:=
let E1:=({B2:=m.B2,Mem:=m.Mem,A4:=m.A4,B0:=m.B0,B1:=m.B1,C4:=m.C4,A1:=m.A1,A3:=m.A3,A6:=false,A9:=m.A9}:Q01); .br (iand u32 m.B2.B4.a0 (2:Int)==(0:Int)) (.lf (E1)) (.an (Q7v E1) (.lv (Q57 E1) λ(x0:Int)=> .lp inferInstance (Qh m 0+1) ((rZ/\rZ/\rE (x0:Int)/\rE (0:Int)/\True)/\(rE m.B2.X.a0/\rE m.B2.X.a1/\rE m.B2.X.a2/\rE m.B2.X.a3/\rE m.B2.X.a4/\rE m.B2.X.a5/\rE m.B2.X.a6/\rE m.B2.X.a7/\rE m.B2.X.a8/\rE m.B2.X.a9/\rE m.B2.X.a10/\rE m.B2.X.a11/\rE m.B2.X.a12/\rE m.B2.X.a13/\rE m.B2.X.a14/\rE m.B2.X.a15/\rE m.B2.Pc/\rE m.B2.B4.a0/\rE m.B2.B4.a1/\rE m.B2.B4.a2/\rE m.B2.B4.a3/\rE m.B2.B4.a4/\rE m.B2.B4.a5/\rE m.B2.B4.a6/\rE m.B2.B4.a7/\((Els.Nil (Els.ints u32 m.Mem)\/rE (1:Nat))/\rE m.Mem)/\rE m.A4.D0/\rE m.B0.D3/\rE m.B0.C7/\rE m.B0.D2/\rE m.B1.Blocks/\rE m.B1.C1/\rE m.B1.Frame/\rE m.B1.C0/\rE m.B1.D7/\rE m.B1.B5/\rE m.B1.B3/\rE m.B1.C3/\rE m.C4.Frame/\rE m.C4.D9/\rE m.C4.C5/\rE m.C4.B8/\rE m.C4.B6/\rE m.C4.F0/\rE m.A1.C8/\rE m.A1.C2/\rE m.A3/\rE (false:Bool)/\rE m.A9/\True)/\(mE zM True True)/\True) 0 λ(v0:Int)=> .br (decide (v0<5)) (.cn (decide (0<=v0)) (.br (iand u32 x0 (ishl u32 1 v0) !=0) (.lv (Q47 m.B2 (wrap i64 (16+v0)) 0) λ(x1:Q02)=> .lf (Sum.inr {B2:=x1,Mem:=m.Mem,A4:=m.A4,B0:=m.B0,B1:=m.B1,C4:=m.C4,A1:=m.A1,A3:=m.A3,A6:=false,A9:=m.A9})) (.nx ((rZ/\rZ/\rE (x0:Int)/\rE ((wrap i64 (v0+1)):Int)/\True)/\(rE m.B2.X.a0/\rE m.B2.X.a1/\rE m.B2.X.a2/\rE m.B2.X.a3/\rE m.B2.X.a4/\rE m.B2.X.a5/\rE m.B2.X.a6/\rE m.B2.X.a7/\rE m.B2.X.a8/\rE m.B2.X.a9/\rE m.B2.X.a10/\rE m.B2.X.a11/\rE m.B2.X.a12/\rE m.B2.X.a13/\rE m.B2.X.a14/\rE m.B2.X.a15/\rE m.B2.Pc/\rE m.B2.B4.a0/\rE m.B2.B4.a1/\rE m.B2.B4.a2/\rE m.B2.B4.a3/\rE m.B2.B4.a4/\rE m.B2.B4.a5/\rE m.B2.B4.a6/\rE m.B2.B4.a7/\((Els.Nil (Els.ints u32 m.Mem)\/rE (1:Nat))/\rE m.Mem)/\rE m.A4.D0/\rE m.B0.D3/\rE m.B0.C7/\rE m.B0.D2/\rE m.B1.Blocks/\rE m.B1.C1/\rE m.B1.Frame/\rE m.B1.C0/\rE m.B1.D7/\rE m.B1.B5/\rE m.B1.B3/\rE m.B1.C3/\rE m.C4.Frame/\rE m.C4.D9/\rE m.C4.C5/\rE m.C4.B8/\rE m.C4.B6/\rE m.C4.F0/\rE m.A1.C8/\rE m.A1.C2/\rE m.A3/\rE (false:Bool)/\rE m.A9/\True)/\(mE zM True True)/\True) (Sum.inl (wrap i64 (v0+1)))))) (.lf (Sum.inr E1))))
def Q18(m:Q01):Q01:=(Q3z m).m
abbrev Q9x(m:Q01):Prop:=(Q3z m).p
def Qxy:LInv:={
 α:=(Int)
 F:=λst a=>([(1, .ptr 0 0 0),(2, .ptr 1 0 0),(3,(lk st 3)),(15, .int i64 a)],[⟨true,43,49, .gen [mB (cT st 1)]⟩,⟨true,43,49, .gen [mB (cT st 2)]⟩])
 a0:=λst=>(lk st 15).toInt
 ex0:=λst=>[]++[(Q0m (lk st 1) (st.rows.length+0)),(Q0m (lk st 2) (st.rows.length+1))]
 next:=λst=>(lk st 15).toInt
 ex:=λst=>[]++[(Q0m (lk st 1) (st.rows.length+0)),(Q0m (lk st 2) (st.rows.length+1))]}
def Qsk:List (Nat×LInv):=[(6,Qxy)]
def Z0l:Q0c:=Q0c.fz<|mkP 113 [] false [.agg Q01.sig] [] (λargs rows=>Q9x (Q01.of (aC args 0))) (λargs rows=>Q18 (Q01.of (aC args 0))) (λX=> .agg (Q01.cells X)) (λX=>[])
theorem Qm1:Q04 Tryz.prog Z0l:=fz_ok<|Q0k drawn Q0h (.cons Qiq (.cons Qgw (.nil))) Tryz.func113 Tryz.call113 (λargs rows=>Q3z (Q01.of (aC args 0))) [.sl (.ints .u32) false] Qsk 3 (λ_ _ _=>by kernel_rfl) (λ_ _=>rfl) (λ_ _ h=>h) (λh=>by cases h)
def Q8v(c:Q0b)(port:Int):Tree (Q0b×Int):=
.br (port==0) (.br (decide (c.D0=[])) (.lf (c,4294967295)) (.cn (decide ((0:Int)<=(0:Int)/\0<(c.D0.length:Int))) (.cn (decide ((0:Int)<=(1:Int)/\1<=(c.D0.length:Int)/\(c.D0.length:Int)<=(c.D0.length:Int))) (.lf ({D0:=List.take (Int.toNat (c.D0.length:Int)-Int.toNat 1) (List.drop (Int.toNat 1) c.D0)},wrap u32 (↑(UInt8.toNat (c.D0.getD (Int.toNat 0) (0:UInt8))):Int)))))) (.br (port==1) (.lf (c,wrap u32 (c.D0.length:Int))) (.lf (c,0)))
def Qnz(c:Q0b)(port:Int):(Q0b×Int):=(Q8v c port).m
theorem Z3x(c:Q0b)(port:Int):(Q8v c port).p:=by
 unfold Tree.p Q8v
 repeat'(first|exact trivial|refine w_br (λ_=> ?_) (λ_=> ?_)|refine w_cn ?_ ?_|refine w_an ?_ ?_|refine w_lv (λ_ _=> ?_)|refine w_nx ?_|refine w_lf ?_|refine And.intro ?_ ?_)
 all_goals(exact fin0)
def Zd2:Q0c:=mkR 195 [] true [.agg Q0b.sig, .one (.int .i64)] [] (λargs rows=>Qnz (Q0b.of (aC args 0)) (argI args 1)) (λX=> .tup [.agg (Q0b.cells (X.1)), .int .u32 (X.2)]) (λX=>[])
theorem Z9i:Q04 Tryz.prog Zd2:=Q0v drawn Q0h (.nil) Tryz.func195 Tryz.call195 (λargs rows=>Q8v (Q0b.of (aC args 0)) (argI args 1)) [] [] 2 (λ_ _ _=>by kernel_rfl) (λ_ _=>rfl) (λargs rows=>Z3x (Q0b.of (aC args 0)) (argI args 1)) (λ_ X=>by kernel_rfl)
def Qoj(t:Q0f):Tree Int:=
.br t.D2 (.lf 1) (.lf 0)
def Qyi(t:Q0f):Int:=(Qoj t).m
def Zl0:Q0c:=mkR 196 [] true [.agg Q0f.sig] [] (λargs rows=>Qyi (Q0f.of (aC args 0))) (λX=> .int .u32 X) (λX=>[])
theorem Zg9:Q04 Tryz.prog Zl0:=Q0v drawn Q0h (.nil) Tryz.func196 Tryz.call196 (λargs rows=>Qoj (Q0f.of (aC args 0))) [] [] 2
def Qr7(d0:Q0d)(port:Int):Tree Int:=
.br (port==4) (.lf d0.C1) (.br (port==5) (.lf d0.Frame) (.br (port==6) (.lf (wrap u32 d0.C0)) (.lf 0)))
def Qu0(d0:Q0d)(port:Int):Int:=(Qr7 d0 port).m
def xz:Q0c:=mkR 197 [] true [.agg Q0d.sig, .one (.int .i64)] [] (λargs rows=>Qu0 (Q0d.of (aC args 0)) (argI args 1)) (λX=> .int .u32 X) (λX=>[])
theorem Zlv:Q04 Tryz.prog xz:=Q0v drawn Q0h (.nil) Tryz.func197 Tryz.call197 (λargs rows=>Qr7 (Q0d.of (aC args 0)) (argI args 1)) [] [] 2
def Qs8(n:Q0l)(port:Int):Tree Int:=
.br (port==7) (.lf n.Frame) (.br (port==8) (.lf n.F0) (.br (port==9) (.br n.C5 (.br n.B6 (.lf (wrap u32 (wrap u32 ((0:Int)+(1:Int))+2))) (.lf (wrap u32 ((0:Int)+(1:Int))))) (.br n.B6 (.lf (wrap u32 ((0:Int)+(2:Int)))) (.lf 0))) (.lf 0)))
def Z1s(n:Q0l)(port:Int):Int:=(Qs8 n port).m
def xU:Q0c:=mkR 198 [] true [.agg Q0l.sig, .one (.int .i64)] [] (λargs rows=>Z1s (Q0l.of (aC args 0)) (argI args 1)) (λX=> .int .u32 X) (λX=>[])
theorem zz:Q04 Tryz.prog xU:=Q0v drawn Q0h (.nil) Tryz.func198 Tryz.call198 (λargs rows=>Qs8 (Q0l.of (aC args 0)) (argI args 1)) [] [] 2
def Q7a(b:Q05)(port:Int):Tree Int:=
.br (port==10) (.lf b.C8) (.br (port==11) (.an (Qa b) (.lv (Qd0 b) λ(x0:Int)=> .lf (wrap u32 x0))) (.lf 0))
def Qof(b:Q05)(port:Int):Int:=(Q7a b port).m
abbrev Qjc(b:Q05)(port:Int):Prop:=(Q7a b port).p
def Zcs:Q0c:=mkP 199 [] true [.agg Q05.sig, .one (.int .i64)] [] (λargs rows=>Qjc (Q05.of (aC args 0)) (argI args 1)) (λargs rows=>Qof (Q05.of (aC args 0)) (argI args 1)) (λX=> .int .u32 X) (λX=>[])
theorem Z6r:Q04 Tryz.prog Zcs:=Q0k drawn Q0h (.cons Qlq (.nil)) Tryz.func199 Tryz.call199 (λargs rows=>Q7a (Q05.of (aC args 0)) (argI args 1)) [] [] 2
def Q2h(m:Q01)(port:Int)(clock:Int):Tree (Q01×Int):=
let T1:Tree ((Q01×Int)):= .lv (Qnz m.A4 port) λ(x0:Q0b×Int)=> .lf ({B2:=m.B2,Mem:=m.Mem,A4:=x0.1,B0:=m.B0,B1:=m.B1,C4:=m.C4,A1:=m.A1,A3:=m.A3,A6:=m.A6,A9:=m.A9},x0.2); .br (port==0) T1 (.br (port==1) T1 (.br (port==2) (.lf (m,clock)) (.br (port==3) (.lv (Qyi m.B0) λ(x2:Int)=> .lf (m,x2)) (.br (port==4) (.lv (Qu0 m.B1 port) λ(x3:Int)=> .lf (m,x3)) (.br (port==5) (.lv (Qu0 m.B1 port) λ(x4:Int)=> .lf (m,x4)) (.br (port==6) (.lv (Qu0 m.B1 port) λ(x5:Int)=> .lf (m,x5)) (.br (port==7) (.lv (Z1s m.C4 port) λ(x6:Int)=> .lf (m,x6)) (.br (port==8) (.lv (Z1s m.C4 port) λ(x7:Int)=> .lf (m,x7)) (.br (port==9) (.lv (Z1s m.C4 port) λ(x8:Int)=> .lf (m,x8)) (let T2:Tree ((Q01×Int)):= .an (Qjc m.A1 port) (.lv (Qof m.A1 port) λ(x9:Int)=> .lf (m,x9)); .br (port==10) T2 (.br (port==11) T2 (.lf (m,0)))))))))))))
def Q1b(m:Q01)(port:Int)(clock:Int):(Q01×Int):=(Q2h m port clock).m
abbrev Qau(m:Q01)(port:Int)(clock:Int):Prop:=(Q2h m port clock).p
def Qr1:Q0c:=Q0c.fz<|mkP 134 [] false [.agg Q01.sig, .one (.int .i64), .one (.int .u32)] [] (λargs rows=>Qau (Q01.of (aC args 0)) (argI args 1) (argI args 2)) (λargs rows=>Q1b (Q01.of (aC args 0)) (argI args 1) (argI args 2)) (λX=> .tup [.agg (Q01.cells (X.1)), .int .u32 (X.2)]) (λX=>[])
theorem Qqr:Q04 Tryz.prog Qr1:=fz_ok<|Q0k drawn Q0h (.cons Z9i (.cons Zg9 (.cons Zlv (.cons zz (.cons Z6r (.nil)))))) Tryz.func134 Tryz.call134 (λargs rows=>Q2h (Q01.of (aC args 0)) (argI args 1) (argI args 2)) [.sl (.ints .u32) false] [] 2 (λ_ _ _=>by kernel_rfl) (λ_ _=>rfl) (λ_ _ h=>h) (λh=>by cases h)
def Ql8(t:Q0f)(deadline:Int):Tree Q0f:=
.lf ({D3:=deadline !=0,C7:=deadline,D2:=false})
def Qk6(t:Q0f)(deadline:Int):Q0f:=(Ql8 t deadline).m
def Zf1:Q0c:=mkR 200 [] true [.agg Q0f.sig, .one (.int .u32)] [] (λargs rows=>Qk6 (Q0f.of (aC args 0)) (argI args 1)) (λX=> .agg (Q0f.cells X)) (λX=>[])
theorem Zeb:Q04 Tryz.prog Zf1:=Q0v drawn Q0h (.nil) Tryz.func200 Tryz.call200 (λargs rows=>Ql8 (Q0f.of (aC args 0)) (argI args 1)) [] [] 2
def Qcg(m:(List Int))(frame:Int):Tree Bool:=
.lv (Q0q m) λ(x0:Int)=> .lf (decide (wrap u64 frame<wrap u64 x0))
def Q8t(m:(List Int))(frame:Int):Bool:=(Qcg m frame).m
def Z8g:Q0c:=mkR 193 [] true [.one (.ints .u32), .one (.int .u32)] [] (λargs rows=>Q8t (argL .u32 args 0) (argI args 1)) (λX=> .bool X) (λX=>[])
theorem Qpi:Q04 Tryz.prog Z8g:=Q0v drawn Q0h (.cons Q45 (.nil)) Tryz.func193 Tryz.call193 (λargs rows=>Qcg (argL .u32 args 0) (argI args 1)) [] [] 2
def Q8(m:(List Int))(frame:Int):Tree Bool:=
.br (decide (frame>=0)) (.lv (Q0q m) λ(x0:Int)=> .lf (decide (frame<x0))) (.lf false)
def Q5(m:(List Int))(frame:Int):Bool:=(Q8 m frame).m
def Qxc:Q0c:=mkR 208 [] true [.one (.ints .u32), .one (.int .i64)] [] (λargs rows=>Q5 (argL .u32 args 0) (argI args 1)) (λX=> .bool X) (λX=>[])
theorem Qjz:Q04 Tryz.prog Qxc:=Q0v drawn Q0h (.cons Q45 (.nil)) Tryz.func208 Tryz.call208 (λargs rows=>Q8 (argL .u32 args 0) (argI args 1)) [] [] 2
def Qm0(words:(List Int))(z:(Int)×(List Int)):Prop:=0<=z.1/\z.1<=words.length/\(z.2.length:Int)=4*z.1
def Q7(words:(List Int))(z:(Int)×(List Int)):Nat:=(words.length-z.1).toNat
def Q4l(words:(List Int)):Tree (List UInt8):=
.cn (Nat.blt 0 1&&Nat.beq 1 1&&List.all [D.int u8 0] D.plain&&decide ((0:Int)<=(0:Int)/\0<=wrap i64 (4*(words.length:Int))/\wrap i64 (4*(words.length:Int))<=9223372036854775807/\(↑1:Int)*wrap i64 (4*(words.length:Int))<=140737488355328)) (.lp inferInstance (Q7 words (0,[])+1) ((True/\((Els.Nil (Els.ints u32 words)\/rE (1:Nat))/\rE (words:List Int))/\rE ((words.length:Int):Int)/\rE (0:Int)/\True)/\rE ([]:List Int)/\True) (0,[]) λ(v0:Int×List Int)=> .br (decide (v0.1<(words.length:Int))) (.cn (Nat.beq 1 1&&Nat.blt 0 1&&decide (0<=v0.1/\v0.1<(words.length:Int))) (.cn (decide (1*(v0.2.length+4)<=140737488355328)) (let E1:=words.getD v0.1.toNat 0; .nx ((True/\((Els.Nil (Els.ints u32 words)\/rE (1:Nat))/\rE (words:List Int))/\rE ((words.length:Int):Int)/\rE ((wrap i64 (v0.1+1)):Int)/\True)/\rE ((v0.2++[wrap u8 (words.getD v0.1.toNat 0),wrap u8 (ishr u32 (words.getD v0.1.toNat 0) 8),wrap u8 (ishr u32 (words.getD v0.1.toNat 0) 16),wrap u8 (ishr u32 (words.getD v0.1.toNat 0) 24)]):List Int)/\True) (Sum.inl (wrap i64 (v0.1+1),v0.2++[wrap u8 E1,wrap u8 (ishr u32 E1 8),wrap u8 (ishr u32 E1 16),wrap u8 (ishr u32 E1 24)]))))) (.lf (Sum.inr (bytesOf v0.2))))
def Z0y(words:(List Int)):(List UInt8):=(Q4l words).m
def Q5j(words:(List Int)):Prop:=
words.length<=1000000000000
theorem Qz0(words:(List Int))(hw:Q5j words):(Q4l words).p:=by
 simp only[Q5j]at hw
 unfold Tree.p Q4l
 repeat'(first|refine w_lp (inv:=Qm0 words) (μ:=Q7 words) ?_ (Nat.lt_succ_self _) (λ_ _=> ?_)|exact trivial|refine w_br (λ_=> ?_) (λ_=> ?_)|refine w_cn ?_ ?_|refine w_an ?_ ?_|refine w_lv (λ_ _=> ?_)|refine w_nx ?_|refine w_lf ?_|refine And.intro ?_ ?_)
 all_goals((try simp only[Qm0,Q7]at*);exact fin0)
def Z3y:LInv:={
 α:=(Int)×(List Int)
 F:=λst a=>([(3, .all 0),(10,(lk st 10)),(11,(lk st 11)),(12, .int i64 a.1)],[⟨false,5,1, .ints u8 a.2⟩])
 a0:=λst=>((lk st 12).toInt,(Q4s st.rows (rN st 3)))
 ex0:=λst=>[]++[(Q0m (lk st 3) (st.rows.length+0))]
 next:=λst=>((lk st 12).toInt,(Q4s st.rows (rN st 3)))
 ex:=λst=>[]++[(Q0m (lk st 3) (st.rows.length+0))]}
def Qwz:List (Nat×LInv):=[(3,Z3y)]
def Z8j:Q0c:=mkP 209 [] true [.one (.ints .u32)] [] (λargs rows=>Q5j (argL .u32 args 0)) (λargs rows=>Z0y (argL .u32 args 0)) (λX=> .str X) (λX=>[])
theorem Z2l:Q04 Tryz.prog Z8j:=Q0k drawn Q0h (.nil) Tryz.func209 Tryz.call209 (λargs rows=>Q4l (argL .u32 args 0)) [] Qwz 3 (hp:=λargs rows h=>Qz0 (argL .u32 args 0) h)
def Q3r(m:(List Int))(frame:Int):Tree ((List UInt8)×Bool):=
.lv (Q5 m frame) λ(x0:Bool)=> .br (!x0) (.lf ([],false)) (.cn (Nat.beq 1 1&&Nat.blt 0 1&&decide (0<=wrap i64 (frame*32)/\wrap i64 (frame*32)<=wrap i64 (wrap i64 (frame*32)+32)/\wrap i64 (wrap i64 (frame*32)+32)<=(m.length:Int))) (let E1:=List.take (Int.toNat (wrap i64 (wrap i64 (frame*32)+32))-Int.toNat (wrap i64 (frame*32))) (List.drop (Int.toNat (wrap i64 (frame*32))) m); .an (Q5j E1) (.lv (Z0y E1) λ(x1:List UInt8)=> .lf (x1,true))))
def Q5a(m:(List Int))(frame:Int):((List UInt8)×Bool):=(Q3r m frame).m
abbrev Q9p(m:(List Int))(frame:Int):Prop:=(Q3r m frame).p
def Z9g:Q0c:=mkP 143 [] true [.one (.ints .u32), .one (.int .i64)] [] (λargs rows=>Q9p (argL .u32 args 0) (argI args 1)) (λargs rows=>Q5a (argL .u32 args 0) (argI args 1)) (λX=> .tup [.str (X.1), .bool (X.2)]) (λX=>[])
theorem Qjf:Q04 Tryz.prog Z9g:=Q0k drawn Q0h (.cons Qjz (.cons Z2l (.nil))) Tryz.func143 Tryz.call143 (λargs rows=>Q3r (argL .u32 args 0) (argI args 1)) [] [] 2
def Qp5(d0:Q0d)(at0:Int):Tree (Q09×Bool):=
.br (d0.C0 !=1) (.lf ({B7:=0,At:=0,C1:=0,C6:=[]},false)) (.br (d0.D7==1) (.lf ({B7:=3,At:=at0,C1:=d0.B5,C6:=[]},true)) (.br (d0.D7==2) (.lf ({B7:=4,At:=at0,C1:=d0.B5,C6:=d0.C3},true)) (.lf ({B7:=0,At:=0,C1:=0,C6:=[]},false))))
def Qir(d0:Q0d)(at0:Int):(Q09×Bool):=(Qp5 d0 at0).m
def Z2v:Q0c:=mkR 287 [] true [.agg Q0d.sig, .one (.int .u64)] [] (λargs rows=>Qir (Q0d.of (aC args 0)) (argI args 1)) (λX=> .tup [.agg (Q09.cells (X.1)), .bool (X.2)]) (λX=>[])
theorem Z2g:Q04 Tryz.prog Z2v:=Q0v drawn Q0h (.nil) Tryz.func287 Tryz.call287 (λargs rows=>Qp5 (Q0d.of (aC args 0)) (argI args 1)) [] [] 2
def Q7c(d0:Q0d)(m:(List Int))(cmd:Int)(at0:Int):Tree (Q0d×(List Q09)):=
.br (d0.C0 !=0) (.lf (d0,[])) (let T1:Tree ((Q0d×(List Q09))):= .lf ({Blocks:=d0.Blocks,C1:=d0.C1,Frame:=d0.Frame,C0:=3,D7:=d0.D7,B5:=d0.B5,B3:=d0.B3,C3:=d0.C3},[]); .br (decide (d0.C1>=d0.Blocks)) T1 (.lv (Q8t m d0.Frame) λ(x0:Bool)=> .br (!x0) T1 (.br (cmd==2) (.an (Q9p m (wrap i64 d0.Frame)) (.lv (Q5a m (wrap i64 d0.Frame)) λ(x1:List UInt8×Bool)=>let E2:=({Blocks:=d0.Blocks,C1:=d0.C1,Frame:=d0.Frame,C0:=1,D7:=cmd,B5:=d0.C1,B3:=d0.Frame,C3:=x1.1}:Q0d); .lv (Qir E2 at0) λ(x2:Q09×Bool)=> .lf (E2,[x2.1]))) (let E3:=({Blocks:=d0.Blocks,C1:=d0.C1,Frame:=d0.Frame,C0:=1,D7:=cmd,B5:=d0.C1,B3:=d0.Frame,C3:=[]}:Q0d); .lv (Qir E3 at0) λ(x3:Q09×Bool)=> .lf (E3,[x3.1])))))
def Qtt(d0:Q0d)(m:(List Int))(cmd:Int)(at0:Int):(Q0d×(List Q09)):=(Q7c d0 m cmd at0).m
abbrev Qj8(d0:Q0d)(m:(List Int))(cmd:Int)(at0:Int):Prop:=(Q7c d0 m cmd at0).p
def Zd0:Q0c:=mkP 251 [] true [.agg Q0d.sig, .one (.ints .u32), .one (.int .i64), .one (.int .u64)] [] (λargs rows=>Qj8 (Q0d.of (aC args 0)) (argL .u32 args 1) (argI args 2) (argI args 3)) (λargs rows=>Qtt (Q0d.of (aC args 0)) (argL .u32 args 1) (argI args 2) (argI args 3)) (λX=> .tup [.agg (Q0d.cells (X.1)), .sl 4 (.recs .apiOutput (X.2)) true]) (λX=>[])
theorem Z73:Q04 Tryz.prog Zd0:=Q0k drawn Q0h (.cons Qpi (.cons Qjf (.cons Z2g (.nil)))) Tryz.func251 Tryz.call251 (λargs rows=>Q7c (Q0d.of (aC args 0)) (argL .u32 args 1) (argI args 2) (argI args 3)) [.sl (.recs .apiOutput) true] [] 2
def Qc2(d0:Q0d)(m:(List Int))(port:Int)(v:Int)(at0:Int):Tree (Q0d×(List Q09)):=
.br (port==4) (.lf ({Blocks:=d0.Blocks,C1:=v,Frame:=d0.Frame,C0:=d0.C0,D7:=d0.D7,B5:=d0.B5,B3:=d0.B3,C3:=d0.C3},[])) (.br (port==5) (.lf ({Blocks:=d0.Blocks,C1:=d0.C1,Frame:=v,C0:=d0.C0,D7:=d0.D7,B5:=d0.B5,B3:=d0.B3,C3:=d0.C3},[])) (.br (port==6) (let T1:Tree ((Q0d×(List Q09))):= .an (Qj8 d0 m (wrap i64 v) at0) (.lv (Qtt d0 m (wrap i64 v) at0) λ(x0:Q0d×List Q09)=> .lf (x0.1,x0.2)); .br (v==1) T1 (.br (v==2) T1 (.br (v==0) (.lv (Q97 d0) λ(x2:Bool)=> .br x2 (.lf ({Blocks:=d0.Blocks,C1:=d0.C1,Frame:=d0.Frame,C0:=0,D7:=d0.D7,B5:=d0.B5,B3:=d0.B3,C3:=d0.C3},[])) (.lf (d0,[]))) (.lf (d0,[]))))) (.lf (d0,[]))))
def Qyc(d0:Q0d)(m:(List Int))(port:Int)(v:Int)(at0:Int):(Q0d×(List Q09)):=(Qc2 d0 m port v at0).m
abbrev Qmc(d0:Q0d)(m:(List Int))(port:Int)(v:Int)(at0:Int):Prop:=(Qc2 d0 m port v at0).p
def Zlt:Q0c:=mkP 201 [] true [.agg Q0d.sig, .one (.ints .u32), .one (.int .i64), .one (.int .u32), .one (.int .u64)] [] (λargs rows=>Qmc (Q0d.of (aC args 0)) (argL .u32 args 1) (argI args 2) (argI args 3) (argI args 4)) (λargs rows=>Qyc (Q0d.of (aC args 0)) (argL .u32 args 1) (argI args 2) (argI args 3) (argI args 4)) (λX=> .tup [.agg (Q0d.cells (X.1)), .sl 4 (.recs .apiOutput (X.2)) true]) (λX=>[])
theorem Zg2:Q04 Tryz.prog Zlt:=Q0k drawn Q0h (.cons Z73 (.cons Qmk (.nil))) Tryz.func201 Tryz.call201 (λargs rows=>Qc2 (Q0d.of (aC args 0)) (argL .u32 args 1) (argI args 2) (argI args 3) (argI args 4)) [.sl (.recs .apiOutput) true] [] 2
def Qfd(m:(List Int))(frame:Int):Tree Bool:=
.lv (Q0q m) λ(x0:Int)=> .lf (decide (wrap u64 frame<wrap u64 x0))
def Q9t(m:(List Int))(frame:Int):Bool:=(Qfd m frame).m
def Zbf:Q0c:=mkR 194 [] true [.one (.ints .u32), .one (.int .u32)] [] (λargs rows=>Q9t (argL .u32 args 0) (argI args 1)) (λX=> .bool X) (λX=>[])
theorem Qla:Q04 Tryz.prog Zbf:=Q0v drawn Q0h (.cons Q45 (.nil)) Tryz.func194 Tryz.call194 (λargs rows=>Qfd (argL .u32 args 0) (argI args 1)) [] [] 2
def Qcb(n:Q0l)(m:(List Int))(at0:Int):Tree (List Q09):=
.br (decide (n.D9<1)) (.lf ([])) (.br (decide (n.D9>128)) (.lf ([])) (.lv (Q9t m n.Frame) λ(x0:Bool)=> .br (!x0) (.lf ([])) (.an (Q9p m (wrap i64 n.Frame)) (.lv (Q5a m (wrap i64 n.Frame)) λ(x1:List UInt8×Bool)=> .cn (decide ((0:Int)<=(0:Int)/\0<=n.D9/\n.D9<=(x1.1.length:Int))) (.lf ([{B7:=2,At:=at0,C1:=0,C6:=List.take (Int.toNat n.D9-Int.toNat 0) (List.drop (Int.toNat 0) x1.1)}]))))))
def Z8h(n:Q0l)(m:(List Int))(at0:Int):(List Q09):=(Qcb n m at0).m
abbrev Qn1(n:Q0l)(m:(List Int))(at0:Int):Prop:=(Qcb n m at0).p
def Zk5:Q0c:=mkP 252 [] true [.agg Q0l.sig, .one (.ints .u32), .one (.int .u64)] [] (λargs rows=>Qn1 (Q0l.of (aC args 0)) (argL .u32 args 1) (argI args 2)) (λargs rows=>Z8h (Q0l.of (aC args 0)) (argL .u32 args 1) (argI args 2)) (λX=> .sl 4 (.recs .apiOutput X) true) (λX=>[])
theorem Zeq:Q04 Tryz.prog Zk5:=Q0k drawn Q0h (.cons Qla (.cons Qjf (.nil))) Tryz.func252 Tryz.call252 (λargs rows=>Qcb (Q0l.of (aC args 0)) (argL .u32 args 1) (argI args 2)) [.sl (.recs .apiOutput) true] [] 2
def Qf8(n:Q0l)(m:(List Int))(port:Int)(v:Int)(at0:Int):Tree (Q0l×(List Q09)):=
.br (port==7) (.lf ({Frame:=v,D9:=n.D9,C5:=n.C5,B8:=n.B8,B6:=n.B6,F0:=n.F0},[])) (.br (port==8) (.lf ({Frame:=n.Frame,D9:=v,C5:=n.C5,B8:=n.B8,B6:=n.B6,F0:=n.F0},[])) (.br (port==9) (.br (v==1) (.an (Qn1 n m at0) (.lv (Z8h n m at0) λ(x0:List Q09)=> .lf (n,x0))) (.br (v==2) (.lv (Q9t m n.Frame) λ(x1:Bool)=> .br x1 (.br (!n.C5) (.br (!n.B6) (.lf ({Frame:=n.Frame,D9:=n.D9,C5:=true,B8:=n.Frame,B6:=n.B6,F0:=n.F0},[])) (.lf (n,[]))) (.lf (n,[]))) (.lf (n,[]))) (.br (v==0) (.lf ({Frame:=n.Frame,D9:=n.D9,C5:=n.C5,B8:=n.B8,B6:=false,F0:=0},[])) (.lf (n,[]))))) (.lf (n,[]))))
def Z72(n:Q0l)(m:(List Int))(port:Int)(v:Int)(at0:Int):(Q0l×(List Q09)):=(Qf8 n m port v at0).m
abbrev Qq1(n:Q0l)(m:(List Int))(port:Int)(v:Int)(at0:Int):Prop:=(Qf8 n m port v at0).p
def yz:Q0c:=mkP 202 [] true [.agg Q0l.sig, .one (.ints .u32), .one (.int .i64), .one (.int .u32), .one (.int .u64)] [] (λargs rows=>Qq1 (Q0l.of (aC args 0)) (argL .u32 args 1) (argI args 2) (argI args 3) (argI args 4)) (λargs rows=>Z72 (Q0l.of (aC args 0)) (argL .u32 args 1) (argI args 2) (argI args 3) (argI args 4)) (λX=> .tup [.agg (Q0l.cells (X.1)), .sl 4 (.recs .apiOutput (X.2)) true]) (λX=>[])
theorem Zll:Q04 Tryz.prog yz:=Q0k drawn Q0h (.cons Zeq (.cons Qla (.nil))) Tryz.func202 Tryz.call202 (λargs rows=>Qf8 (Q0l.of (aC args 0)) (argL .u32 args 1) (argI args 2) (argI args 3) (argI args 4)) [.sl (.recs .apiOutput) true] [] 2
def Qaq(m:(List Int))(frame:Int)(s:(List UInt8))(z:(Int)×(List Int)):Nat:=(32-z.1).toNat
def Q28(m:(List Int))(frame:Int)(s:(List UInt8)):Tree ((List Int)×Bool):=
.an (Q07 m) (.lv (Q03 m) λ(x0:List Int)=> .lv (Q5 m frame) λ(x1:Bool)=> .br (!x1) (.lf (x0,false)) (.br ((s.length:Int) !=(128:Int)) (.lf (x0,false)) (.lp inferInstance (Qaq m frame s (0,x0)+1) ((rE (s:List UInt8)/\True/\rE ((wrap i64 (frame*32)):Int)/\rE (0:Int)/\True)/\rE (x0:List Int)/\True) (0,x0) λ(v0:Int×List Int)=> .br (decide (v0.1<32)) (.cn (decide (0<=wrap i64 (4*v0.1)/\wrap i64 (4*v0.1)<=wrap i64 (wrap i64 (4*v0.1)+4)/\wrap i64 (wrap i64 (4*v0.1)+4)<=(s.length:Int))) (let E1:=List.take (Int.toNat (wrap i64 (wrap i64 (4*v0.1)+4))-Int.toNat (wrap i64 (4*v0.1))) (List.drop (Int.toNat (wrap i64 (4*v0.1))) s); .cn (decide ((0:Int)<=(0:Int)/\0<(↑(List.length E1):Int))) (.cn (decide ((0:Int)<=(1:Int)/\1<(↑(List.length E1):Int))) (.cn (decide ((0:Int)<=(2:Int)/\2<(↑(List.length E1):Int))) (.cn (decide ((0:Int)<=(3:Int)/\3<(↑(List.length E1):Int))) (.cn (Nat.beq 1 1&&Nat.blt 0 1&&decide (0<=wrap i64 (wrap i64 (frame*32)+v0.1)/\wrap i64 (wrap i64 (frame*32)+v0.1)<(v0.2.length:Int))) (.nx ((rE (s:List UInt8)/\True/\rE ((wrap i64 (frame*32)):Int)/\rE ((wrap i64 (v0.1+1)):Int)/\True)/\rE ((List.set v0.2 (Int.toNat (wrap i64 (wrap i64 (frame*32)+v0.1))) (ior u32 (ior u32 (ior u32 (wrap u32 (↑(UInt8.toNat (List.getD (List.take (Int.toNat (wrap i64 (wrap i64 (4*v0.1)+4))-Int.toNat (wrap i64 (4*v0.1))) (List.drop (Int.toNat (wrap i64 (4*v0.1))) s)) (Int.toNat 0) (0:UInt8))):Int)) (ishl u32 (wrap u32 (↑(UInt8.toNat (List.getD (List.take (Int.toNat (wrap i64 (wrap i64 (4*v0.1)+4))-Int.toNat (wrap i64 (4*v0.1))) (List.drop (Int.toNat (wrap i64 (4*v0.1))) s)) (Int.toNat 1) (0:UInt8))):Int)) 8)) (ishl u32 (wrap u32 (↑(UInt8.toNat (List.getD (List.take (Int.toNat (wrap i64 (wrap i64 (4*v0.1)+4))-Int.toNat (wrap i64 (4*v0.1))) (List.drop (Int.toNat (wrap i64 (4*v0.1))) s)) (Int.toNat 2) (0:UInt8))):Int)) 16)) (ishl u32 (wrap u32 (↑(UInt8.toNat (List.getD (List.take (Int.toNat (wrap i64 (wrap i64 (4*v0.1)+4))-Int.toNat (wrap i64 (4*v0.1))) (List.drop (Int.toNat (wrap i64 (4*v0.1))) s)) (Int.toNat 3) (0:UInt8))):Int)) 24))):List Int)/\True) (Sum.inl (wrap i64 (v0.1+1),List.set v0.2 (Int.toNat (wrap i64 (wrap i64 (frame*32)+v0.1))) (ior u32 (ior u32 (ior u32 (wrap u32 (↑(UInt8.toNat (List.getD E1 (Int.toNat 0) (0:UInt8))):Int)) (ishl u32 (wrap u32 (↑(UInt8.toNat (List.getD E1 (Int.toNat 1) (0:UInt8))):Int)) 8)) (ishl u32 (wrap u32 (↑(UInt8.toNat (List.getD E1 (Int.toNat 2) (0:UInt8))):Int)) 16)) (ishl u32 (wrap u32 (↑(UInt8.toNat (List.getD E1 (Int.toNat 3) (0:UInt8))):Int)) 24))))))))))) (.lf (Sum.inr (v0.2,true))))))
def Q2l(m:(List Int))(frame:Int)(s:(List UInt8)):((List Int)×Bool):=(Q28 m frame s).m
abbrev Q5y(m:(List Int))(frame:Int)(s:(List UInt8)):Prop:=(Q28 m frame s).p
def Qtv:LInv:={
 α:=(Int)×(List Int)
 F:=λst a=>([(2,(lk st 2)),(8, .all 0),(9,(lk st 9)),(26, .int i64 a.1)],[⟨false,25,1, .ints u32 a.2⟩])
 a0:=λst=>((lk st 26).toInt,(Q4s st.rows (rN st 8)))
 ex0:=λst=>[]++[(Q0m (lk st 8) (st.rows.length+0))]
 next:=λst=>((lk st 26).toInt,(Q4s st.rows (rN st 8)))
 ex:=λst=>[]++[(Q0m (lk st 8) (st.rows.length+0))]}
def Qq4:List (Nat×LInv):=[(6,Qtv)]
def Qx7:Q0c:=mkP 144 [] true [.one (.ints .u32), .one (.int .i64), .one (.str)] [] (λargs rows=>Q5y (argL .u32 args 0) (argI args 1) (argS args 2)) (λargs rows=>Q2l (argL .u32 args 0) (argI args 1) (argS args 2)) (λX=> .tup [.all 0, .bool (X.2)]) (λX=>[⟨false,25,1, .ints .u32 (X.1)⟩])
theorem Qe2:Q04 Tryz.prog Qx7:=Q0k drawn Q0h (.cons Q0s (.cons Qjz (.nil))) Tryz.func144 Tryz.call144 (λargs rows=>Q28 (argL .u32 args 0) (argI args 1) (argS args 2)) [.row 25 1 (.ints .u32)] Qq4 3
def strings_Repeat(s:(List UInt8))(count:Int):(List UInt8):=
Lib.repeatL s count.toNat
def Q4a(s:(List UInt8))(count:Int):Prop:=
0<=count/\count<=9223372036854775807/\s.length*count.toNat<=140737488355328
def Qgy(s:(List UInt8))(count:Int):List D:=[.str s, .int .i64 count]
def Qhd(s:(List UInt8))(count:Int):List Row:=[]
def Qcr(X:(List UInt8)):D:= .str X
def Qd3(X:(List UInt8)):List Row:=[]
def Qik:List PT:=[.one (.str), .one (.int .i64)]
def Qhc:List RT:=[]
def Qs4(args:List D)(rows:List Row):(List UInt8):=strings_Repeat (argS args 0) (argI args 1)
def Qry(args:List D)(rows:List Row):Prop:=Q4a (argS args 0) (argI args 1)
def Qx0:Q0c:=mkP 253 [] true Qik Qhc Qry Qs4 Qcr Qd3
theorem Qol(s:(List UInt8))(count:Int)(hw:Q4a s count):Q4j Tryz.prog 253 (Qgy s count) (Qhd s count) (Qcr (strings_Repeat s count)) (Qd3 (strings_Repeat s count)):=by
 exact yp Tryz.strings_Repeat hw.1 hw.2.1 hw.2.2
set_option maxRecDepth 100000 in
theorem Qqi(args:List D)(rows:List Row):Qfz Qik args 0=Qgy (argS args 0) (argI args 1):=by kernel_rfl
set_option maxRecDepth 100000 in
theorem Qoq(args:List D)(rows:List Row):Q69 Qhc rows 0=Qhd (argS args 0) (argI args 1):=by kernel_rfl
set_option maxRecDepth 100000 in
theorem Qtc(X:(List UInt8)):(ffB (Qcr X)&&ffBR (Qd3 X))=true:=by kernel_rfl
theorem Qum:Q04 Tryz.prog Qx0:=Qzz Tryz.call253 (λargs rows hp=>by rw[Qqi args rows,Qoq args rows];exact Qol (argS args 0) (argI args 1) hp) (λ_ X=>Qtc X)
def Q2o(b:Q05)(m:(List Int))(port:Int)(v:Int):Tree (Q05×(List Int)):=
let T1:Tree ((Q05×(List Int))):= .an (Q07 m) (.lv (Q03 m) λ(x0:List Int)=> .lf (b,x0)); .br (decide (v>=32)) T1 (.cn (decide (0<=v)) (.br (port==10) (.lv (Q0q m) λ(x1:Int)=> .br (decide (wrap i64 v<x1)) (.br (iand u32 b.C2 (ishl u32 1 v)==0) (.an (Q4a [(0:UInt8)] 128) (.lv (strings_Repeat [(0:UInt8)] 128) λ(x2:List UInt8)=> .an (Q5y m (wrap i64 v) x2) (.lv (Q2l m (wrap i64 v) x2) λ(x3:List Int×Bool)=> .lf ({C8:=b.C8,C2:=ior u32 b.C2 (ishl u32 1 v)},x3.1)))) T1) T1) (.br (port==11) (.an (Q07 m) (.lv (Q03 m) λ(x6:List Int)=> .lf ({C8:=b.C8,C2:=Qg7 u32 b.C2 (ishl u32 1 v)},x6))) T1)))
def Q7l(b:Q05)(m:(List Int))(port:Int)(v:Int):(Q05×(List Int)):=(Q2o b m port v).m
abbrev Qi3(b:Q05)(m:(List Int))(port:Int)(v:Int):Prop:=(Q2o b m port v).p
def Z74:Q0c:=mkP 203 [] true [.agg Q05.sig, .one (.ints .u32), .one (.int .i64), .one (.int .u32)] [] (λargs rows=>Qi3 (Q05.of (aC args 0)) (argL .u32 args 1) (argI args 2) (argI args 3)) (λargs rows=>Q7l (Q05.of (aC args 0)) (argL .u32 args 1) (argI args 2) (argI args 3)) (λX=> .tup [.agg (Q05.cells (X.1)), .all 0]) (λX=>[⟨false,25,1, .ints .u32 (X.2)⟩])
theorem Z30:Q04 Tryz.prog Z74:=Q0k drawn Q0h (.cons Q0s (.cons Q45 (.cons Qe2 (.cons Qum (.nil))))) Tryz.func203 Tryz.call203 (λargs rows=>Q2o (Q05.of (aC args 0)) (argL .u32 args 1) (argI args 2) (argI args 3)) [.row 25 1 (.ints .u32)] [] 2
def Q22(m:Q01)(port:Int)(v:Int)(at0:Int):Tree (Q01×(List Q09)):=
.br (port==0) (.lf (m,[{B7:=1,At:=at0,C1:=0,C6:=[(λ(n:Int)=>UInt8.ofNat n.toNat) (wrap u8 v)]}])) (.br (port==3) (.lv (Qk6 m.B0 v) λ(x0:Q0f)=> .lf ({B2:=m.B2,Mem:=m.Mem,A4:=m.A4,B0:=x0,B1:=m.B1,C4:=m.C4,A1:=m.A1,A3:=m.A3,A6:=m.A6,A9:=m.A9},[])) (let T1:Tree ((Q01×(List Q09))):= .an (Qmc m.B1 m.Mem port v at0) (.lv (Qyc m.B1 m.Mem port v at0) λ(x1:Q0d×List Q09)=> .lf ({B2:=m.B2,Mem:=m.Mem,A4:=m.A4,B0:=m.B0,B1:=x1.1,C4:=m.C4,A1:=m.A1,A3:=m.A3,A6:=m.A6,A9:=m.A9},x1.2)); .br (port==4) T1 (.br (port==5) T1 (.br (port==6) T1 (let T2:Tree ((Q01×(List Q09))):= .an (Qq1 m.C4 m.Mem port v at0) (.lv (Z72 m.C4 m.Mem port v at0) λ(x4:Q0l×List Q09)=> .lf ({B2:=m.B2,Mem:=m.Mem,A4:=m.A4,B0:=m.B0,B1:=m.B1,C4:=x4.1,A1:=m.A1,A3:=m.A3,A6:=m.A6,A9:=m.A9},x4.2)); .br (port==7) T2 (.br (port==8) T2 (.br (port==9) T2 (let T3:Tree ((Q01×(List Q09))):= .an (Qi3 m.A1 m.Mem port v) (.lv (Q7l m.A1 m.Mem port v) λ(x7:Q05×List Int)=> .lf ({B2:=m.B2,Mem:=x7.2,A4:=m.A4,B0:=m.B0,B1:=m.B1,C4:=m.C4,A1:=x7.1,A3:=m.A3,A6:=m.A6,A9:=m.A9},[])); .br (port==10) T3 (.br (port==11) T3 (.lf (m,[])))))))))))
def Q29(m:Q01)(port:Int)(v:Int)(at0:Int):(Q01×(List Q09)):=(Q22 m port v at0).m
abbrev Q9j(m:Q01)(port:Int)(v:Int)(at0:Int):Prop:=(Q22 m port v at0).p
def Qqd:Q0c:=Q0c.fz<|mkP 135 [] false [.agg Q01.sig, .one (.int .i64), .one (.int .u32), .one (.int .u64)] [] (λargs rows=>Q9j (Q01.of (aC args 0)) (argI args 1) (argI args 2) (argI args 3)) (λargs rows=>Q29 (Q01.of (aC args 0)) (argI args 1) (argI args 2) (argI args 3)) (λX=> .tup [.agg (Q01.cells (X.1)), .sl 4 (.recs .apiOutput (X.2)) true]) (λX=>[])
theorem Qor:Q04 Tryz.prog Qqd:=fz_ok<|Q0k drawn Q0h (.cons Zeb (.cons Zg2 (.cons Zll (.cons Z30 (.nil))))) Tryz.func135 Tryz.call135 (λargs rows=>Q22 (Q01.of (aC args 0)) (argI args 1) (argI args 2) (argI args 3)) [.sl (.ints .u32) false, .sl (.recs .apiOutput) true] [] 2 (λ_ _ _=>by kernel_rfl) (λ_ _=>rfl) (λ_ _ h=>h) (λh=>by cases h)
def Q6i(m:Q01)(clock:Int):Tree (Q01×(List Q09)):=
.an (Q07 m.Mem) (.lv (Q03 m.Mem) λ(x0:List Int)=>let E1:=({B2:=m.B2,Mem:=x0,A4:=m.A4,B0:=m.B0,B1:=m.B1,C4:=m.C4,A1:=m.A1,A3:=m.A3,A6:=m.A6,A9:=m.A9}:Q01); .an (Qbe E1) (.lv (Q3w E1) λ(x1:Bool)=> .br (!x1) (.lf (E1,[])) (.an (Q9x E1) (.lv (Q18 E1) λ(x2:Q01)=> .an (Qj1 x2.B2 x2.Mem) (.lv (Qa8 x2.B2 x2.Mem) λ(x3:Q02×List Int×Q1)=>let E2:=({B2:=x3.1,Mem:=x3.2.1,A4:=x2.A4,B0:=x2.B0,B1:=x2.B1,C4:=x2.C4,A1:=x2.A1,A3:=x2.A3,A6:=x2.A6,A9:=x2.A9}:Q01); .br (x3.2.2.B7==1) (.an (Qau E2 x3.2.2.C9 clock) (.lv (Q1b E2 x3.2.2.C9 clock) λ(x4:Q01×Int)=> .br (x3.2.2.D8 !=0) (.cn (Nat.blt 0 1&&decide (0<=x3.2.2.D8/\x3.2.2.D8<(↑16:Int))) (.lf ({B2:={X:=A16.of 0 (List.set (A16.l x4.1.B2.X) x3.2.2.D8.toNat x4.2),Pc:=x4.1.B2.Pc,B4:=x4.1.B2.B4},Mem:=x4.1.Mem,A4:=x4.1.A4,B0:=x4.1.B0,B1:=x4.1.B1,C4:=x4.1.C4,A1:=x4.1.A1,A3:=wrap u64 (x4.1.A3+1),A6:=x4.1.A6,A9:=x4.1.A9},[]))) (.lf ({B2:=x4.1.B2,Mem:=x4.1.Mem,A4:=x4.1.A4,B0:=x4.1.B0,B1:=x4.1.B1,C4:=x4.1.C4,A1:=x4.1.A1,A3:=wrap u64 (x4.1.A3+1),A6:=x4.1.A6,A9:=x4.1.A9},[])))) (.br (x3.2.2.B7==2) (.an (Q9j E2 x3.2.2.C9 x3.2.2.Value m.A3) (.lv (Q29 E2 x3.2.2.C9 x3.2.2.Value m.A3) λ(x5:Q01×List Q09)=> .lf ({B2:=x5.1.B2,Mem:=x5.1.Mem,A4:=x5.1.A4,B0:=x5.1.B0,B1:=x5.1.B1,C4:=x5.1.C4,A1:=x5.1.A1,A3:=wrap u64 (x5.1.A3+1),A6:=x5.1.A6,A9:=x5.1.A9},x5.2))) (.br (x3.2.2.B7==3) (.lf ({B2:=x3.1,Mem:=x3.2.1,A4:=x2.A4,B0:=x2.B0,B1:=x2.B1,C4:=x2.C4,A1:=x2.A1,A3:=wrap u64 (x2.A3+1),A6:=true,A9:=x2.A9},[])) (.br (x3.2.2.B7==4) (.lf ({B2:=x3.1,Mem:=x3.2.1,A4:=x2.A4,B0:=x2.B0,B1:=x2.B1,C4:=x2.C4,A1:=x2.A1,A3:=wrap u64 (x2.A3+1),A6:=x2.A6,A9:=true},[])) (.lf ({B2:=x3.1,Mem:=x3.2.1,A4:=x2.A4,B0:=x2.B0,B1:=x2.B1,C4:=x2.C4,A1:=x2.A1,A3:=wrap u64 (x2.A3+1),A6:=x2.A6,A9:=x2.A9},[]))))))))))
def Q4r(m:Q01)(clock:Int):(Q01×(List Q09)):=(Q6i m clock).m
abbrev Q5q(m:Q01)(clock:Int):Prop:=(Q6i m clock).p
def Z2q:Q0c:=Q0c.fz<|mkP 39 [] false [.agg Q01.sig, .one (.int .u32)] [] (λargs rows=>Q5q (Q01.of (aC args 0)) (argI args 1)) (λargs rows=>Q4r (Q01.of (aC args 0)) (argI args 1)) (λX=> .tup [.agg (Q01.cells (X.1)), .sl 4 (.recs .apiOutput (X.2)) false]) (λX=>[])
theorem Z10:Q04 Tryz.prog Z2q:=fz_ok<|Q0k drawn Q0h (.cons Q0s (.cons Qmp (.cons Qm1 (.cons Z14 (.cons Qqr (.cons Qor (.nil))))))) Tryz.func39 Tryz.call39 (λargs rows=>Q6i (Q01.of (aC args 0)) (argI args 1)) [.sl (.ints .u32) false, .sl (.recs .apiOutput) false] [] 2 (λ_ _ _=>by kernel_rfl) (λ_ _=>rfl) (λ_ _ h=>h) (λh=>by cases h)
end
end Go.Proofs.YtmalmklaonainaaGreat
