import Derived.Test.YtmalmklaonainaaGreatMachinePortsFh
import Derived.Test.YtmalmklaonainaaGreatMachinePortsYx
set_option maxRecDepth 100000
set_option linter.all false
namespace Go.Proofs.YtmalmklaonainaaGreat
open Go Go.GD Go.IntKind
noncomputable section
def Q2u(m:Q00):Tree Bool:=
.an (Q3w m) (.lv (Q10 m) λ(x0:Bool)=> .br x0 (.br (!m.A3) (.an (Qba m) (.lv (Qb0 m) λ(x1:Bool)=> .br (!x1) (.lf (decide (m.A4<1152921504606846976))) (.lf false))) (.lf false)) (.lf false))
def Q2g(m:Q00):Bool:=(Q2u m).m
abbrev Q88(m:Q00):Prop:=(Q2u m).p
def Qu7:Q0d:=mkP 112 [] true [.agg Q00.sig] [] (λargs rows=>Q88 (Q00.of (aC args 0))) (λargs rows=>Q2g (Q00.of (aC args 0))) (λX=> .bool X) (λX=>[])
theorem Qi2:Q07 pG Qu7:=Q0t drawn Q0p (.cons Qef (.cons Qs3 (.nil))) Tryz.func112 Tryz.call112 (λargs rows=>Q2u (Q00.of (aC args 0))) [] [] 2
def Qdk(m:Q00)(z:(Int)):Nat:=(5-z).toNat
def Q3(m:Q00):Tree Q00:=
let E1:=({B1:=m.B1,Mem:=m.Mem,A1:=m.A1,A6:=m.A6,A9:=m.A9,C2:=m.C2,A0:=m.A0,A4:=m.A4,A2:=false,A3:=m.A3}:Q00); .br (iand u32 m.B1.B3.a0 (2:Int)==(0:Int)) (.lf (E1)) (.an (Q8c E1) (.lv (Q4 E1) λ(x0:Int)=> .lp inferInstance (Qdk m 0+1) ((rZ/\rZ/\rE (x0:Int)/\rE (0:Int)/\True)/\(rE m.B1.X.a0/\rE m.B1.X.a1/\rE m.B1.X.a2/\rE m.B1.X.a3/\rE m.B1.X.a4/\rE m.B1.X.a5/\rE m.B1.X.a6/\rE m.B1.X.a7/\rE m.B1.X.a8/\rE m.B1.X.a9/\rE m.B1.X.a10/\rE m.B1.X.a11/\rE m.B1.X.a12/\rE m.B1.X.a13/\rE m.B1.X.a14/\rE m.B1.X.a15/\rE m.B1.Pc/\rE m.B1.B3.a0/\rE m.B1.B3.a1/\rE m.B1.B3.a2/\rE m.B1.B3.a3/\rE m.B1.B3.a4/\rE m.B1.B3.a5/\rE m.B1.B3.a6/\rE m.B1.B3.a7/\((Els.Nil (Els.ints u32 m.Mem)\/rE (1:Nat))/\rE m.Mem)/\rE m.A1.C7/\rE m.A6.D0/\rE m.A6.C4/\rE m.A6.C9/\rE m.A9.Blocks/\rE m.A9.B5/\rE m.A9.Frame/\rE m.A9.B7/\rE m.A9.D1/\rE m.A9.B2/\rE m.A9.B0/\rE m.A9.B9/\rE m.C2.Frame/\rE m.C2.D4/\rE m.C2.C1/\rE m.C2.B6/\rE m.C2.B4/\rE m.C2.D5/\rE m.A0.C3/\rE m.A0.B8/\rE m.A4/\rE (false:Bool)/\rE m.A3/\True)/\(mE zM True True)/\True) 0 λ(v0:Int)=> .br (decide (v0<5)) (.cn (decide (0<=v0)) (.br (iand u32 x0 (ishl u32 1 v0) !=0) (.lv (Q3b m.B1 (wrap i64 (16+v0)) 0) λ(x1:Q03)=> .lf (Sum.inr {B1:=x1,Mem:=m.Mem,A1:=m.A1,A6:=m.A6,A9:=m.A9,C2:=m.C2,A0:=m.A0,A4:=m.A4,A2:=false,A3:=m.A3})) (.nx ((rZ/\rZ/\rE (x0:Int)/\rE ((wrap i64 (v0+1)):Int)/\True)/\(rE m.B1.X.a0/\rE m.B1.X.a1/\rE m.B1.X.a2/\rE m.B1.X.a3/\rE m.B1.X.a4/\rE m.B1.X.a5/\rE m.B1.X.a6/\rE m.B1.X.a7/\rE m.B1.X.a8/\rE m.B1.X.a9/\rE m.B1.X.a10/\rE m.B1.X.a11/\rE m.B1.X.a12/\rE m.B1.X.a13/\rE m.B1.X.a14/\rE m.B1.X.a15/\rE m.B1.Pc/\rE m.B1.B3.a0/\rE m.B1.B3.a1/\rE m.B1.B3.a2/\rE m.B1.B3.a3/\rE m.B1.B3.a4/\rE m.B1.B3.a5/\rE m.B1.B3.a6/\rE m.B1.B3.a7/\((Els.Nil (Els.ints u32 m.Mem)\/rE (1:Nat))/\rE m.Mem)/\rE m.A1.C7/\rE m.A6.D0/\rE m.A6.C4/\rE m.A6.C9/\rE m.A9.Blocks/\rE m.A9.B5/\rE m.A9.Frame/\rE m.A9.B7/\rE m.A9.D1/\rE m.A9.B2/\rE m.A9.B0/\rE m.A9.B9/\rE m.C2.Frame/\rE m.C2.D4/\rE m.C2.C1/\rE m.C2.B6/\rE m.C2.B4/\rE m.C2.D5/\rE m.A0.C3/\rE m.A0.B8/\rE m.A4/\rE (false:Bool)/\rE m.A3/\True)/\(mE zM True True)/\True) (Sum.inl (wrap i64 (v0+1)))))) (.lf (Sum.inr E1))))
def Q0r(m:Q00):Q00:=(Q3 m).m
abbrev Q7e(m:Q00):Prop:=(Q3 m).p
def Qpp:LInv:={
 α:=(Int)
 F:=λst a=>([(1, .ptr 0 0 0),(2, .ptr 1 0 0),(3,(lk st 3)),(15, .int i64 a)],[⟨true,43,49, .gen [mB (cT st 1)]⟩,⟨true,43,49, .gen [mB (cT st 2)]⟩])
 a0:=λst=>(lk st 15).toInt
 ex0:=λst=>[]++[(rX st 1 0),(rX st 2 1)]}
def Qm0:List (Nat×LInv):=[(6,Qpp)]
def Qtw:Q0d:=Q0d.fz<|mkP 113 [] false [.agg Q00.sig] [] (λargs rows=>Q7e (Q00.of (aC args 0))) (λargs rows=>Q0r (Q00.of (aC args 0))) (λX=> .agg (Q00.cells X)) (λX=>[])
theorem Qgt:Q07 pG Qtw:=fz_ok<|Q0t drawn Q0p (.cons Qeb (.cons Qdn (.nil))) Tryz.func113 Tryz.call113 (λargs rows=>Q3 (Q00.of (aC args 0))) [.sl (.ints .u32) false] Qm0 3 (λ_ _ _=>by kernel_rfl) (λ_ _=>rfl) (λ_ _ h=>h) (λh=>by cases h)
def Q6u(c:Q0a)(port:Int):Tree (Q0a×Int):=
.br (port==0) (.br (decide (c.C7=[])) (.lf (c,4294967295)) (.cn (decide ((0:Int)<=(0:Int)/\0<(c.C7.length:Int))) (.cn (decide ((0:Int)<=(1:Int)/\1<=(c.C7.length:Int)/\(c.C7.length:Int)<=(c.C7.length:Int))) (.lf ({C7:=List.take (Int.toNat (c.C7.length:Int)-Int.toNat 1) (List.drop (Int.toNat 1) c.C7)},wrap u32 (↑(UInt8.toNat (c.C7.getD (Int.toNat 0) (0:UInt8))):Int)))))) (.br (port==1) (.lf (c,wrap u32 (c.C7.length:Int))) (.lf (c,0)))
def Qir(c:Q0a)(port:Int):(Q0a×Int):=(Q6u c port).m
theorem Qv2(c:Q0a)(port:Int):(Q6u c port).p:=by
 unfold Tree.p Q6u
 repeat'(first|exact trivial|refine w_br (λ_=> ?_) (λ_=> ?_)|refine w_cn ?_ ?_|refine w_an ?_ ?_|refine w_lv (λ_ _=> ?_)|refine w_nx ?_|refine w_lf ?_|refine And.intro ?_ ?_)
 all_goals(exact fin0)
def Z3b:Q0d:=mkR 195 [] true [.agg Q0a.sig, .one (.int .i64)] [] (λargs rows=>Qir (Q0a.of (aC args 0)) (argI args 1)) (λX=> .tup [.agg (Q0a.cells (X.1)), .int .u32 (X.2)]) (λX=>[])
theorem Qyj:Q07 pG Z3b:=Q1w drawn Q0p (.nil) Tryz.func195 Tryz.call195 (λargs rows=>Q6u (Q0a.of (aC args 0)) (argI args 1)) [] [] 2 (λ_ _ _=>by kernel_rfl) (λ_ _=>rfl) (λargs rows=>Qv2 (Q0a.of (aC args 0)) (argI args 1)) (λ_ X=>by kernel_rfl)
def Qj4(t:Q0f):Tree Int:=
.br t.C9 (.lf 1) (.lf 0)
def Qqh(t:Q0f):Int:=(Qj4 t).m
def Z8s:Q0d:=mkR 196 [] true [.agg Q0f.sig] [] (λargs rows=>Qqh (Q0f.of (aC args 0))) (λX=> .int .u32 X) (λX=>[])
theorem Z4x:Q07 pG Z8s:=Q1w drawn Q0p (.nil) Tryz.func196 Tryz.call196 (λargs rows=>Qj4 (Q0f.of (aC args 0))) [] [] 2
def Qls(d0:Q09)(port:Int):Tree Int:=
.br (port==4) (.lf d0.B5) (.br (port==5) (.lf d0.Frame) (.br (port==6) (.lf (wrap u32 d0.B7)) (.lf 0)))
def Qni(d0:Q09)(port:Int):Int:=(Qls d0 port).m
def qu:Q0d:=mkR 197 [] true [.agg Q09.sig, .one (.int .i64)] [] (λargs rows=>Qni (Q09.of (aC args 0)) (argI args 1)) (λX=> .int .u32 X) (λX=>[])
theorem Z9u:Q07 pG qu:=Q1w drawn Q0p (.nil) Tryz.func197 Tryz.call197 (λargs rows=>Qls (Q09.of (aC args 0)) (argI args 1)) [] [] 2
def Qlt(n:Q0k)(port:Int):Tree Int:=
.br (port==7) (.lf n.Frame) (.br (port==8) (.lf n.D5) (.br (port==9) (.br n.C1 (.br n.B4 (.lf (wrap u32 (wrap u32 ((0:Int)+(1:Int))+2))) (.lf (wrap u32 ((0:Int)+(1:Int))))) (.br n.B4 (.lf (wrap u32 ((0:Int)+(2:Int)))) (.lf 0))) (.lf 0)))
def Qrl(n:Q0k)(port:Int):Int:=(Qlt n port).m
def yL:Q0d:=mkR 198 [] true [.agg Q0k.sig, .one (.int .i64)] [] (λargs rows=>Qrl (Q0k.of (aC args 0)) (argI args 1)) (λX=> .int .u32 X) (λX=>[])
theorem xu:Q07 pG yL:=Q1w drawn Q0p (.nil) Tryz.func198 Tryz.call198 (λargs rows=>Qlt (Q0k.of (aC args 0)) (argI args 1)) [] [] 2
def Q8s(b:Q06)(port:Int):Tree Int:=
.br (port==10) (.lf b.C3) (.br (port==11) (.an (Qa4 b) (.lv (Q91 b) λ(x0:Int)=> .lf (wrap u32 x0))) (.lf 0))
def Qin(b:Q06)(port:Int):Int:=(Q8s b port).m
abbrev Qjv(b:Q06)(port:Int):Prop:=(Q8s b port).p
def Z2j:Q0d:=mkP 199 [] true [.agg Q06.sig, .one (.int .i64)] [] (λargs rows=>Qjv (Q06.of (aC args 0)) (argI args 1)) (λargs rows=>Qin (Q06.of (aC args 0)) (argI args 1)) (λX=> .int .u32 X) (λX=>[])
theorem Qyf:Q07 pG Z2j:=Q0t drawn Q0p (.cons Qgv (.nil)) Tryz.func199 Tryz.call199 (λargs rows=>Q8s (Q06.of (aC args 0)) (argI args 1)) [] [] 2
def Q39(m:Q00)(port:Int)(clock:Int):Tree (Q00×Int):=
let T1:Tree ((Q00×Int)):= .lv (Qir m.A1 port) λ(x0:Q0a×Int)=> .lf ({B1:=m.B1,Mem:=m.Mem,A1:=x0.1,A6:=m.A6,A9:=m.A9,C2:=m.C2,A0:=m.A0,A4:=m.A4,A2:=m.A2,A3:=m.A3},x0.2); .br (port==0) T1 (.br (port==1) T1 (.br (port==2) (.lf (m,clock)) (.br (port==3) (.lv (Qqh m.A6) λ(x2:Int)=> .lf (m,x2)) (.br (port==4) (.lv (Qni m.A9 port) λ(x3:Int)=> .lf (m,x3)) (.br (port==5) (.lv (Qni m.A9 port) λ(x4:Int)=> .lf (m,x4)) (.br (port==6) (.lv (Qni m.A9 port) λ(x5:Int)=> .lf (m,x5)) (.br (port==7) (.lv (Qrl m.C2 port) λ(x6:Int)=> .lf (m,x6)) (.br (port==8) (.lv (Qrl m.C2 port) λ(x7:Int)=> .lf (m,x7)) (.br (port==9) (.lv (Qrl m.C2 port) λ(x8:Int)=> .lf (m,x8)) (let T2:Tree ((Q00×Int)):= .an (Qjv m.A0 port) (.lv (Qin m.A0 port) λ(x9:Int)=> .lf (m,x9)); .br (port==10) T2 (.br (port==11) T2 (.lf (m,0)))))))))))))
def Q0v(m:Q00)(port:Int)(clock:Int):(Q00×Int):=(Q39 m port clock).m
abbrev Q7m(m:Q00)(port:Int)(clock:Int):Prop:=(Q39 m port clock).p
def Qky:Q0d:=Q0d.fz<|mkP 134 [] false [.agg Q00.sig, .one (.int .i64), .one (.int .u32)] [] (λargs rows=>Q7m (Q00.of (aC args 0)) (argI args 1) (argI args 2)) (λargs rows=>Q0v (Q00.of (aC args 0)) (argI args 1) (argI args 2)) (λX=> .tup [.agg (Q00.cells (X.1)), .int .u32 (X.2)]) (λX=>[])
theorem Qch:Q07 pG Qky:=fz_ok<|Q0t drawn Q0p (.cons Qyj (.cons Z4x (.cons Z9u (.cons xu (.cons Qyf (.nil)))))) Tryz.func134 Tryz.call134 (λargs rows=>Q39 (Q00.of (aC args 0)) (argI args 1) (argI args 2)) [.sl (.ints .u32) false] [] 2 (λ_ _ _=>by kernel_rfl) (λ_ _=>rfl) (λ_ _ h=>h) (λh=>by cases h)
def Qfz(t:Q0f)(deadline:Int):Tree Q0f:=
.lf ({D0:=deadline !=0,C4:=deadline,C9:=false})
def Qf4(t:Q0f)(deadline:Int):Q0f:=(Qfz t deadline).m
def Z4o:Q0d:=mkR 200 [] true [.agg Q0f.sig, .one (.int .u32)] [] (λargs rows=>Qf4 (Q0f.of (aC args 0)) (argI args 1)) (λX=> .agg (Q0f.cells X)) (λX=>[])
theorem Z3p:Q07 pG Z4o:=Q1w drawn Q0p (.nil) Tryz.func200 Tryz.call200 (λargs rows=>Qfz (Q0f.of (aC args 0)) (argI args 1)) [] [] 2
def Q92(m:(List Int))(frame:Int):Tree Bool:=
.lv (Q0i m) λ(x0:Int)=> .lf (decide (wrap u64 frame<wrap u64 x0))
def Q6z(m:(List Int))(frame:Int):Bool:=(Q92 m frame).m
def Qxf:Q0d:=mkR 193 [] true [.one (.ints .u32), .one (.int .u32)] [] (λargs rows=>Q6z (argL .u32 args 0) (argI args 1)) (λX=> .bool X) (λX=>[])
theorem Qjq:Q07 pG Qxf:=Q1w drawn Q0p (.cons Q2y (.nil)) Tryz.func193 Tryz.call193 (λargs rows=>Q92 (argL .u32 args 0) (argI args 1)) [] [] 2
def Q5u(m:(List Int))(frame:Int):Tree Bool:=
.br (decide (frame>=0)) (.lv (Q0i m) λ(x0:Int)=> .lf (decide (frame<x0))) (.lf false)
def Q3i(m:(List Int))(frame:Int):Bool:=(Q5u m frame).m
def Qp9:Q0d:=mkR 208 [] true [.one (.ints .u32), .one (.int .i64)] [] (λargs rows=>Q3i (argL .u32 args 0) (argI args 1)) (λX=> .bool X) (λX=>[])
theorem Qfa:Q07 pG Qp9:=Q1w drawn Q0p (.cons Q2y (.nil)) Tryz.func208 Tryz.call208 (λargs rows=>Q5u (argL .u32 args 0) (argI args 1)) [] [] 2
def Qgs(words:(List Int))(z:(Int)×(List Int)):Prop:=0<=z.1/\z.1<=words.length/\(z.2.length:Int)=4*z.1
def Q50(words:(List Int))(z:(Int)×(List Int)):Nat:=(words.length-z.1).toNat
def Q3e(words:(List Int)):Tree (List UInt8):=
.cn (Nat.blt 0 1&&Nat.beq 1 1&&List.all [D.int u8 0] D.plain&&decide ((0:Int)<=(0:Int)/\0<=wrap i64 (4*(words.length:Int))/\wrap i64 (4*(words.length:Int))<=9223372036854775807/\(↑1:Int)*wrap i64 (4*(words.length:Int))<=140737488355328)) (.lp inferInstance (Q50 words (0,[])+1) ((True/\((Els.Nil (Els.ints u32 words)\/rE (1:Nat))/\rE (words:List Int))/\rE ((words.length:Int):Int)/\rE (0:Int)/\True)/\rE ([]:List Int)/\True) (0,[]) λ(v0:Int×List Int)=> .br (decide (v0.1<(words.length:Int))) (.cn (Nat.beq 1 1&&Nat.blt 0 1&&decide (0<=v0.1/\v0.1<(words.length:Int))) (.cn (decide (1*(v0.2.length+4)<=140737488355328)) (let E1:=words.getD v0.1.toNat 0; .nx ((True/\((Els.Nil (Els.ints u32 words)\/rE (1:Nat))/\rE (words:List Int))/\rE ((words.length:Int):Int)/\rE ((wrap i64 (v0.1+1)):Int)/\True)/\rE ((v0.2++[wrap u8 (words.getD v0.1.toNat 0),wrap u8 (ishr u32 (words.getD v0.1.toNat 0) 8),wrap u8 (ishr u32 (words.getD v0.1.toNat 0) 16),wrap u8 (ishr u32 (words.getD v0.1.toNat 0) 24)]):List Int)/\True) (Sum.inl (wrap i64 (v0.1+1),v0.2++[wrap u8 E1,wrap u8 (ishr u32 E1 8),wrap u8 (ishr u32 E1 16),wrap u8 (ishr u32 E1 24)]))))) (.lf (Sum.inr (bytesOf v0.2))))
def Qrp(words:(List Int)):(List UInt8):=(Q3e words).m
def Q9a(words:(List Int)):Prop:=
words.length<=1000000000000
theorem Qrr(words:(List Int))(hw:Q9a words):(Q3e words).p:=by
 simp only[Q9a]at hw
 unfold Tree.p Q3e
 repeat'(first|refine w_lp (inv:=Qgs words) (μ:=Q50 words) ?_ (Nat.lt_succ_self _) (λ_ _=> ?_)|exact trivial|refine w_br (λ_=> ?_) (λ_=> ?_)|refine w_cn ?_ ?_|refine w_an ?_ ?_|refine w_lv (λ_ _=> ?_)|refine w_nx ?_|refine w_lf ?_|refine And.intro ?_ ?_)
 all_goals((try simp only[Qgs,Q50]at*);exact fin0)
def Qug:LInv:={
 α:=(Int)×(List Int)
 F:=λst a=>([(3, .all 0),(10,(lk st 10)),(11,(lk st 11)),(12, .int i64 a.1)],[⟨false,5,1, .ints u8 a.2⟩])
 a0:=λst=>((lk st 12).toInt,(Qjs st.rows (rN st 3)))
 ex0:=λst=>[]++[(rX st 3 0)]}
def Qp8:List (Nat×LInv):=[(3,Qug)]
def Qyx:Q0d:=mkP 209 [] true [.one (.ints .u32)] [] (λargs rows=>Q9a (argL .u32 args 0)) (λargs rows=>Qrp (argL .u32 args 0)) (λX=> .str X) (λX=>[])
theorem Qva:Q07 pG Qyx:=Q0t drawn Q0p (.nil) Tryz.func209 Tryz.call209 (λargs rows=>Q3e (argL .u32 args 0)) [] Qp8 3 (hp:=λargs rows h=>Qrr (argL .u32 args 0) h)
def Q4k(m:(List Int))(frame:Int):Tree ((List UInt8)×Bool):=
.lv (Q3i m frame) λ(x0:Bool)=> .br (!x0) (.lf ([],false)) (.cn (Nat.beq 1 1&&Nat.blt 0 1&&decide (0<=wrap i64 (frame*32)/\wrap i64 (frame*32)<=wrap i64 (wrap i64 (frame*32)+32)/\wrap i64 (wrap i64 (frame*32)+32)<=(m.length:Int))) (let E1:=List.take (Int.toNat (wrap i64 (wrap i64 (frame*32)+32))-Int.toNat (wrap i64 (frame*32))) (List.drop (Int.toNat (wrap i64 (frame*32))) m); .an (Q9a E1) (.lv (Qrp E1) λ(x1:List UInt8)=> .lf (x1,true))))
def Q3x(m:(List Int))(frame:Int):((List UInt8)×Bool):=(Q4k m frame).m
abbrev Q98(m:(List Int))(frame:Int):Prop:=(Q4k m frame).p
def Qyk:Q0d:=mkP 143 [] true [.one (.ints .u32), .one (.int .i64)] [] (λargs rows=>Q98 (argL .u32 args 0) (argI args 1)) (λargs rows=>Q3x (argL .u32 args 0) (argI args 1)) (λX=> .tup [.str (X.1), .bool (X.2)]) (λX=>[])
theorem Qei:Q07 pG Qyk:=Q0t drawn Q0p (.cons Qfa (.cons Qva (.nil))) Tryz.func143 Tryz.call143 (λargs rows=>Q4k (argL .u32 args 0) (argI args 1)) [] [] 2
def Qjx(d0:Q09)(at0:Int):Tree (Q08×Bool):=
.br (d0.B7 !=1) (.lf ({C0:=0,At:=0,B5:=0,C6:=[]},false)) (.br (d0.D1==1) (.lf ({C0:=3,At:=at0,B5:=d0.B2,C6:=[]},true)) (.br (d0.D1==2) (.lf ({C0:=4,At:=at0,B5:=d0.B2,C6:=d0.B9},true)) (.lf ({C0:=0,At:=0,B5:=0,C6:=[]},false))))
def Qe5(d0:Q09)(at0:Int):(Q08×Bool):=(Qjx d0 at0).m
def Quo:Q0d:=mkR 287 [] true [.agg Q09.sig, .one (.int .u64)] [] (λargs rows=>Qe5 (Q09.of (aC args 0)) (argI args 1)) (λX=> .tup [.agg (Q08.cells (X.1)), .bool (X.2)]) (λX=>[])
theorem Qsx:Q07 pG Quo:=Q1w drawn Q0p (.nil) Tryz.func287 Tryz.call287 (λargs rows=>Qjx (Q09.of (aC args 0)) (argI args 1)) [] [] 2
def Q8w(d0:Q09)(m:(List Int))(cmd:Int)(at0:Int):Tree (Q09×(List Q08)):=
.br (d0.B7 !=0) (.lf (d0,[])) (let T1:Tree ((Q09×(List Q08))):= .lf ({Blocks:=d0.Blocks,B5:=d0.B5,Frame:=d0.Frame,B7:=3,D1:=d0.D1,B2:=d0.B2,B0:=d0.B0,B9:=d0.B9},[]); .br (decide (d0.B5>=d0.Blocks)) T1 (.lv (Q6z m d0.Frame) λ(x0:Bool)=> .br (!x0) T1 (.br (cmd==2) (.an (Q98 m (wrap i64 d0.Frame)) (.lv (Q3x m (wrap i64 d0.Frame)) λ(x1:List UInt8×Bool)=>let E2:=({Blocks:=d0.Blocks,B5:=d0.B5,Frame:=d0.Frame,B7:=1,D1:=cmd,B2:=d0.B5,B0:=d0.Frame,B9:=x1.1}:Q09); .lv (Qe5 E2 at0) λ(x2:Q08×Bool)=> .lf (E2,[x2.1]))) (let E3:=({Blocks:=d0.Blocks,B5:=d0.B5,Frame:=d0.Frame,B7:=1,D1:=cmd,B2:=d0.B5,B0:=d0.Frame,B9:=[]}:Q09); .lv (Qe5 E3 at0) λ(x3:Q08×Bool)=> .lf (E3,[x3.1])))))
def Qn0(d0:Q09)(m:(List Int))(cmd:Int)(at0:Int):(Q09×(List Q08)):=(Q8w d0 m cmd at0).m
abbrev Qjk(d0:Q09)(m:(List Int))(cmd:Int)(at0:Int):Prop:=(Q8w d0 m cmd at0).p
def Z1a:Q0d:=mkP 251 [] true [.agg Q09.sig, .one (.ints .u32), .one (.int .i64), .one (.int .u64)] [] (λargs rows=>Qjk (Q09.of (aC args 0)) (argL .u32 args 1) (argI args 2) (argI args 3)) (λargs rows=>Qn0 (Q09.of (aC args 0)) (argL .u32 args 1) (argI args 2) (argI args 3)) (λX=> .tup [.agg (Q09.cells (X.1)), .sl 4 (.recs .apiOutput (X.2)) true]) (λX=>[])
theorem Qxz:Q07 pG Z1a:=Q0t drawn Q0p (.cons Qjq (.cons Qei (.cons Qsx (.nil)))) Tryz.func251 Tryz.call251 (λargs rows=>Q8w (Q09.of (aC args 0)) (argL .u32 args 1) (argI args 2) (argI args 3)) [.sl (.recs .apiOutput) true] [] 2
def Qc4(d0:Q09)(m:(List Int))(port:Int)(v:Int)(at0:Int):Tree (Q09×(List Q08)):=
.br (port==4) (.lf ({Blocks:=d0.Blocks,B5:=v,Frame:=d0.Frame,B7:=d0.B7,D1:=d0.D1,B2:=d0.B2,B0:=d0.B0,B9:=d0.B9},[])) (.br (port==5) (.lf ({Blocks:=d0.Blocks,B5:=d0.B5,Frame:=v,B7:=d0.B7,D1:=d0.D1,B2:=d0.B2,B0:=d0.B0,B9:=d0.B9},[])) (.br (port==6) (let T1:Tree ((Q09×(List Q08))):= .an (Qjk d0 m (wrap i64 v) at0) (.lv (Qn0 d0 m (wrap i64 v) at0) λ(x0:Q09×List Q08)=> .lf (x0.1,x0.2)); .br (v==1) T1 (.br (v==2) T1 (.br (v==0) (.lv (Q6y d0) λ(x2:Bool)=> .br x2 (.lf ({Blocks:=d0.Blocks,B5:=d0.B5,Frame:=d0.Frame,B7:=0,D1:=d0.D1,B2:=d0.B2,B0:=d0.B0,B9:=d0.B9},[])) (.lf (d0,[]))) (.lf (d0,[]))))) (.lf (d0,[]))))
def Qqe(d0:Q09)(m:(List Int))(port:Int)(v:Int)(at0:Int):(Q09×(List Q08)):=(Qc4 d0 m port v at0).m
abbrev Qog(d0:Q09)(m:(List Int))(port:Int)(v:Int)(at0:Int):Prop:=(Qc4 d0 m port v at0).p
def Z7x:Q0d:=mkP 201 [] true [.agg Q09.sig, .one (.ints .u32), .one (.int .i64), .one (.int .u32), .one (.int .u64)] [] (λargs rows=>Qog (Q09.of (aC args 0)) (argL .u32 args 1) (argI args 2) (argI args 3) (argI args 4)) (λargs rows=>Qqe (Q09.of (aC args 0)) (argL .u32 args 1) (argI args 2) (argI args 3) (argI args 4)) (λX=> .tup [.agg (Q09.cells (X.1)), .sl 4 (.recs .apiOutput (X.2)) true]) (λX=>[])
theorem Z4h:Q07 pG Z7x:=Q0t drawn Q0p (.cons Qxz (.cons Qh6 (.nil))) Tryz.func201 Tryz.call201 (λargs rows=>Qc4 (Q09.of (aC args 0)) (argL .u32 args 1) (argI args 2) (argI args 3) (argI args 4)) [.sl (.recs .apiOutput) true] [] 2
def Qb2(m:(List Int))(frame:Int):Tree Bool:=
.lv (Q0i m) λ(x0:Int)=> .lf (decide (wrap u64 frame<wrap u64 x0))
def Q7b(m:(List Int))(frame:Int):Bool:=(Qb2 m frame).m
def Z1h:Q0d:=mkR 194 [] true [.one (.ints .u32), .one (.int .u32)] [] (λargs rows=>Q7b (argL .u32 args 0) (argI args 1)) (λX=> .bool X) (λX=>[])
theorem Qgl:Q07 pG Z1h:=Q1w drawn Q0p (.cons Q2y (.nil)) Tryz.func194 Tryz.call194 (λargs rows=>Qb2 (argL .u32 args 0) (argI args 1)) [] [] 2
def Qc5(n:Q0k)(m:(List Int))(at0:Int):Tree (List Q08):=
.br (decide (n.D4<1)) (.lf ([])) (.br (decide (n.D4>128)) (.lf ([])) (.lv (Q7b m n.Frame) λ(x0:Bool)=> .br (!x0) (.lf ([])) (.an (Q98 m (wrap i64 n.Frame)) (.lv (Q3x m (wrap i64 n.Frame)) λ(x1:List UInt8×Bool)=> .cn (decide ((0:Int)<=(0:Int)/\0<=n.D4/\n.D4<=(x1.1.length:Int))) (.lf ([{C0:=2,At:=at0,B5:=0,C6:=List.take (Int.toNat n.D4-Int.toNat 0) (List.drop (Int.toNat 0) x1.1)}]))))))
def Z00(n:Q0k)(m:(List Int))(at0:Int):(List Q08):=(Qc5 n m at0).m
abbrev Qo6(n:Q0k)(m:(List Int))(at0:Int):Prop:=(Qc5 n m at0).p
def Z8g:Q0d:=mkP 252 [] true [.agg Q0k.sig, .one (.ints .u32), .one (.int .u64)] [] (λargs rows=>Qo6 (Q0k.of (aC args 0)) (argL .u32 args 1) (argI args 2)) (λargs rows=>Z00 (Q0k.of (aC args 0)) (argL .u32 args 1) (argI args 2)) (λX=> .sl 4 (.recs .apiOutput X) true) (λX=>[])
theorem Z4s:Q07 pG Z8g:=Q0t drawn Q0p (.cons Qgl (.cons Qei (.nil))) Tryz.func252 Tryz.call252 (λargs rows=>Qc5 (Q0k.of (aC args 0)) (argL .u32 args 1) (argI args 2)) [.sl (.recs .apiOutput) true] [] 2
def Qeu(n:Q0k)(m:(List Int))(port:Int)(v:Int)(at0:Int):Tree (Q0k×(List Q08)):=
.br (port==7) (.lf ({Frame:=v,D4:=n.D4,C1:=n.C1,B6:=n.B6,B4:=n.B4,D5:=n.D5},[])) (.br (port==8) (.lf ({Frame:=n.Frame,D4:=v,C1:=n.C1,B6:=n.B6,B4:=n.B4,D5:=n.D5},[])) (.br (port==9) (.br (v==1) (.an (Qo6 n m at0) (.lv (Z00 n m at0) λ(x0:List Q08)=> .lf (n,x0))) (.br (v==2) (.lv (Q7b m n.Frame) λ(x1:Bool)=> .br x1 (.br (!n.C1) (.br (!n.B4) (.lf ({Frame:=n.Frame,D4:=n.D4,C1:=true,B6:=n.Frame,B4:=n.B4,D5:=n.D5},[])) (.lf (n,[]))) (.lf (n,[]))) (.lf (n,[]))) (.br (v==0) (.lf ({Frame:=n.Frame,D4:=n.D4,C1:=n.C1,B6:=n.B6,B4:=false,D5:=0},[])) (.lf (n,[]))))) (.lf (n,[]))))
def Qyr(n:Q0k)(m:(List Int))(port:Int)(v:Int)(at0:Int):(Q0k×(List Q08)):=(Qeu n m port v at0).m
abbrev Qsh(n:Q0k)(m:(List Int))(port:Int)(v:Int)(at0:Int):Prop:=(Qeu n m port v at0).p
def zu:Q0d:=mkP 202 [] true [.agg Q0k.sig, .one (.ints .u32), .one (.int .i64), .one (.int .u32), .one (.int .u64)] [] (λargs rows=>Qsh (Q0k.of (aC args 0)) (argL .u32 args 1) (argI args 2) (argI args 3) (argI args 4)) (λargs rows=>Qyr (Q0k.of (aC args 0)) (argL .u32 args 1) (argI args 2) (argI args 3) (argI args 4)) (λX=> .tup [.agg (Q0k.cells (X.1)), .sl 4 (.recs .apiOutput (X.2)) true]) (λX=>[])
theorem Z8z:Q07 pG zu:=Q0t drawn Q0p (.cons Z4s (.cons Qgl (.nil))) Tryz.func202 Tryz.call202 (λargs rows=>Qeu (Q0k.of (aC args 0)) (argL .u32 args 1) (argI args 2) (argI args 3) (argI args 4)) [.sl (.recs .apiOutput) true] [] 2
def Q7k(m:(List Int))(frame:Int)(s:(List UInt8))(z:(Int)×(List Int)):Nat:=(32-z.1).toNat
def Q2f(m:(List Int))(frame:Int)(s:(List UInt8)):Tree ((List Int)×Bool):=
.an (Q05 m) (.lv (Q01 m) λ(x0:List Int)=> .lv (Q3i m frame) λ(x1:Bool)=> .br (!x1) (.lf (x0,false)) (.br ((s.length:Int) !=(128:Int)) (.lf (x0,false)) (.lp inferInstance (Q7k m frame s (0,x0)+1) ((rE (s:List UInt8)/\True/\rE ((wrap i64 (frame*32)):Int)/\rE (0:Int)/\True)/\rE (x0:List Int)/\True) (0,x0) λ(v0:Int×List Int)=> .br (decide (v0.1<32)) (.cn (decide (0<=wrap i64 (4*v0.1)/\wrap i64 (4*v0.1)<=wrap i64 (wrap i64 (4*v0.1)+4)/\wrap i64 (wrap i64 (4*v0.1)+4)<=(s.length:Int))) (let E1:=List.take (Int.toNat (wrap i64 (wrap i64 (4*v0.1)+4))-Int.toNat (wrap i64 (4*v0.1))) (List.drop (Int.toNat (wrap i64 (4*v0.1))) s); .cn (decide ((0:Int)<=(0:Int)/\0<(↑(List.length E1):Int))) (.cn (decide ((0:Int)<=(1:Int)/\1<(↑(List.length E1):Int))) (.cn (decide ((0:Int)<=(2:Int)/\2<(↑(List.length E1):Int))) (.cn (decide ((0:Int)<=(3:Int)/\3<(↑(List.length E1):Int))) (.cn (Nat.beq 1 1&&Nat.blt 0 1&&decide (0<=wrap i64 (wrap i64 (frame*32)+v0.1)/\wrap i64 (wrap i64 (frame*32)+v0.1)<(v0.2.length:Int))) (.nx ((rE (s:List UInt8)/\True/\rE ((wrap i64 (frame*32)):Int)/\rE ((wrap i64 (v0.1+1)):Int)/\True)/\rE ((List.set v0.2 (Int.toNat (wrap i64 (wrap i64 (frame*32)+v0.1))) (ior u32 (ior u32 (ior u32 (wrap u32 (↑(UInt8.toNat (List.getD (List.take (Int.toNat (wrap i64 (wrap i64 (4*v0.1)+4))-Int.toNat (wrap i64 (4*v0.1))) (List.drop (Int.toNat (wrap i64 (4*v0.1))) s)) (Int.toNat 0) (0:UInt8))):Int)) (ishl u32 (wrap u32 (↑(UInt8.toNat (List.getD (List.take (Int.toNat (wrap i64 (wrap i64 (4*v0.1)+4))-Int.toNat (wrap i64 (4*v0.1))) (List.drop (Int.toNat (wrap i64 (4*v0.1))) s)) (Int.toNat 1) (0:UInt8))):Int)) 8)) (ishl u32 (wrap u32 (↑(UInt8.toNat (List.getD (List.take (Int.toNat (wrap i64 (wrap i64 (4*v0.1)+4))-Int.toNat (wrap i64 (4*v0.1))) (List.drop (Int.toNat (wrap i64 (4*v0.1))) s)) (Int.toNat 2) (0:UInt8))):Int)) 16)) (ishl u32 (wrap u32 (↑(UInt8.toNat (List.getD (List.take (Int.toNat (wrap i64 (wrap i64 (4*v0.1)+4))-Int.toNat (wrap i64 (4*v0.1))) (List.drop (Int.toNat (wrap i64 (4*v0.1))) s)) (Int.toNat 3) (0:UInt8))):Int)) 24))):List Int)/\True) (Sum.inl (wrap i64 (v0.1+1),List.set v0.2 (Int.toNat (wrap i64 (wrap i64 (frame*32)+v0.1))) (ior u32 (ior u32 (ior u32 (wrap u32 (↑(UInt8.toNat (List.getD E1 (Int.toNat 0) (0:UInt8))):Int)) (ishl u32 (wrap u32 (↑(UInt8.toNat (List.getD E1 (Int.toNat 1) (0:UInt8))):Int)) 8)) (ishl u32 (wrap u32 (↑(UInt8.toNat (List.getD E1 (Int.toNat 2) (0:UInt8))):Int)) 16)) (ishl u32 (wrap u32 (↑(UInt8.toNat (List.getD E1 (Int.toNat 3) (0:UInt8))):Int)) 24))))))))))) (.lf (Sum.inr (v0.2,true))))))
def Q2(m:(List Int))(frame:Int)(s:(List UInt8)):((List Int)×Bool):=(Q2f m frame s).m
abbrev Q6d(m:(List Int))(frame:Int)(s:(List UInt8)):Prop:=(Q2f m frame s).p
def Qnt:LInv:={
 α:=(Int)×(List Int)
 F:=λst a=>([(2,(lk st 2)),(8, .all 0),(9,(lk st 9)),(26, .int i64 a.1)],[⟨false,25,1, .ints u32 a.2⟩])
 a0:=λst=>((lk st 26).toInt,(Qjs st.rows (rN st 8)))
 ex0:=λst=>[]++[(rX st 8 0)]}
def Qke:List (Nat×LInv):=[(6,Qnt)]
def Qq1:Q0d:=mkP 144 [] true [.one (.ints .u32), .one (.int .i64), .one (.str)] [] (λargs rows=>Q6d (argL .u32 args 0) (argI args 1) (argS args 2)) (λargs rows=>Q2 (argL .u32 args 0) (argI args 1) (argS args 2)) (λX=> .tup [.all 0, .bool (X.2)]) (λX=>[⟨false,25,1, .ints .u32 (X.1)⟩])
theorem Qab:Q07 pG Qq1:=Q0t drawn Q0p (.cons Q0j (.cons Qfa (.nil))) Tryz.func144 Tryz.call144 (λargs rows=>Q2f (argL .u32 args 0) (argI args 1) (argS args 2)) [.row 25 1 (.ints .u32)] Qke 3
def strings_Repeat(s:(List UInt8))(count:Int):(List UInt8):=
Lib.repeatL s count.toNat
def Q9j(s:(List UInt8))(count:Int):Prop:=
0<=count/\count<=9223372036854775807/\s.length*count.toNat<=140737488355328
def Qct(s:(List UInt8))(count:Int):List D:=[.str s, .int .i64 count]
def Qcx(s:(List UInt8))(count:Int):List Row:=[]
def Q9h(X:(List UInt8)):D:= .str X
def Q93(X:(List UInt8)):List Row:=[]
def Qe1:List PT:=[.one (.str), .one (.int .i64)]
def Qd1:List RT:=[]
def Ql8(args:List D)(rows:List Row):(List UInt8):=strings_Repeat (argS args 0) (argI args 1)
def Qm(args:List D)(rows:List Row):Prop:=Q9j (argS args 0) (argI args 1)
def Qpt:Q0d:=mkP 253 [] true Qe1 Qd1 Qm Ql8 Q9h Q93
theorem Qjc(s:(List UInt8))(count:Int)(hw:Q9j s count):Q3v pG 253 (Qct s count) (Qcx s count) (Q9h (strings_Repeat s count)) (Q93 (strings_Repeat s count)):=by
 exact vc Tryz.strings_Repeat hw.1 hw.2.1 hw.2.2
set_option maxRecDepth 100000 in
theorem Qkn(args:List D)(rows:List Row):Qko Qe1 args 0=Qct (argS args 0) (argI args 1):=by kernel_rfl
set_option maxRecDepth 100000 in
theorem Qjj(args:List D)(rows:List Row):Q95 Qd1 rows 0=Qcx (argS args 0) (argI args 1):=by kernel_rfl
set_option maxRecDepth 100000 in
theorem Qo2(X:(List UInt8)):(ffB (Q9h X)&&ffBR (Q93 X))=true:=by kernel_rfl
theorem Qns:Q07 pG Qpt:=Z2a Tryz.call253 (λargs rows hp=>by rw[Qkn args rows,Qjj args rows];exact Qjc (argS args 0) (argI args 1) hp) (λ_ X=>Qo2 X)
def Q2t(b:Q06)(m:(List Int))(port:Int)(v:Int):Tree (Q06×(List Int)):=
let T1:Tree ((Q06×(List Int))):= .an (Q05 m) (.lv (Q01 m) λ(x0:List Int)=> .lf (b,x0)); .br (decide (v>=32)) T1 (.cn (decide (0<=v)) (.br (port==10) (.lv (Q0i m) λ(x1:Int)=> .br (decide (wrap i64 v<x1)) (.br (iand u32 b.B8 (ishl u32 1 v)==0) (.an (Q9j [(0:UInt8)] 128) (.lv (strings_Repeat [(0:UInt8)] 128) λ(x2:List UInt8)=> .an (Q6d m (wrap i64 v) x2) (.lv (Q2 m (wrap i64 v) x2) λ(x3:List Int×Bool)=> .lf ({C3:=b.C3,B8:=ior u32 b.B8 (ishl u32 1 v)},x3.1)))) T1) T1) (.br (port==11) (.an (Q05 m) (.lv (Q01 m) λ(x6:List Int)=> .lf ({C3:=b.C3,B8:=Qbs u32 b.B8 (ishl u32 1 v)},x6))) T1)))
def Q5i(b:Q06)(m:(List Int))(port:Int)(v:Int):(Q06×(List Int)):=(Q2t b m port v).m
abbrev Qhm(b:Q06)(m:(List Int))(port:Int)(v:Int):Prop:=(Q2t b m port v).p
def Qyc:Q0d:=mkP 203 [] true [.agg Q06.sig, .one (.ints .u32), .one (.int .i64), .one (.int .u32)] [] (λargs rows=>Qhm (Q06.of (aC args 0)) (argL .u32 args 1) (argI args 2) (argI args 3)) (λargs rows=>Q5i (Q06.of (aC args 0)) (argL .u32 args 1) (argI args 2) (argI args 3)) (λX=> .tup [.agg (Q06.cells (X.1)), .all 0]) (λX=>[⟨false,25,1, .ints .u32 (X.2)⟩])
theorem Quj:Q07 pG Qyc:=Q0t drawn Q0p (.cons Q0j (.cons Q2y (.cons Qab (.cons Qns (.nil))))) Tryz.func203 Tryz.call203 (λargs rows=>Q2t (Q06.of (aC args 0)) (argL .u32 args 1) (argI args 2) (argI args 3)) [.row 25 1 (.ints .u32)] [] 2
def Q2l(m:Q00)(port:Int)(v:Int)(at0:Int):Tree (Q00×(List Q08)):=
.br (port==0) (.lf (m,[{C0:=1,At:=at0,B5:=0,C6:=[(λ(n:Int)=>UInt8.ofNat n.toNat) (wrap u8 v)]}])) (.br (port==3) (.lv (Qf4 m.A6 v) λ(x0:Q0f)=> .lf ({B1:=m.B1,Mem:=m.Mem,A1:=m.A1,A6:=x0,A9:=m.A9,C2:=m.C2,A0:=m.A0,A4:=m.A4,A2:=m.A2,A3:=m.A3},[])) (let T1:Tree ((Q00×(List Q08))):= .an (Qog m.A9 m.Mem port v at0) (.lv (Qqe m.A9 m.Mem port v at0) λ(x1:Q09×List Q08)=> .lf ({B1:=m.B1,Mem:=m.Mem,A1:=m.A1,A6:=m.A6,A9:=x1.1,C2:=m.C2,A0:=m.A0,A4:=m.A4,A2:=m.A2,A3:=m.A3},x1.2)); .br (port==4) T1 (.br (port==5) T1 (.br (port==6) T1 (let T2:Tree ((Q00×(List Q08))):= .an (Qsh m.C2 m.Mem port v at0) (.lv (Qyr m.C2 m.Mem port v at0) λ(x4:Q0k×List Q08)=> .lf ({B1:=m.B1,Mem:=m.Mem,A1:=m.A1,A6:=m.A6,A9:=m.A9,C2:=x4.1,A0:=m.A0,A4:=m.A4,A2:=m.A2,A3:=m.A3},x4.2)); .br (port==7) T2 (.br (port==8) T2 (.br (port==9) T2 (let T3:Tree ((Q00×(List Q08))):= .an (Qhm m.A0 m.Mem port v) (.lv (Q5i m.A0 m.Mem port v) λ(x7:Q06×List Int)=> .lf ({B1:=m.B1,Mem:=x7.2,A1:=m.A1,A6:=m.A6,A9:=m.A9,C2:=m.C2,A0:=x7.1,A4:=m.A4,A2:=m.A2,A3:=m.A3},[])); .br (port==10) T3 (.br (port==11) T3 (.lf (m,[])))))))))))
def Q1k(m:Q00)(port:Int)(v:Int)(at0:Int):(Q00×(List Q08)):=(Q2l m port v at0).m
abbrev Q6v(m:Q00)(port:Int)(v:Int)(at0:Int):Prop:=(Q2l m port v at0).p
def Qkq:Q0d:=Q0d.fz<|mkP 135 [] false [.agg Q00.sig, .one (.int .i64), .one (.int .u32), .one (.int .u64)] [] (λargs rows=>Q6v (Q00.of (aC args 0)) (argI args 1) (argI args 2) (argI args 3)) (λargs rows=>Q1k (Q00.of (aC args 0)) (argI args 1) (argI args 2) (argI args 3)) (λX=> .tup [.agg (Q00.cells (X.1)), .sl 4 (.recs .apiOutput (X.2)) true]) (λX=>[])
theorem Qbn:Q07 pG Qkq:=fz_ok<|Q0t drawn Q0p (.cons Z3p (.cons Z4h (.cons Z8z (.cons Quj (.nil))))) Tryz.func135 Tryz.call135 (λargs rows=>Q2l (Q00.of (aC args 0)) (argI args 1) (argI args 2) (argI args 3)) [.sl (.ints .u32) false, .sl (.recs .apiOutput) true] [] 2 (λ_ _ _=>by kernel_rfl) (λ_ _=>rfl) (λ_ _ h=>h) (λh=>by cases h)
def Q3l(m:Q00)(clock:Int):Tree (Q00×(List Q08)):=
.an (Q05 m.Mem) (.lv (Q01 m.Mem) λ(x0:List Int)=>let E1:=({B1:=m.B1,Mem:=x0,A1:=m.A1,A6:=m.A6,A9:=m.A9,C2:=m.C2,A0:=m.A0,A4:=m.A4,A2:=m.A2,A3:=m.A3}:Q00); .an (Q88 E1) (.lv (Q2g E1) λ(x1:Bool)=> .br (!x1) (.lf (E1,[])) (.an (Q7e E1) (.lv (Q0r E1) λ(x2:Q00)=> .an (Qe0 x2.B1 x2.Mem) (.lv (Q75 x2.B1 x2.Mem) λ(x3:Q03×List Int×Q0y)=>let E2:=({B1:=x3.1,Mem:=x3.2.1,A1:=x2.A1,A6:=x2.A6,A9:=x2.A9,C2:=x2.C2,A0:=x2.A0,A4:=x2.A4,A2:=x2.A2,A3:=x2.A3}:Q00); .br (x3.2.2.C0==1) (.an (Q7m E2 x3.2.2.C5 clock) (.lv (Q0v E2 x3.2.2.C5 clock) λ(x4:Q00×Int)=> .br (x3.2.2.D2 !=0) (.cn (Nat.blt 0 1&&decide (0<=x3.2.2.D2/\x3.2.2.D2<(↑16:Int))) (.lf ({B1:={X:=A16.of 0 (List.set (A16.l x4.1.B1.X) x3.2.2.D2.toNat x4.2),Pc:=x4.1.B1.Pc,B3:=x4.1.B1.B3},Mem:=x4.1.Mem,A1:=x4.1.A1,A6:=x4.1.A6,A9:=x4.1.A9,C2:=x4.1.C2,A0:=x4.1.A0,A4:=wrap u64 (x4.1.A4+1),A2:=x4.1.A2,A3:=x4.1.A3},[]))) (.lf ({B1:=x4.1.B1,Mem:=x4.1.Mem,A1:=x4.1.A1,A6:=x4.1.A6,A9:=x4.1.A9,C2:=x4.1.C2,A0:=x4.1.A0,A4:=wrap u64 (x4.1.A4+1),A2:=x4.1.A2,A3:=x4.1.A3},[])))) (.br (x3.2.2.C0==2) (.an (Q6v E2 x3.2.2.C5 x3.2.2.Value m.A4) (.lv (Q1k E2 x3.2.2.C5 x3.2.2.Value m.A4) λ(x5:Q00×List Q08)=> .lf ({B1:=x5.1.B1,Mem:=x5.1.Mem,A1:=x5.1.A1,A6:=x5.1.A6,A9:=x5.1.A9,C2:=x5.1.C2,A0:=x5.1.A0,A4:=wrap u64 (x5.1.A4+1),A2:=x5.1.A2,A3:=x5.1.A3},x5.2))) (.br (x3.2.2.C0==3) (.lf ({B1:=x3.1,Mem:=x3.2.1,A1:=x2.A1,A6:=x2.A6,A9:=x2.A9,C2:=x2.C2,A0:=x2.A0,A4:=wrap u64 (x2.A4+1),A2:=true,A3:=x2.A3},[])) (.br (x3.2.2.C0==4) (.lf ({B1:=x3.1,Mem:=x3.2.1,A1:=x2.A1,A6:=x2.A6,A9:=x2.A9,C2:=x2.C2,A0:=x2.A0,A4:=wrap u64 (x2.A4+1),A2:=x2.A2,A3:=true},[])) (.lf ({B1:=x3.1,Mem:=x3.2.1,A1:=x2.A1,A6:=x2.A6,A9:=x2.A9,C2:=x2.C2,A0:=x2.A0,A4:=wrap u64 (x2.A4+1),A2:=x2.A2,A3:=x2.A3},[]))))))))))
def Q1b(m:Q00)(clock:Int):(Q00×(List Q08)):=(Q3l m clock).m
abbrev Q86(m:Q00)(clock:Int):Prop:=(Q3l m clock).p
def Quz:Q0d:=Q0d.fz<|mkP 39 [] false [.agg Q00.sig, .one (.int .u32)] [] (λargs rows=>Q86 (Q00.of (aC args 0)) (argI args 1)) (λargs rows=>Q1b (Q00.of (aC args 0)) (argI args 1)) (λX=> .tup [.agg (Q00.cells (X.1)), .sl 4 (.recs .apiOutput (X.2)) false]) (λX=>[])
theorem Qtx:Q07 pG Quz:=fz_ok<|Q0t drawn Q0p (.cons Q0j (.cons Qi2 (.cons Qgt (.cons Qtm (.cons Qch (.cons Qbn (.nil))))))) Tryz.func39 Tryz.call39 (λargs rows=>Q3l (Q00.of (aC args 0)) (argI args 1)) [.sl (.ints .u32) false, .sl (.recs .apiOutput) false] [] 2 (λ_ _ _=>by kernel_rfl) (λ_ _=>rfl) (λ_ _ h=>h) (λh=>by cases h)
end
noncomputable section
def Qsn(op:Int):Tree Int:=
let T1:Tree (Int):= .br (op==49) (.lf 3) (let T2:Tree (Int):= .br (op==24) (.lf 6) (.br (op==48) (.lf 7) (.br (op==58) (.lf 8) (.br (op==59) (.lf 8) (.br (op==60) (.lf 9) (.br (op==61) (.lf 9) (.br (op==56) (.lf 1) (.br (op==57) (.lf 1) (.br (decide (op>=62)) (.br (decide (op<=64)) (.lf 1) (.lf 0)) (.lf 0))))))))); .br (decide (op>=17)) (.br (decide (op<=19)) (.lf 4) (.br (decide (op>=20)) (.br (decide (op<=22)) (.lf 5) T2) T2)) (.br (decide (op>=20)) (.br (decide (op<=22)) (.lf 5) T2) T2));let T3:Tree (Int):= .br (op==16) (.lf 3) (.br (op==23) (.lf 3) (.br (decide (op>=32)) (.br (decide (op<=36)) (.lf 3) (.br (decide (op>=40)) (.br (decide (op<=45)) (.lf 3) T1) T1)) (.br (decide (op>=40)) (.br (decide (op<=45)) (.lf 3) T1) T1))); .br (decide (op>=1)) (.br (decide (op<=13)) (.lf 2) T3) T3
def Q1p(op:Int):Int:=(Qsn op).m
def Z4k:Q0d:=mkR 191 [] true [.one (.int .i64)] [] (λargs rows=>Q1p (argI args 0)) (λX=> .int .i64 X) (λX=>[])
theorem Qe:Q07 pG Z4k:=Q1w drawn Q0p (.nil) Tryz.func191 Tryz.call191 (λargs rows=>Qsn (argI args 0)) [] [] 2
def Q94(r:Int):Tree Bool:=
.br (decide (r>=0)) (.lf (decide (r<=15))) (.lf false)
def Q5n(r:Int):Bool:=(Q94 r).m
def Qrb:Q0d:=mkR 225 [] true [.one (.int .i64)] [] (λargs rows=>Q5n (argI args 0)) (λX=> .bool X) (λX=>[])
theorem Qpw:Q07 pG Qrb:=Q1w drawn Q0p (.nil) Tryz.func225 Tryz.call225 (λargs rows=>Q94 (argI args 0)) [] [] 2
def Qfk(f:Int):Tree (Int×Int):=
.br (f==3) (.lf ((-32768),32767)) (.br (f==7) (.lf ((-32768),32767)) (.br (f==4) (.lf (0,65535)) (.br (f==6) (.lf (0,65535)) (.br (f==5) (.lf (0,31)) (.br (f==8) (.lf (0,7)) (.br (f==9) (.lf (0,11)) (.lf (0,0))))))))
def Qfu(f:Int):(Int×Int):=(Qfk f).m
def Qzv:Q0d:=mkR 192 [] true [.one (.int .i64)] [] (λargs rows=>Qfu (argI args 0)) (λX=> .tup [.int .i64 (X.1), .int .i64 (X.2)]) (λX=>[])
theorem Qjm:Q07 pG Qzv:=Q1w drawn Q0p (.nil) Tryz.func192 Tryz.call192 (λargs rows=>Qfk (argI args 0)) [] [] 2
def Qb8(i:Q0e):Tree Bool:=
.lv (Q1p i.Op) λ(x0:Int)=> .br (x0==0) (.lf false) (.lv (Q5n i.A) λ(x1:Bool)=> .br (!x1) (.lf false) (.lv (Q5n i.B) λ(x2:Bool)=> .br (!x2) (.lf false) (.lv (Q5n i.C) λ(x3:Bool)=> .br (!x3) (.lf false) (.lv (Qfu x0) λ(x4:Int×Int)=> .br (decide (wrap i64 i.Imm<x4.1)) (.lf false) (.br (decide (wrap i64 i.Imm>x4.2)) (.lf false) (let T1:Tree (Bool):= .br (x0==1) (.br (i.A !=0) (.lf false) (.br (i.B==0) (.lf true) (.br (decide (x0>=2)) (.lf (decide (x0<=5))) (.lf false)))) (.br (i.B==0) (.lf true) (.br (decide (x0>=2)) (.lf (decide (x0<=5))) (.lf false))); .br (x0 !=2) (.br (i.C !=0) (.lf false) T1) T1))))))
def Q61(i:Q0e):Bool:=(Qb8 i).m
def Z0l:Q0d:=mkR 167 [] true [.agg Q0e.sig] [] (λargs rows=>Q61 (Q0e.of (aC args 0))) (λX=> .bool X) (λX=>[])
theorem Qy7:Q07 pG Z0l:=Q1w drawn Q0p (.cons Qe (.cons Qpw (.cons Qjm (.nil)))) Tryz.func167 Tryz.call167 (λargs rows=>Qb8 (Q0e.of (aC args 0))) [] [] 2
def Qlc(i:Q0e):Tree (Int×Bool):=
.lv (Q61 i) λ(x0:Bool)=> .br (!x0) (.lf (0,false)) (.lf (ior u32 (ior u32 (ior u32 (ior u32 (ishl u32 (wrap u32 i.Op) 24) (ishl u32 (wrap u32 i.A) 20)) (ishl u32 (wrap u32 i.B) 16)) (iand u32 (wrap u32 i.Imm) 65535)) (wrap u32 i.C),true))
def Q1(i:Q0e):(Int×Bool):=(Qlc i).m
def Qxb:Q0d:=mkR 82 [] true [.agg Q0e.sig] [] (λargs rows=>Q1 (Q0e.of (aC args 0))) (λX=> .tup [.int .u32 (X.1), .bool (X.2)]) (λX=>[])
theorem Qk2:Q07 pG Qxb:=Q1w drawn Q0p (.cons Qy7 (.nil)) Tryz.func82 Tryz.call82 (λargs rows=>Qlc (Q0e.of (aC args 0))) [] [] 2
def Qp0(pc:Int):Tree Q03:=
.lf ({X:={a0:=0,a1:=0,a2:=0,a3:=0,a4:=0,a5:=0,a6:=0,a7:=0,a8:=0,a9:=0,a10:=0,a11:=0,a12:=0,a13:=0,a14:=0,a15:=0},Pc:=pc,B3:={a0:=1,a1:=0,a2:=0,a3:=0,a4:=0,a5:=0,a6:=0,a7:=0}})
def Qw5(pc:Int):Q03:=(Qp0 pc).m
def Z3s:Q0d:=mkR 127 [] true [.one (.int .u32)] [] (λargs rows=>Qw5 (argI args 0)) (λX=> .agg (Q03.cells X)) (λX=>[])
theorem Z04:Q07 pG Z3s:=Q1w drawn Q0p (.nil) Tryz.func127 Tryz.call127 (λargs rows=>Qp0 (argI args 0)) [] [] 2
def Qet(pages:Int):Tree (List Int):=
.br (decide (pages<1)) (.lf ([])) (.br (decide (pages>32)) (.lf ([])) (.cn (Nat.blt 0 1&&Nat.beq 1 1&&List.all [D.int u32 0] D.plain&&decide (0<=wrap i64 (pages*32)/\wrap i64 (pages*32)<=wrap i64 (pages*32)/\wrap i64 (pages*32)<=9223372036854775807/\(↑4:Int)*wrap i64 (pages*32)<=140737488355328)) (.lf (List.replicate (Int.toNat (wrap i64 (pages*32))) 0))))
def Qy9(pages:Int):(List Int):=(Qet pages).m
abbrev Qec(pages:Int):Prop:=(Qet pages).p
def Z8p:Q0d:=mkP 128 [] true [.one (.int .i64)] [] (λargs rows=>Qec (argI args 0)) (λargs rows=>Qy9 (argI args 0)) (λX=> .all 0) (λX=>[⟨false,25,1, .ints .u32 X⟩])
theorem Z4g:Q07 pG Z8p:=Q0t drawn Q0p (.nil) Tryz.func128 Tryz.call128 (λargs rows=>Qet (argI args 0)) [.row 25 1 (.ints .u32)] [] 2
def Q8q(pages:Int)(blocks:Int)(image:(List Int)):Tree (Q00×Bool):=
let T1:Tree ((Q00×Bool)):= .lf ({B1:={X:={a0:=0,a1:=0,a2:=0,a3:=0,a4:=0,a5:=0,a6:=0,a7:=0,a8:=0,a9:=0,a10:=0,a11:=0,a12:=0,a13:=0,a14:=0,a15:=0},Pc:=0,B3:={a0:=0,a1:=0,a2:=0,a3:=0,a4:=0,a5:=0,a6:=0,a7:=0}},Mem:=[],A1:={C7:=[]},A6:={D0:=false,C4:=0,C9:=false},A9:={Blocks:=0,B5:=0,Frame:=0,B7:=0,D1:=0,B2:=0,B0:=0,B9:=[]},C2:={Frame:=0,D4:=0,C1:=false,B6:=0,B4:=false,D5:=0},A0:={C3:=0,B8:=0},A4:=0,A2:=false,A3:=false},false); .br (decide (pages<1)) T1 (.br (decide (pages>32)) T1 (.br (decide (blocks<0)) T1 (.br (decide (blocks>64)) T1 (.br (decide ((image.length:Int)>wrap i64 (pages*32))) T1 (.lv (Qw5 0) λ(x0:Q03)=> .an (Qec pages) (.lv (Qy9 pages) λ(x1:List Int)=> .lf ({B1:=x0,Mem:=List.take (Min.min (image.length) (x1.length)) image++List.drop (Min.min (image.length) (x1.length)) x1,A1:={C7:=[]},A6:={D0:=false,C4:=0,C9:=false},A9:={Blocks:=wrap u32 blocks,B5:=0,Frame:=0,B7:=0,D1:=0,B2:=0,B0:=0,B9:=[]},C2:={Frame:=0,D4:=0,C1:=false,B6:=0,B4:=false,D5:=0},A0:={C3:=0,B8:=0},A4:=0,A2:=false,A3:=false},true)))))))
def Q38(pages:Int)(blocks:Int)(image:(List Int)):(Q00×Bool):=(Q8q pages blocks image).m
abbrev Qdw(pages:Int)(blocks:Int)(image:(List Int)):Prop:=(Q8q pages blocks image).p
def Z90:Q0d:=mkP 37 [] true [.one (.int .i64), .one (.int .i64), .one (.ints .u32)] [] (λargs rows=>Qdw (argI args 0) (argI args 1) (argL .u32 args 2)) (λargs rows=>Q38 (argI args 0) (argI args 1) (argL .u32 args 2)) (λX=> .tup [.agg (Q00.cellsW (X.1) (.all 0)), .bool (X.2)]) (λX=>[⟨false,25,1, .ints .u32 (X.1).Mem⟩])
theorem Z4q:Q07 pG Z90:=Q0t drawn Q0p (.cons Z04 (.cons Z4g (.nil))) Tryz.func37 Tryz.call37 (λargs rows=>Q8q (argI args 0) (argI args 1) (argL .u32 args 2)) [.row 25 1 (.ints .u32)] [] 2
