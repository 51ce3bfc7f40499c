import Derived.Test.YtjaifpiopmhmlaaGreatBareRunsBase
import Derived.Test.YtjaifpiopmhmlaaGreatBareRunsHand
import Derived.Test.YtjaifpiopmhmlaaGreatBareRunsYc
import Derived.Test.YtjaifpiopmhmlaaGreatBareRunsYb
import Derived.Test.YtjaifpiopmhmlaaGreatBareRunsYa
set_option maxRecDepth 100000
set_option linter.all false
namespace Go.Proofs.YtjaifpiopmhmlaaGreat
open Go Go.GD Go.IntKind
noncomputable section
def Q40(m:Q00):Tree Bool:=
.an (Q5m m) (.lv (Q14 m) λ(x0:Bool)=> .br x0 (.br (!m.A6) (.an (Q85 m) (.lv (Q94 m) λ(x1:Bool)=> .br (!x1) (.lf (decide (m.A1<1152921504606846976))) (.lf false))) (.lf false)) (.lf false))
def Q2o(m:Q00):Bool:=(Q40 m).m
abbrev Qb0(m:Q00):Prop:=(Q40 m).p
def Z36:Q0c:=mkP 105 [] true [.agg Q00.sig] [] (λargs rows=>Qb0 (Q00.of (aC args 0))) (λargs rows=>Q2o (Q00.of (aC args 0))) (λX=> .bool X) (λX=>[])
theorem Qnq:Q06 Tryz.prog Z36:=Q0n Q0j Q0l (.cons Qjp (.cons Qng (.nil))) Tryz.func105 Tryz.call105 (λargs rows=>Q40 (Q00.of (aC args 0))) [] [] 2
def Qb3(m:Q00)(z:(Int)):Nat:=(5-z).toNat
def Q2t(m:Q00):Tree Q00:=
let E1:=({B2:=m.B2,Mem:=m.Mem,A3:=m.A3,A7:=m.A7,B0:=m.B0,C0:=m.C0,A2:=m.A2,A1:=m.A1,A4:=false,A6:=m.A6}:Q00); .br (iand u32 m.B2.B5.a0 (2:Int)==(0:Int)) (.lf (E1)) (.an (Qbg E1) (.lv (Q5f E1) λ(x0:Int)=> .lp inferInstance (Qb3 m 0+1) ((rZ/\rZ/\rE (x0:Int)/\rE (0:Int)/\True)/\(rE m.B2.X.a0/\rE m.B2.X.a1/\rE m.B2.X.a2/\rE m.B2.X.a3/\rE m.B2.X.a4/\rE m.B2.X.a5/\rE m.B2.X.a6/\rE m.B2.X.a7/\rE m.B2.X.a8/\rE m.B2.X.a9/\rE m.B2.X.a10/\rE m.B2.X.a11/\rE m.B2.X.a12/\rE m.B2.X.a13/\rE m.B2.X.a14/\rE m.B2.X.a15/\rE m.B2.Pc/\rE m.B2.B5.a0/\rE m.B2.B5.a1/\rE m.B2.B5.a2/\rE m.B2.B5.a3/\rE m.B2.B5.a4/\rE m.B2.B5.a5/\rE m.B2.B5.a6/\rE m.B2.B5.a7/\((Els.Nil (Els.ints u32 m.Mem)\/rE (1:Nat))/\rE m.Mem)/\rE m.A3.D3/\rE m.A7.D2/\rE m.A7.C8/\rE m.A7.D5/\rE m.B0.Blocks/\rE m.B0.B9/\rE m.B0.B4/\rE m.B0.C1/\rE m.B0.D8/\rE m.B0.B6/\rE m.B0.B3/\rE m.B0.C3/\rE m.C0.B4/\rE m.C0.F0/\rE m.C0.C7/\rE m.C0.C2/\rE m.C0.B8/\rE m.C0.F3/\rE m.A2.C9/\rE m.A2.C5/\rE m.A1/\rE (false:Bool)/\rE m.A6/\True)/\(mE zM True True)/\True) 0 λ(v0:Int)=> .br (decide (v0<5)) (.cn (decide (0<=v0)) (.br (iand u32 x0 (ishl u32 1 v0) !=0) (.lv (Q4f m.B2 (wrap i64 (16+v0)) 0) λ(x1:Q04)=> .lf (Sum.inr {B2:=x1,Mem:=m.Mem,A3:=m.A3,A7:=m.A7,B0:=m.B0,C0:=m.C0,A2:=m.A2,A1:=m.A1,A4:=false,A6:=m.A6})) (.nx ((rZ/\rZ/\rE (x0:Int)/\rE ((wrap i64 (v0+1)):Int)/\True)/\(rE m.B2.X.a0/\rE m.B2.X.a1/\rE m.B2.X.a2/\rE m.B2.X.a3/\rE m.B2.X.a4/\rE m.B2.X.a5/\rE m.B2.X.a6/\rE m.B2.X.a7/\rE m.B2.X.a8/\rE m.B2.X.a9/\rE m.B2.X.a10/\rE m.B2.X.a11/\rE m.B2.X.a12/\rE m.B2.X.a13/\rE m.B2.X.a14/\rE m.B2.X.a15/\rE m.B2.Pc/\rE m.B2.B5.a0/\rE m.B2.B5.a1/\rE m.B2.B5.a2/\rE m.B2.B5.a3/\rE m.B2.B5.a4/\rE m.B2.B5.a5/\rE m.B2.B5.a6/\rE m.B2.B5.a7/\((Els.Nil (Els.ints u32 m.Mem)\/rE (1:Nat))/\rE m.Mem)/\rE m.A3.D3/\rE m.A7.D2/\rE m.A7.C8/\rE m.A7.D5/\rE m.B0.Blocks/\rE m.B0.B9/\rE m.B0.B4/\rE m.B0.C1/\rE m.B0.D8/\rE m.B0.B6/\rE m.B0.B3/\rE m.B0.C3/\rE m.C0.B4/\rE m.C0.F0/\rE m.C0.C7/\rE m.C0.C2/\rE m.C0.B8/\rE m.C0.F3/\rE m.A2.C9/\rE m.A2.C5/\rE m.A1/\rE (false:Bool)/\rE m.A6/\True)/\(mE zM True True)/\True) (Sum.inl (wrap i64 (v0+1)))))) (.lf (Sum.inr E1))))
def Q0v(m:Q00):Q00:=(Q2t m).m
abbrev Qaa(m:Q00):Prop:=(Q2t m).p
def Qy:LInv:={
 α:=(Int)
 F:=λst a=>([(1, .ptr 0 0 0),(2, .ptr 1 0 0),(3,(lk st 3)),(15, .int i64 a)],[⟨true,41,49, .gen [mB (cT st 1)]⟩,⟨true,41,49, .gen [mB (cT st 2)]⟩])
 a0:=λst=>(lk st 15).toInt
 ex0:=λst=>[]++[(Q0o (lk st 1) (st.rows.length+0)),(Q0o (lk st 2) (st.rows.length+1))]
 next:=λst=>(lk st 15).toInt
 ex:=λst=>[]++[(Q0o (lk st 1) (st.rows.length+0)),(Q0o (lk st 2) (st.rows.length+1))]}
def Qsg:List (Nat×LInv):=[(6,Qy)]
def Z06:Q0c:=Q0c.fz<|mkP 106 [] false [.agg Q00.sig] [] (λargs rows=>Qaa (Q00.of (aC args 0))) (λargs rows=>Q0v (Q00.of (aC args 0))) (λX=> .agg (Q00.cells X)) (λX=>[])
theorem Qmi:Q06 Tryz.prog Z06:=Zlj<|Q0n Q0j Q0l (.cons Qje (.cons Qiq (.nil))) Tryz.func106 Tryz.call106 (λargs rows=>Q2t (Q00.of (aC args 0))) [.sl (.ints .u32) false] Qsg 3 (λ_ _ _=>by kernel_rfl) (λ_ _=>rfl) (λ_ _ h=>h) (λh=>by cases h)
def Q9q(c:Q0b)(port:Int):Tree (Q0b×Int):=
.br (port==0) (.br (decide (c.D3=[])) (.lf (c,4294967295)) (.cn (decide ((0:Int)<=(0:Int)/\0<(c.D3.length:Int))) (.cn (decide ((0:Int)<=(1:Int)/\1<=(c.D3.length:Int)/\(c.D3.length:Int)<=(c.D3.length:Int))) (.lf ({D3:=List.take (Int.toNat (c.D3.length:Int)-Int.toNat 1) (List.drop (Int.toNat 1) c.D3)},wrap u32 (↑(UInt8.toNat (c.D3.getD (Int.toNat 0) (0:UInt8))):Int)))))) (.br (port==1) (.lf (c,wrap u32 (c.D3.length:Int))) (.lf (c,0)))
def Qos(c:Q0b)(port:Int):(Q0b×Int):=(Q9q c port).m
theorem Z3x(c:Q0b)(port:Int):(Q9q c port).p:=by
 unfold Tree.p Q9q
 repeat'(first|exact trivial|refine w_br (λ_=> ?_) (λ_=> ?_)|refine w_cn ?_ ?_|refine w_an ?_ ?_|refine w_lv (λ_ _=> ?_)|refine w_nx ?_|refine w_lf ?_|refine And.intro ?_ ?_)
 all_goals(exact fin0)
def Zf:Q0c:=mkR 170 [] true [.agg Q0b.sig, .one (.int .i64)] [] (λargs rows=>Qos (Q0b.of (aC args 0)) (argI args 1)) (λX=> .tup [.agg (Q0b.cells (X.1)), .int .u32 (X.2)]) (λX=>[])
theorem Z82:Q06 Tryz.prog Zf:=Q0z Q0j Q0l (.nil) Tryz.func170 Tryz.call170 (λargs rows=>Q9q (Q0b.of (aC args 0)) (argI args 1)) [] [] 2 (λ_ _ _=>by kernel_rfl) (λ_ _=>rfl) (λargs rows=>Z3x (Q0b.of (aC args 0)) (argI args 1)) (λ_ X=>by kernel_rfl)
def Qoy(t:Q0g):Tree Int:=
.br t.D5 (.lf 1) (.lf 0)
def Qz9(t:Q0g):Int:=(Qoy t).m
def Zlu:Q0c:=mkR 171 [] true [.agg Q0g.sig] [] (λargs rows=>Qz9 (Q0g.of (aC args 0))) (λX=> .int .u32 X) (λX=>[])
theorem Zi:Q06 Tryz.prog Zlu:=Q0z Q0j Q0l (.nil) Tryz.func171 Tryz.call171 (λargs rows=>Qoy (Q0g.of (aC args 0))) [] [] 2
def Qsu(d0:Q0e)(port:Int):Tree Int:=
.br (port==4) (.lf d0.B9) (.br (port==5) (.lf d0.B4) (.br (port==6) (.lf (wrap u32 d0.C1)) (.lf 0)))
def Qv1(d0:Q0e)(port:Int):Int:=(Qsu d0 port).m
def xA:Q0c:=mkR 172 [] true [.agg Q0e.sig, .one (.int .i64)] [] (λargs rows=>Qv1 (Q0e.of (aC args 0)) (argI args 1)) (λX=> .int .u32 X) (λX=>[])
theorem Zlq:Q06 Tryz.prog xA:=Q0z Q0j Q0l (.nil) Tryz.func172 Tryz.call172 (λargs rows=>Qsu (Q0e.of (aC args 0)) (argI args 1)) [] [] 2
def Qt8(n:Q0q)(port:Int):Tree Int:=
.br (port==7) (.lf n.B4) (.br (port==8) (.lf n.F3) (.br (port==9) (.br n.C7 (.br n.B8 (.lf (wrap u32 (wrap u32 ((0:Int)+(1:Int))+2))) (.lf (wrap u32 ((0:Int)+(1:Int))))) (.br n.B8 (.lf (wrap u32 ((0:Int)+(2:Int)))) (.lf 0))) (.lf 0)))
def Z1j(n:Q0q)(port:Int):Int:=(Qt8 n port).m
def xT:Q0c:=mkR 173 [] true [.agg Q0q.sig, .one (.int .i64)] [] (λargs rows=>Z1j (Q0q.of (aC args 0)) (argI args 1)) (λX=> .int .u32 X) (λX=>[])
theorem zA:Q06 Tryz.prog xT:=Q0z Q0j Q0l (.nil) Tryz.func173 Tryz.call173 (λargs rows=>Qt8 (Q0q.of (aC args 0)) (argI args 1)) [] [] 2
def Qbs(b:Q07)(port:Int):Tree Int:=
.br (port==10) (.lf b.C9) (.br (port==11) (.an (Qdn b) (.lv (Qc b) λ(x0:Int)=> .lf (wrap u32 x0))) (.lf 0))
def Qp8(b:Q07)(port:Int):Int:=(Qbs b port).m
abbrev Qpw(b:Q07)(port:Int):Prop:=(Qbs b port).p
def Zcn:Q0c:=mkP 174 [] true [.agg Q07.sig, .one (.int .i64)] [] (λargs rows=>Qpw (Q07.of (aC args 0)) (argI args 1)) (λargs rows=>Qp8 (Q07.of (aC args 0)) (argI args 1)) (λX=> .int .u32 X) (λX=>[])
theorem Za5:Q06 Tryz.prog Zcn:=Q0n Q0j Q0l (.cons Qmp (.nil)) Tryz.func174 Tryz.call174 (λargs rows=>Qbs (Q07.of (aC args 0)) (argI args 1)) [] [] 2
def Q4k(m:Q00)(port:Int)(clock:Int):Tree (Q00×Int):=
let T1:Tree ((Q00×Int)):= .lv (Qos m.A3 port) λ(x0:Q0b×Int)=> .lf ({B2:=m.B2,Mem:=m.Mem,A3:=x0.1,A7:=m.A7,B0:=m.B0,C0:=m.C0,A2:=m.A2,A1:=m.A1,A4:=m.A4,A6:=m.A6},x0.2); .br (port==0) T1 (.br (port==1) T1 (.br (port==2) (.lf (m,clock)) (.br (port==3) (.lv (Qz9 m.A7) λ(x2:Int)=> .lf (m,x2)) (.br (port==4) (.lv (Qv1 m.B0 port) λ(x3:Int)=> .lf (m,x3)) (.br (port==5) (.lv (Qv1 m.B0 port) λ(x4:Int)=> .lf (m,x4)) (.br (port==6) (.lv (Qv1 m.B0 port) λ(x5:Int)=> .lf (m,x5)) (.br (port==7) (.lv (Z1j m.C0 port) λ(x6:Int)=> .lf (m,x6)) (.br (port==8) (.lv (Z1j m.C0 port) λ(x7:Int)=> .lf (m,x7)) (.br (port==9) (.lv (Z1j m.C0 port) λ(x8:Int)=> .lf (m,x8)) (let T2:Tree ((Q00×Int)):= .an (Qpw m.A2 port) (.lv (Qp8 m.A2 port) λ(x9:Int)=> .lf (m,x9)); .br (port==10) T2 (.br (port==11) T2 (.lf (m,0)))))))))))))
def Q1f(m:Q00)(port:Int)(clock:Int):(Q00×Int):=(Q4k m port clock).m
abbrev Qfz(m:Q00)(port:Int)(clock:Int):Prop:=(Q4k m port clock).p
def Qsh:Q0c:=Q0c.fz<|mkP 125 [] false [.agg Q00.sig, .one (.int .i64), .one (.int .u32)] [] (λargs rows=>Qfz (Q00.of (aC args 0)) (argI args 1) (argI args 2)) (λargs rows=>Q1f (Q00.of (aC args 0)) (argI args 1) (argI args 2)) (λX=> .tup [.agg (Q00.cells (X.1)), .int .u32 (X.2)]) (λX=>[])
theorem Qrd:Q06 Tryz.prog Qsh:=Zlj<|Q0n Q0j Q0l (.cons Z82 (.cons Zi (.cons Zlq (.cons zA (.cons Za5 (.nil)))))) Tryz.func125 Tryz.call125 (λargs rows=>Q4k (Q00.of (aC args 0)) (argI args 1) (argI args 2)) [.sl (.ints .u32) false] [] 2 (λ_ _ _=>by kernel_rfl) (λ_ _=>rfl) (λ_ _ h=>h) (λh=>by cases h)
def Qm7(t:Q0g)(deadline:Int):Tree Q0g:=
.lf ({D2:=deadline !=0,C8:=deadline,D5:=false})
def Qkg(t:Q0g)(deadline:Int):Q0g:=(Qm7 t deadline).m
def Zfq:Q0c:=mkR 175 [] true [.agg Q0g.sig, .one (.int .u32)] [] (λargs rows=>Qkg (Q0g.of (aC args 0)) (argI args 1)) (λX=> .agg (Q0g.cells X)) (λX=>[])
theorem Zdk:Q06 Tryz.prog Zfq:=Q0z Q0j Q0l (.nil) Tryz.func175 Tryz.call175 (λargs rows=>Qm7 (Q0g.of (aC args 0)) (argI args 1)) [] [] 2
def Qcx(m:(List Int))(frame:Int):Tree Bool:=
.lv (Q0u m) λ(x0:Int)=> .lf (decide (wrap u64 frame<wrap u64 x0))
def Q9g(m:(List Int))(frame:Int):Bool:=(Qcx m frame).m
def Z7p:Q0c:=mkR 166 [] true [.one (.ints .u32), .one (.int .u32)] [] (λargs rows=>Q9g (argL .u32 args 0) (argI args 1)) (λX=> .bool X) (λX=>[])
theorem Qqh:Q06 Tryz.prog Z7p:=Q0z Q0j Q0l (.cons Q4b (.nil)) Tryz.func166 Tryz.call166 (λargs rows=>Qcx (argL .u32 args 0) (argI args 1)) [] [] 2
def Q80(m:(List Int))(frame:Int):Tree Bool:=
.br (decide (frame>=0)) (.lv (Q0u m) λ(x0:Int)=> .lf (decide (frame<x0))) (.lf false)
def Q59(m:(List Int))(frame:Int):Bool:=(Q80 m frame).m
def Qy4:Q0c:=mkR 228 [] true [.one (.ints .u32), .one (.int .i64)] [] (λargs rows=>Q59 (argL .u32 args 0) (argI args 1)) (λX=> .bool X) (λX=>[])
theorem Qkj:Q06 Tryz.prog Qy4:=Q0z Q0j Q0l (.cons Q4b (.nil)) Tryz.func228 Tryz.call228 (λargs rows=>Q80 (argL .u32 args 0) (argI args 1)) [] [] 2
def Qmj(words:(List Int))(z:(Int)×(List Int)):Prop:=0<=z.1/\z.1<=words.length/\(z.2.length:Int)=4*z.1
def Q74(words:(List Int))(z:(Int)×(List Int)):Nat:=(words.length-z.1).toNat
def Q50(words:(List Int)):Tree (List UInt8):=
.cn (Nat.blt 0 1&&Nat.beq 1 1&&List.all [D.int u8 0] D.plain&&decide ((0:Int)<=(0:Int)/\0<=wrap i64 (4*(words.length:Int))/\wrap i64 (4*(words.length:Int))<=9223372036854775807/\(↑1:Int)*wrap i64 (4*(words.length:Int))<=140737488355328)) (.lp inferInstance (Q74 words (0,[])+1) ((True/\((Els.Nil (Els.ints u32 words)\/rE (1:Nat))/\rE (words:List Int))/\rE ((words.length:Int):Int)/\rE (0:Int)/\True)/\rE ([]:List Int)/\True) (0,[]) λ(v0:Int×List Int)=> .br (decide (v0.1<(words.length:Int))) (.cn (Nat.beq 1 1&&Nat.blt 0 1&&decide (0<=v0.1/\v0.1<(words.length:Int))) (.cn (decide (1*(v0.2.length+4)<=140737488355328)) (let E1:=words.getD v0.1.toNat 0; .nx ((True/\((Els.Nil (Els.ints u32 words)\/rE (1:Nat))/\rE (words:List Int))/\rE ((words.length:Int):Int)/\rE ((wrap i64 (v0.1+1)):Int)/\True)/\rE ((v0.2++[wrap u8 (words.getD v0.1.toNat 0),wrap u8 (ishr u32 (words.getD v0.1.toNat 0) 8),wrap u8 (ishr u32 (words.getD v0.1.toNat 0) 16),wrap u8 (ishr u32 (words.getD v0.1.toNat 0) 24)]):List Int)/\True) (Sum.inl (wrap i64 (v0.1+1),v0.2++[wrap u8 E1,wrap u8 (ishr u32 E1 8),wrap u8 (ishr u32 E1 16),wrap u8 (ishr u32 E1 24)]))))) (.lf (Sum.inr (bytesOf v0.2))))
def Z2x(words:(List Int)):(List UInt8):=(Q50 words).m
def Qci(words:(List Int)):Prop:=
words.length<=1000000000000
theorem Z0q(words:(List Int))(hw:Qci words):(Q50 words).p:=by
 simp only[Qci]at hw
 unfold Tree.p Q50
 repeat'(first|refine w_lp (inv:=Qmj words) (μ:=Q74 words) ?_ (Nat.lt_succ_self _) (λ_ _=> ?_)|exact trivial|refine w_br (λ_=> ?_) (λ_=> ?_)|refine w_cn ?_ ?_|refine w_an ?_ ?_|refine w_lv (λ_ _=> ?_)|refine w_nx ?_|refine w_lf ?_|refine And.intro ?_ ?_)
 all_goals((try simp only[Qmj,Q74]at*);exact fin0)
def Z4l:LInv:={
 α:=(Int)×(List Int)
 F:=λst a=>([(3, .all 0),(10,(lk st 10)),(11,(lk st 11)),(12, .int i64 a.1)],[⟨false,5,1, .ints u8 a.2⟩])
 a0:=λst=>((lk st 12).toInt,(Q3e st.rows (rN st 3)))
 ex0:=λst=>[]++[(Q0o (lk st 3) (st.rows.length+0))]
 next:=λst=>((lk st 12).toInt,(Q3e st.rows (rN st 3)))
 ex:=λst=>[]++[(Q0o (lk st 3) (st.rows.length+0))]}
def Qyr:List (Nat×LInv):=[(3,Z4l)]
def Z7u:Q0c:=mkP 229 [] true [.one (.ints .u32)] [] (λargs rows=>Qci (argL .u32 args 0)) (λargs rows=>Z2x (argL .u32 args 0)) (λX=> .str X) (λX=>[])
theorem Z3y:Q06 Tryz.prog Z7u:=Q0n Q0j Q0l (.nil) Tryz.func229 Tryz.call229 (λargs rows=>Q50 (argL .u32 args 0)) [] Qyr 3 (hp:=λargs rows h=>Z0q (argL .u32 args 0) h)
def Q63(m:(List Int))(frame:Int):Tree ((List UInt8)×Bool):=
.lv (Q59 m frame) λ(x0:Bool)=> .br (!x0) (.lf ([],false)) (.cn (Nat.beq 1 1&&Nat.blt 0 1&&decide (0<=wrap i64 (frame*32)/\wrap i64 (frame*32)<=wrap i64 (wrap i64 (frame*32)+32)/\wrap i64 (wrap i64 (frame*32)+32)<=(m.length:Int))) (let E1:=List.take (Int.toNat (wrap i64 (wrap i64 (frame*32)+32))-Int.toNat (wrap i64 (frame*32))) (List.drop (Int.toNat (wrap i64 (frame*32))) m); .an (Qci E1) (.lv (Z2x E1) λ(x1:List UInt8)=> .lf (x1,true))))
def Q5o(m:(List Int))(frame:Int):((List UInt8)×Bool):=(Q63 m frame).m
abbrev Qcj(m:(List Int))(frame:Int):Prop:=(Q63 m frame).p
def Z8m:Q0c:=mkP 169 [] true [.one (.ints .u32), .one (.int .i64)] [] (λargs rows=>Qcj (argL .u32 args 0) (argI args 1)) (λargs rows=>Q5o (argL .u32 args 0) (argI args 1)) (λX=> .tup [.str (X.1), .bool (X.2)]) (λX=>[])
theorem Qjj:Q06 Tryz.prog Z8m:=Q0n Q0j Q0l (.cons Qkj (.cons Z3y (.nil))) Tryz.func169 Tryz.call169 (λargs rows=>Q63 (argL .u32 args 0) (argI args 1)) [] [] 2
def Qqa(d0:Q0e)(at0:Int):Tree (Q02×Bool):=
.br (d0.C1 !=1) (.lf ({B7:=0,At:=0,B9:=0,D0:=[]},false)) (.br (d0.D8==1) (.lf ({B7:=3,At:=at0,B9:=d0.B6,D0:=[]},true)) (.br (d0.D8==2) (.lf ({B7:=4,At:=at0,B9:=d0.B6,D0:=d0.C3},true)) (.lf ({B7:=0,At:=0,B9:=0,D0:=[]},false))))
def Qja(d0:Q0e)(at0:Int):(Q02×Bool):=(Qqa d0 at0).m
def Z3l:Q0c:=mkR 263 [] true [.agg Q0e.sig, .one (.int .u64)] [] (λargs rows=>Qja (Q0e.of (aC args 0)) (argI args 1)) (λX=> .tup [.agg (Q02.cells (X.1)), .bool (X.2)]) (λX=>[])
theorem Qzh:Q06 Tryz.prog Z3l:=Q0z Q0j Q0l (.nil) Tryz.func263 Tryz.call263 (λargs rows=>Qqa (Q0e.of (aC args 0)) (argI args 1)) [] [] 2
def Qbl(d0:Q0e)(m:(List Int))(cmd:Int)(at0:Int):Tree (Q0e×(List Q02)):=
.br (d0.C1 !=0) (.lf (d0,[])) (let T1:Tree ((Q0e×(List Q02))):= .lf ({Blocks:=d0.Blocks,B9:=d0.B9,B4:=d0.B4,C1:=3,D8:=d0.D8,B6:=d0.B6,B3:=d0.B3,C3:=d0.C3},[]); .br (decide (d0.B9>=d0.Blocks)) T1 (.lv (Q9g m d0.B4) λ(x0:Bool)=> .br (!x0) T1 (.br (cmd==2) (.an (Qcj m (wrap i64 d0.B4)) (.lv (Q5o m (wrap i64 d0.B4)) λ(x1:List UInt8×Bool)=>let E2:=({Blocks:=d0.Blocks,B9:=d0.B9,B4:=d0.B4,C1:=1,D8:=cmd,B6:=d0.B9,B3:=d0.B4,C3:=x1.1}:Q0e); .lv (Qja E2 at0) λ(x2:Q02×Bool)=> .lf (E2,[x2.1]))) (let E3:=({Blocks:=d0.Blocks,B9:=d0.B9,B4:=d0.B4,C1:=1,D8:=cmd,B6:=d0.B9,B3:=d0.B4,C3:=[]}:Q0e); .lv (Qja E3 at0) λ(x3:Q02×Bool)=> .lf (E3,[x3.1])))))
def Qul(d0:Q0e)(m:(List Int))(cmd:Int)(at0:Int):(Q0e×(List Q02)):=(Qbl d0 m cmd at0).m
abbrev Qqp(d0:Q0e)(m:(List Int))(cmd:Int)(at0:Int):Prop:=(Qbl d0 m cmd at0).p
def Zdd:Q0c:=mkP 230 [] true [.agg Q0e.sig, .one (.ints .u32), .one (.int .i64), .one (.int .u64)] [] (λargs rows=>Qqp (Q0e.of (aC args 0)) (argL .u32 args 1) (argI args 2) (argI args 3)) (λargs rows=>Qul (Q0e.of (aC args 0)) (argL .u32 args 1) (argI args 2) (argI args 3)) (λX=> .tup [.agg (Q0e.cells (X.1)), .sl 4 (.recs .apiOutput (X.2)) true]) (λX=>[])
theorem Z7o:Q06 Tryz.prog Zdd:=Q0n Q0j Q0l (.cons Qqh (.cons Qjj (.cons Qzh (.nil)))) Tryz.func230 Tryz.call230 (λargs rows=>Qbl (Q0e.of (aC args 0)) (argL .u32 args 1) (argI args 2) (argI args 3)) [.sl (.recs .apiOutput) true] [] 2
def Qgt(d0:Q0e)(m:(List Int))(port:Int)(v:Int)(at0:Int):Tree (Q0e×(List Q02)):=
.br (port==4) (.lf ({Blocks:=d0.Blocks,B9:=v,B4:=d0.B4,C1:=d0.C1,D8:=d0.D8,B6:=d0.B6,B3:=d0.B3,C3:=d0.C3},[])) (.br (port==5) (.lf ({Blocks:=d0.Blocks,B9:=d0.B9,B4:=v,C1:=d0.C1,D8:=d0.D8,B6:=d0.B6,B3:=d0.B3,C3:=d0.C3},[])) (.br (port==6) (let T1:Tree ((Q0e×(List Q02))):= .an (Qqp d0 m (wrap i64 v) at0) (.lv (Qul d0 m (wrap i64 v) at0) λ(x0:Q0e×List Q02)=> .lf (x0.1,x0.2)); .br (v==1) T1 (.br (v==2) T1 (.br (v==0) (.lv (Q9o d0) λ(x2:Bool)=> .br x2 (.lf ({Blocks:=d0.Blocks,B9:=d0.B9,B4:=d0.B4,C1:=0,D8:=d0.D8,B6:=d0.B6,B3:=d0.B3,C3:=d0.C3},[])) (.lf (d0,[]))) (.lf (d0,[]))))) (.lf (d0,[]))))
def Qz(d0:Q0e)(m:(List Int))(port:Int)(v:Int)(at0:Int):(Q0e×(List Q02)):=(Qgt d0 m port v at0).m
abbrev Qwd(d0:Q0e)(m:(List Int))(port:Int)(v:Int)(at0:Int):Prop:=(Qgt d0 m port v at0).p
def Zlm:Q0c:=mkP 176 [] true [.agg Q0e.sig, .one (.ints .u32), .one (.int .i64), .one (.int .u32), .one (.int .u64)] [] (λargs rows=>Qwd (Q0e.of (aC args 0)) (argL .u32 args 1) (argI args 2) (argI args 3) (argI args 4)) (λargs rows=>Qz (Q0e.of (aC args 0)) (argL .u32 args 1) (argI args 2) (argI args 3) (argI args 4)) (λX=> .tup [.agg (Q0e.cells (X.1)), .sl 4 (.recs .apiOutput (X.2)) true]) (λX=>[])
theorem Zhg:Q06 Tryz.prog Zlm:=Q0n Q0j Q0l (.cons Z7o (.cons Qnx (.nil))) Tryz.func176 Tryz.call176 (λargs rows=>Qgt (Q0e.of (aC args 0)) (argL .u32 args 1) (argI args 2) (argI args 3) (argI args 4)) [.sl (.recs .apiOutput) true] [] 2
def Qer(m:(List Int))(frame:Int):Tree Bool:=
.lv (Q0u m) λ(x0:Int)=> .lf (decide (wrap u64 frame<wrap u64 x0))
def Q9z(m:(List Int))(frame:Int):Bool:=(Qer m frame).m
def Zea:Q0c:=mkR 168 [] true [.one (.ints .u32), .one (.int .u32)] [] (λargs rows=>Q9z (argL .u32 args 0) (argI args 1)) (λX=> .bool X) (λX=>[])
theorem Qlb:Q06 Tryz.prog Zea:=Q0z Q0j Q0l (.cons Q4b (.nil)) Tryz.func168 Tryz.call168 (λargs rows=>Qer (argL .u32 args 0) (argI args 1)) [] [] 2
def Qgs(n:Q0q)(m:(List Int))(at0:Int):Tree (List Q02):=
.br (decide (n.F0<1)) (.lf ([])) (.br (decide (n.F0>128)) (.lf ([])) (.lv (Q9z m n.B4) λ(x0:Bool)=> .br (!x0) (.lf ([])) (.an (Qcj m (wrap i64 n.B4)) (.lv (Q5o m (wrap i64 n.B4)) λ(x1:List UInt8×Bool)=> .cn (decide ((0:Int)<=(0:Int)/\0<=n.F0/\n.F0<=(x1.1.length:Int))) (.lf ([{B7:=2,At:=at0,B9:=0,D0:=List.take (Int.toNat n.F0-Int.toNat 0) (List.drop (Int.toNat 0) x1.1)}]))))))
def Z94(n:Q0q)(m:(List Int))(at0:Int):(List Q02):=(Qgs n m at0).m
abbrev Qxg(n:Q0q)(m:(List Int))(at0:Int):Prop:=(Qgs n m at0).p
def Zln:Q0c:=mkP 231 [] true [.agg Q0q.sig, .one (.ints .u32), .one (.int .u64)] [] (λargs rows=>Qxg (Q0q.of (aC args 0)) (argL .u32 args 1) (argI args 2)) (λargs rows=>Z94 (Q0q.of (aC args 0)) (argL .u32 args 1) (argI args 2)) (λX=> .sl 4 (.recs .apiOutput X) true) (λX=>[])
theorem Zhv:Q06 Tryz.prog Zln:=Q0n Q0j Q0l (.cons Qlb (.cons Qjj (.nil))) Tryz.func231 Tryz.call231 (λargs rows=>Qgs (Q0q.of (aC args 0)) (argL .u32 args 1) (argI args 2)) [.sl (.recs .apiOutput) true] [] 2
def Ql0(n:Q0q)(m:(List Int))(port:Int)(v:Int)(at0:Int):Tree (Q0q×(List Q02)):=
.br (port==7) (.lf ({B4:=v,F0:=n.F0,C7:=n.C7,C2:=n.C2,B8:=n.B8,F3:=n.F3},[])) (.br (port==8) (.lf ({B4:=n.B4,F0:=v,C7:=n.C7,C2:=n.C2,B8:=n.B8,F3:=n.F3},[])) (.br (port==9) (.br (v==1) (.an (Qxg n m at0) (.lv (Z94 n m at0) λ(x0:List Q02)=> .lf (n,x0))) (.br (v==2) (.lv (Q9z m n.B4) λ(x1:Bool)=> .br x1 (.br (!n.C7) (.br (!n.B8) (.lf ({B4:=n.B4,F0:=n.F0,C7:=true,C2:=n.B4,B8:=n.B8,F3:=n.F3},[])) (.lf (n,[]))) (.lf (n,[]))) (.lf (n,[]))) (.br (v==0) (.lf ({B4:=n.B4,F0:=n.F0,C7:=n.C7,C2:=n.C2,B8:=false,F3:=0},[])) (.lf (n,[]))))) (.lf (n,[]))))
def Z7i(n:Q0q)(m:(List Int))(port:Int)(v:Int)(at0:Int):(Q0q×(List Q02)):=(Ql0 n m port v at0).m
abbrev Z0h(n:Q0q)(m:(List Int))(port:Int)(v:Int)(at0:Int):Prop:=(Ql0 n m port v at0).p
def yA:Q0c:=mkP 177 [] true [.agg Q0q.sig, .one (.ints .u32), .one (.int .i64), .one (.int .u32), .one (.int .u64)] [] (λargs rows=>Z0h (Q0q.of (aC args 0)) (argL .u32 args 1) (argI args 2) (argI args 3) (argI args 4)) (λargs rows=>Z7i (Q0q.of (aC args 0)) (argL .u32 args 1) (argI args 2) (argI args 3) (argI args 4)) (λX=> .tup [.agg (Q0q.cells (X.1)), .sl 4 (.recs .apiOutput (X.2)) true]) (λX=>[])
theorem Zlw:Q06 Tryz.prog yA:=Q0n Q0j Q0l (.cons Zhv (.cons Qlb (.nil))) Tryz.func177 Tryz.call177 (λargs rows=>Ql0 (Q0q.of (aC args 0)) (argL .u32 args 1) (argI args 2) (argI args 3) (argI args 4)) [.sl (.recs .apiOutput) true] [] 2
def Qah(m:(List Int))(frame:Int)(s:(List UInt8))(z:(Int)×(List Int)):Nat:=(32-z.1).toNat
def Q3g(m:(List Int))(frame:Int)(s:(List UInt8)):Tree ((List Int)×Bool):=
.an (Q08 m) (.lv (Q03 m) λ(x0:List Int)=> .lv (Q59 m frame) λ(x1:Bool)=> .br (!x1) (.lf (x0,false)) (.br ((s.length:Int) !=(128:Int)) (.lf (x0,false)) (.lp inferInstance (Qah m frame s (0,x0)+1) ((rE (s:List UInt8)/\True/\rE ((wrap i64 (frame*32)):Int)/\rE (0:Int)/\True)/\rE (x0:List Int)/\True) (0,x0) λ(v0:Int×List Int)=> .br (decide (v0.1<32)) (.cn (decide (0<=wrap i64 (4*v0.1)/\wrap i64 (4*v0.1)<=wrap i64 (wrap i64 (4*v0.1)+4)/\wrap i64 (wrap i64 (4*v0.1)+4)<=(s.length:Int))) (let E1:=List.take (Int.toNat (wrap i64 (wrap i64 (4*v0.1)+4))-Int.toNat (wrap i64 (4*v0.1))) (List.drop (Int.toNat (wrap i64 (4*v0.1))) s); .cn (decide ((0:Int)<=(0:Int)/\0<(↑(List.length E1):Int))) (.cn (decide ((0:Int)<=(1:Int)/\1<(↑(List.length E1):Int))) (.cn (decide ((0:Int)<=(2:Int)/\2<(↑(List.length E1):Int))) (.cn (decide ((0:Int)<=(3:Int)/\3<(↑(List.length E1):Int))) (.cn (Nat.beq 1 1&&Nat.blt 0 1&&decide (0<=wrap i64 (wrap i64 (frame*32)+v0.1)/\wrap i64 (wrap i64 (frame*32)+v0.1)<(v0.2.length:Int))) (.nx ((rE (s:List UInt8)/\True/\rE ((wrap i64 (frame*32)):Int)/\rE ((wrap i64 (v0.1+1)):Int)/\True)/\rE ((List.set v0.2 (Int.toNat (wrap i64 (wrap i64 (frame*32)+v0.1))) (ior u32 (ior u32 (ior u32 (wrap u32 (↑(UInt8.toNat (List.getD (List.take (Int.toNat (wrap i64 (wrap i64 (4*v0.1)+4))-Int.toNat (wrap i64 (4*v0.1))) (List.drop (Int.toNat (wrap i64 (4*v0.1))) s)) (Int.toNat 0) (0:UInt8))):Int)) (ishl u32 (wrap u32 (↑(UInt8.toNat (List.getD (List.take (Int.toNat (wrap i64 (wrap i64 (4*v0.1)+4))-Int.toNat (wrap i64 (4*v0.1))) (List.drop (Int.toNat (wrap i64 (4*v0.1))) s)) (Int.toNat 1) (0:UInt8))):Int)) 8)) (ishl u32 (wrap u32 (↑(UInt8.toNat (List.getD (List.take (Int.toNat (wrap i64 (wrap i64 (4*v0.1)+4))-Int.toNat (wrap i64 (4*v0.1))) (List.drop (Int.toNat (wrap i64 (4*v0.1))) s)) (Int.toNat 2) (0:UInt8))):Int)) 16)) (ishl u32 (wrap u32 (↑(UInt8.toNat (List.getD (List.take (Int.toNat (wrap i64 (wrap i64 (4*v0.1)+4))-Int.toNat (wrap i64 (4*v0.1))) (List.drop (Int.toNat (wrap i64 (4*v0.1))) s)) (Int.toNat 3) (0:UInt8))):Int)) 24))):List Int)/\True) (Sum.inl (wrap i64 (v0.1+1),List.set v0.2 (Int.toNat (wrap i64 (wrap i64 (frame*32)+v0.1))) (ior u32 (ior u32 (ior u32 (wrap u32 (↑(UInt8.toNat (List.getD E1 (Int.toNat 0) (0:UInt8))):Int)) (ishl u32 (wrap u32 (↑(UInt8.toNat (List.getD E1 (Int.toNat 1) (0:UInt8))):Int)) 8)) (ishl u32 (wrap u32 (↑(UInt8.toNat (List.getD E1 (Int.toNat 2) (0:UInt8))):Int)) 16)) (ishl u32 (wrap u32 (↑(UInt8.toNat (List.getD E1 (Int.toNat 3) (0:UInt8))):Int)) 24))))))))))) (.lf (Sum.inr (v0.2,true))))))
def Q2r(m:(List Int))(frame:Int)(s:(List UInt8)):((List Int)×Bool):=(Q3g m frame s).m
abbrev Q8s(m:(List Int))(frame:Int)(s:(List UInt8)):Prop:=(Q3g m frame s).p
def Qvg:LInv:={
 α:=(Int)×(List Int)
 F:=λst a=>([(2,(lk st 2)),(8, .all 0),(9,(lk st 9)),(26, .int i64 a.1)],[⟨false,23,1, .ints u32 a.2⟩])
 a0:=λst=>((lk st 26).toInt,(Q3e st.rows (rN st 8)))
 ex0:=λst=>[]++[(Q0o (lk st 8) (st.rows.length+0))]
 next:=λst=>((lk st 26).toInt,(Q3e st.rows (rN st 8)))
 ex:=λst=>[]++[(Q0o (lk st 8) (st.rows.length+0))]}
def Qqz:List (Nat×LInv):=[(6,Qvg)]
def Qys:Q0c:=mkP 167 [] true [.one (.ints .u32), .one (.int .i64), .one (.str)] [] (λargs rows=>Q8s (argL .u32 args 0) (argI args 1) (argS args 2)) (λargs rows=>Q2r (argL .u32 args 0) (argI args 1) (argS args 2)) (λX=> .tup [.all 0, .bool (X.2)]) (λX=>[⟨false,23,1, .ints .u32 (X.1)⟩])
theorem Qe2:Q06 Tryz.prog Qys:=Q0n Q0j Q0l (.cons Q0w (.cons Qkj (.nil))) Tryz.func167 Tryz.call167 (λargs rows=>Q3g (argL .u32 args 0) (argI args 1) (argS args 2)) [.row 23 1 (.ints .u32)] Qqz 3
def strings_Repeat(s:(List UInt8))(count:Int):(List UInt8):=
Lib.repeatL s count.toNat
def Qcs(s:(List UInt8))(count:Int):Prop:=
0<=count/\count<=9223372036854775807/\s.length*count.toNat<=140737488355328
def Qis(s:(List UInt8))(count:Int):List D:=[.str s, .int .i64 count]
def Qip(s:(List UInt8))(count:Int):List Row:=[]
def Qc4(X:(List UInt8)):D:= .str X
def Qcw(X:(List UInt8)):List Row:=[]
def Qj:List PT:=[.one (.str), .one (.int .i64)]
def Qh5:List RT:=[]
def Qtj(args:List D)(rows:List Row):(List UInt8):=strings_Repeat (argS args 0) (argI args 1)
def Qsd(args:List D)(rows:List Row):Prop:=Qcs (argS args 0) (argI args 1)
def Qyn:Q0c:=mkP 232 [] true Qj Qh5 Qsd Qtj Qc4 Qcw
theorem Qpk(s:(List UInt8))(count:Int)(hw:Qcs s count):Q3w Tryz.prog 232 (Qis s count) (Qip s count) (Qc4 (strings_Repeat s count)) (Qcw (strings_Repeat s count)):=by
 exact qq Tryz.strings_Repeat hw.1 hw.2.1 hw.2.2
set_option maxRecDepth 100000 in
theorem Qrc(args:List D)(rows:List Row):Qix Qj args 0=Qis (argS args 0) (argI args 1):=by kernel_rfl
set_option maxRecDepth 100000 in
theorem Qpm(args:List D)(rows:List Row):Q7b Qh5 rows 0=Qip (argS args 0) (argI args 1):=by kernel_rfl
set_option maxRecDepth 100000 in
theorem Qvq(X:(List UInt8)):(ffB (Qc4 X)&&ffBR (Qcw X))=true:=by kernel_rfl
theorem Qv8:Q06 Tryz.prog Qyn:=Z6m Tryz.call232 (λargs rows hp=>by rw[Qrc args rows,Qpm args rows];exact Qpk (argS args 0) (argI args 1) hp) (λ_ X=>Qvq X)
def Q4(b:Q07)(m:(List Int))(port:Int)(v:Int):Tree (Q07×(List Int)):=
let T1:Tree ((Q07×(List Int))):= .an (Q08 m) (.lv (Q03 m) λ(x0:List Int)=> .lf (b,x0)); .br (decide (v>=32)) T1 (.cn (decide (0<=v)) (.br (port==10) (.lv (Q0u m) λ(x1:Int)=> .br (decide (wrap i64 v<x1)) (.br (iand u32 b.C5 (ishl u32 1 v)==0) (.an (Qcs [(0:UInt8)] 128) (.lv (strings_Repeat [(0:UInt8)] 128) λ(x2:List UInt8)=> .an (Q8s m (wrap i64 v) x2) (.lv (Q2r m (wrap i64 v) x2) λ(x3:List Int×Bool)=> .lf ({C9:=b.C9,C5:=ior u32 b.C5 (ishl u32 1 v)},x3.1)))) T1) T1) (.br (port==11) (.an (Q08 m) (.lv (Q03 m) λ(x6:List Int)=> .lf ({C9:=b.C9,C5:=Qg7 u32 b.C5 (ishl u32 1 v)},x6))) T1)))
def Q7p(b:Q07)(m:(List Int))(port:Int)(v:Int):(Q07×(List Int)):=(Q4 b m port v).m
abbrev Qnw(b:Q07)(m:(List Int))(port:Int)(v:Int):Prop:=(Q4 b m port v).p
def Z81:Q0c:=mkP 178 [] true [.agg Q07.sig, .one (.ints .u32), .one (.int .i64), .one (.int .u32)] [] (λargs rows=>Qnw (Q07.of (aC args 0)) (argL .u32 args 1) (argI args 2) (argI args 3)) (λargs rows=>Q7p (Q07.of (aC args 0)) (argL .u32 args 1) (argI args 2) (argI args 3)) (λX=> .tup [.agg (Q07.cells (X.1)), .all 0]) (λX=>[⟨false,23,1, .ints .u32 (X.2)⟩])
theorem Z35:Q06 Tryz.prog Z81:=Q0n Q0j Q0l (.cons Q0w (.cons Q4b (.cons Qe2 (.cons Qv8 (.nil))))) Tryz.func178 Tryz.call178 (λargs rows=>Q4 (Q07.of (aC args 0)) (argL .u32 args 1) (argI args 2) (argI args 3)) [.row 23 1 (.ints .u32)] [] 2
def Q3q(m:Q00)(port:Int)(v:Int)(at0:Int):Tree (Q00×(List Q02)):=
.br (port==0) (.lf (m,[{B7:=1,At:=at0,B9:=0,D0:=[(λ(n:Int)=>UInt8.ofNat n.toNat) (wrap u8 v)]}])) (.br (port==3) (.lv (Qkg m.A7 v) λ(x0:Q0g)=> .lf ({B2:=m.B2,Mem:=m.Mem,A3:=m.A3,A7:=x0,B0:=m.B0,C0:=m.C0,A2:=m.A2,A1:=m.A1,A4:=m.A4,A6:=m.A6},[])) (let T1:Tree ((Q00×(List Q02))):= .an (Qwd m.B0 m.Mem port v at0) (.lv (Qz m.B0 m.Mem port v at0) λ(x1:Q0e×List Q02)=> .lf ({B2:=m.B2,Mem:=m.Mem,A3:=m.A3,A7:=m.A7,B0:=x1.1,C0:=m.C0,A2:=m.A2,A1:=m.A1,A4:=m.A4,A6:=m.A6},x1.2)); .br (port==4) T1 (.br (port==5) T1 (.br (port==6) T1 (let T2:Tree ((Q00×(List Q02))):= .an (Z0h m.C0 m.Mem port v at0) (.lv (Z7i m.C0 m.Mem port v at0) λ(x4:Q0q×List Q02)=> .lf ({B2:=m.B2,Mem:=m.Mem,A3:=m.A3,A7:=m.A7,B0:=m.B0,C0:=x4.1,A2:=m.A2,A1:=m.A1,A4:=m.A4,A6:=m.A6},x4.2)); .br (port==7) T2 (.br (port==8) T2 (.br (port==9) T2 (let T3:Tree ((Q00×(List Q02))):= .an (Qnw m.A2 m.Mem port v) (.lv (Q7p m.A2 m.Mem port v) λ(x7:Q07×List Int)=> .lf ({B2:=m.B2,Mem:=x7.2,A3:=m.A3,A7:=m.A7,B0:=m.B0,C0:=m.C0,A2:=x7.1,A1:=m.A1,A4:=m.A4,A6:=m.A6},[])); .br (port==10) T3 (.br (port==11) T3 (.lf (m,[])))))))))))
def Q2h(m:Q00)(port:Int)(v:Int)(at0:Int):(Q00×(List Q02)):=(Q3q m port v at0).m
abbrev Qfb(m:Q00)(port:Int)(v:Int)(at0:Int):Prop:=(Q3q m port v at0).p
def Qra:Q0c:=Q0c.fz<|mkP 126 [] false [.agg Q00.sig, .one (.int .i64), .one (.int .u32), .one (.int .u64)] [] (λargs rows=>Qfb (Q00.of (aC args 0)) (argI args 1) (argI args 2) (argI args 3)) (λargs rows=>Q2h (Q00.of (aC args 0)) (argI args 1) (argI args 2) (argI args 3)) (λX=> .tup [.agg (Q00.cells (X.1)), .sl 4 (.recs .apiOutput (X.2)) true]) (λX=>[])
theorem Qpq:Q06 Tryz.prog Qra:=Zlj<|Q0n Q0j Q0l (.cons Zdk (.cons Zhg (.cons Zlw (.cons Z35 (.nil))))) Tryz.func126 Tryz.call126 (λargs rows=>Q3q (Q00.of (aC args 0)) (argI args 1) (argI args 2) (argI args 3)) [.sl (.ints .u32) false, .sl (.recs .apiOutput) true] [] 2 (λ_ _ _=>by kernel_rfl) (λ_ _=>rfl) (λ_ _ h=>h) (λh=>by cases h)
def Q32(m:Q00)(clock:Int):Tree (Q00×(List Q02)):=
.an (Q08 m.Mem) (.lv (Q03 m.Mem) λ(x0:List Int)=>let E1:=({B2:=m.B2,Mem:=x0,A3:=m.A3,A7:=m.A7,B0:=m.B0,C0:=m.C0,A2:=m.A2,A1:=m.A1,A4:=m.A4,A6:=m.A6}:Q00); .an (Qb0 E1) (.lv (Q2o E1) λ(x1:Bool)=> .br (!x1) (.lf (E1,[])) (.an (Qaa E1) (.lv (Q0v E1) λ(x2:Q00)=> .an (Qiz x2.B2 x2.Mem) (.lv (Q7j x2.B2 x2.Mem) λ(x3:Q04×List Int×Q10)=>let E2:=({B2:=x3.1,Mem:=x3.2.1,A3:=x2.A3,A7:=x2.A7,B0:=x2.B0,C0:=x2.C0,A2:=x2.A2,A1:=x2.A1,A4:=x2.A4,A6:=x2.A6}:Q00); .br (x3.2.2.B7==1) (.an (Qfz E2 x3.2.2.D1 clock) (.lv (Q1f E2 x3.2.2.D1 clock) λ(x4:Q00×Int)=> .br (x3.2.2.E0 !=0) (.cn (Nat.blt 0 1&&decide (0<=x3.2.2.E0/\x3.2.2.E0<(↑16:Int))) (.lf ({B2:={X:=A16.of 0 (List.set (A16.l x4.1.B2.X) x3.2.2.E0.toNat x4.2),Pc:=x4.1.B2.Pc,B5:=x4.1.B2.B5},Mem:=x4.1.Mem,A3:=x4.1.A3,A7:=x4.1.A7,B0:=x4.1.B0,C0:=x4.1.C0,A2:=x4.1.A2,A1:=wrap u64 (x4.1.A1+1),A4:=x4.1.A4,A6:=x4.1.A6},[]))) (.lf ({B2:=x4.1.B2,Mem:=x4.1.Mem,A3:=x4.1.A3,A7:=x4.1.A7,B0:=x4.1.B0,C0:=x4.1.C0,A2:=x4.1.A2,A1:=wrap u64 (x4.1.A1+1),A4:=x4.1.A4,A6:=x4.1.A6},[])))) (.br (x3.2.2.B7==2) (.an (Qfb E2 x3.2.2.D1 x3.2.2.Value m.A1) (.lv (Q2h E2 x3.2.2.D1 x3.2.2.Value m.A1) λ(x5:Q00×List Q02)=> .lf ({B2:=x5.1.B2,Mem:=x5.1.Mem,A3:=x5.1.A3,A7:=x5.1.A7,B0:=x5.1.B0,C0:=x5.1.C0,A2:=x5.1.A2,A1:=wrap u64 (x5.1.A1+1),A4:=x5.1.A4,A6:=x5.1.A6},x5.2))) (.br (x3.2.2.B7==3) (.lf ({B2:=x3.1,Mem:=x3.2.1,A3:=x2.A3,A7:=x2.A7,B0:=x2.B0,C0:=x2.C0,A2:=x2.A2,A1:=wrap u64 (x2.A1+1),A4:=true,A6:=x2.A6},[])) (.br (x3.2.2.B7==4) (.lf ({B2:=x3.1,Mem:=x3.2.1,A3:=x2.A3,A7:=x2.A7,B0:=x2.B0,C0:=x2.C0,A2:=x2.A2,A1:=wrap u64 (x2.A1+1),A4:=x2.A4,A6:=true},[])) (.lf ({B2:=x3.1,Mem:=x3.2.1,A3:=x2.A3,A7:=x2.A7,B0:=x2.B0,C0:=x2.C0,A2:=x2.A2,A1:=wrap u64 (x2.A1+1),A4:=x2.A4,A6:=x2.A6},[]))))))))))
def Q2v(m:Q00)(clock:Int):(Q00×(List Q02)):=(Q32 m clock).m
abbrev Q62(m:Q00)(clock:Int):Prop:=(Q32 m clock).p
def Z3t:Q0c:=Q0c.fz<|mkP 58 [] false [.agg Q00.sig, .one (.int .u32)] [] (λargs rows=>Q62 (Q00.of (aC args 0)) (argI args 1)) (λargs rows=>Q2v (Q00.of (aC args 0)) (argI args 1)) (λX=> .tup [.agg (Q00.cells (X.1)), .sl 4 (.recs .apiOutput (X.2)) false]) (λX=>[])
theorem Qzz:Q06 Tryz.prog Z3t:=Zlj<|Q0n Q0j Q0l (.cons Q0w (.cons Qnq (.cons Qmi (.cons Z2e (.cons Qrd (.cons Qpq (.nil))))))) Tryz.func58 Tryz.call58 (λargs rows=>Q32 (Q00.of (aC args 0)) (argI args 1)) [.sl (.ints .u32) false, .sl (.recs .apiOutput) false] [] 2 (λ_ _ _=>by kernel_rfl) (λ_ _=>rfl) (λ_ _ h=>h) (λh=>by cases h)
end
end Go.Proofs.YtjaifpiopmhmlaaGreat
