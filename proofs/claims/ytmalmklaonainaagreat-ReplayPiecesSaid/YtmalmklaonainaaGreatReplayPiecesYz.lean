import Derived.Test.YtmalmklaonainaaGreatReplayPiecesFh
import Derived.Test.YtmalmklaonainaaGreatReplayPiecesYx
set_option maxRecDepth 100000
set_option linter.all false
namespace Go.Proofs.YtmalmklaonainaaGreat
open Go Go.GD Go.IntKind
noncomputable section
def Q44(m:Q00):Tree Bool:=
.an (Q47 m) (.lv (Q1f m) λ(x0:Bool)=> .br x0 (.br (!m.A9) (.an (Q8k m) (.lv (Q4a m) λ(x1:Bool)=> .br (!x1) (.lf (decide (m.A1<1152921504606846976))) (.lf false))) (.lf false)) (.lf false))
def Q2q(m:Q00):Bool:=(Q44 m).m
abbrev Qc4(m:Q00):Prop:=(Q44 m).p
def Z76:Q0d:=mkP 112 [] true [.agg Q00.sig] [] (λargs rows=>Qc4 (Q00.of (aC args 0))) (λargs rows=>Q2q (Q00.of (aC args 0))) (λX=> .bool X) (λX=>[])
theorem Qok:Q06 pG Z76:=Q0p drawn Q0k (.cons Qbm (.cons Qji (.nil))) Tryz.func112 Tryz.call112 (λargs rows=>Q44 (Q00.of (aC args 0))) [] [] 2
def Qct(m:Q00)(z:(Int)):Nat:=(5-z).toNat
def Q2u(m:Q00):Tree Q00:=
let E1:=({B2:=m.B2,Mem:=m.Mem,A4:=m.A4,B0:=m.B0,B1:=m.B1,C4:=m.C4,A2:=m.A2,A1:=m.A1,A7:=false,A9:=m.A9}:Q00); .br (iand u32 m.B2.B5.a0 (2:Int)==(0:Int)) (.lf (E1)) (.an (Qcq E1) (.lv (Q63 E1) λ(x0:Int)=> .lp inferInstance (Qct m 0+1) ((rZ/\rZ/\rE (x0:Int)/\rE (0:Int)/\True)/\(rE m.B2.X.a0/\rE m.B2.X.a1/\rE m.B2.X.a2/\rE m.B2.X.a3/\rE m.B2.X.a4/\rE m.B2.X.a5/\rE m.B2.X.a6/\rE m.B2.X.a7/\rE m.B2.X.a8/\rE m.B2.X.a9/\rE m.B2.X.a10/\rE m.B2.X.a11/\rE m.B2.X.a12/\rE m.B2.X.a13/\rE m.B2.X.a14/\rE m.B2.X.a15/\rE m.B2.Pc/\rE m.B2.B5.a0/\rE m.B2.B5.a1/\rE m.B2.B5.a2/\rE m.B2.B5.a3/\rE m.B2.B5.a4/\rE m.B2.B5.a5/\rE m.B2.B5.a6/\rE m.B2.B5.a7/\((Els.Nil (Els.ints u32 m.Mem)\/rE (1:Nat))/\rE m.Mem)/\rE m.A4.D3/\rE m.B0.D2/\rE m.B0.C9/\rE m.B0.D5/\rE m.B1.Blocks/\rE m.B1.C0/\rE m.B1.Frame/\rE m.B1.C1/\rE m.B1.D8/\rE m.B1.B7/\rE m.B1.B3/\rE m.B1.C3/\rE m.C4.Frame/\rE m.C4.E0/\rE m.C4.C6/\rE m.C4.B9/\rE m.C4.B8/\rE m.C4.F1/\rE m.A2.D0/\rE m.A2.C2/\rE m.A1/\rE (false:Bool)/\rE m.A9/\True)/\(mE zM True True)/\True) 0 λ(v0:Int)=> .br (decide (v0<5)) (.cn (decide (0<=v0)) (.br (iand u32 x0 (ishl u32 1 v0) !=0) (.lv (Q4p m.B2 (wrap i64 (16+v0)) 0) λ(x1:Q05)=> .lf (Sum.inr {B2:=x1,Mem:=m.Mem,A4:=m.A4,B0:=m.B0,B1:=m.B1,C4:=m.C4,A2:=m.A2,A1:=m.A1,A7:=false,A9:=m.A9})) (.nx ((rZ/\rZ/\rE (x0:Int)/\rE ((wrap i64 (v0+1)):Int)/\True)/\(rE m.B2.X.a0/\rE m.B2.X.a1/\rE m.B2.X.a2/\rE m.B2.X.a3/\rE m.B2.X.a4/\rE m.B2.X.a5/\rE m.B2.X.a6/\rE m.B2.X.a7/\rE m.B2.X.a8/\rE m.B2.X.a9/\rE m.B2.X.a10/\rE m.B2.X.a11/\rE m.B2.X.a12/\rE m.B2.X.a13/\rE m.B2.X.a14/\rE m.B2.X.a15/\rE m.B2.Pc/\rE m.B2.B5.a0/\rE m.B2.B5.a1/\rE m.B2.B5.a2/\rE m.B2.B5.a3/\rE m.B2.B5.a4/\rE m.B2.B5.a5/\rE m.B2.B5.a6/\rE m.B2.B5.a7/\((Els.Nil (Els.ints u32 m.Mem)\/rE (1:Nat))/\rE m.Mem)/\rE m.A4.D3/\rE m.B0.D2/\rE m.B0.C9/\rE m.B0.D5/\rE m.B1.Blocks/\rE m.B1.C0/\rE m.B1.Frame/\rE m.B1.C1/\rE m.B1.D8/\rE m.B1.B7/\rE m.B1.B3/\rE m.B1.C3/\rE m.C4.Frame/\rE m.C4.E0/\rE m.C4.C6/\rE m.C4.B9/\rE m.C4.B8/\rE m.C4.F1/\rE m.A2.D0/\rE m.A2.C2/\rE m.A1/\rE (false:Bool)/\rE m.A9/\True)/\(mE zM True True)/\True) (Sum.inl (wrap i64 (v0+1)))))) (.lf (Sum.inr E1))))
def Q1(m:Q00):Q00:=(Q2u m).m
abbrev Qai(m:Q00):Prop:=(Q2u m).p
def Z0r:LInv:={
 α:=(Int)
 F:=λst a=>([(1, .ptr 0 0 0),(2, .ptr 1 0 0),(3,(lk st 3)),(15, .int i64 a)],[⟨true,43,49, .gen [mB (cT st 1)]⟩,⟨true,43,49, .gen [mB (cT st 2)]⟩])
 a0:=λst=>(lk st 15).toInt
 ex0:=λst=>[]++[(rX st 1 0),(rX st 2 1)]}
def Qvm:List (Nat×LInv):=[(6,Z0r)]
def Z2q:Q0d:=Q0d.fz<|mkP 113 [] false [.agg Q00.sig] [] (λargs rows=>Qai (Q00.of (aC args 0))) (λargs rows=>Q1 (Q00.of (aC args 0))) (λX=> .agg (Q00.cells X)) (λX=>[])
theorem Qnm:Q06 pG Z2q:=Zov<|Q0p drawn Q0k (.cons Qkc (.cons Qju (.nil))) Tryz.func113 Tryz.call113 (λargs rows=>Q2u (Q00.of (aC args 0))) [.sl (.ints .u32) false] Qvm 3 (λ_ _ _=>by kernel_rfl) (λ_ _=>rfl) (λ_ _ h=>h) (λh=>by cases h)
def Qa8(c:Q0c)(port:Int):Tree (Q0c×Int):=
.br (port==0) (.br (decide (c.D3=[])) (.lf (c,4294967295)) (.cn (decide ((0:Int)<=(0:Int)/\0<(c.D3.length:Int))) (.cn (decide ((0:Int)<=(1:Int)/\1<=(c.D3.length:Int)/\(c.D3.length:Int)<=(c.D3.length:Int))) (.lf ({D3:=List.take (Int.toNat (c.D3.length:Int)-Int.toNat 1) (List.drop (Int.toNat 1) c.D3)},wrap u32 (↑(UInt8.toNat (c.D3.getD (Int.toNat 0) (0:UInt8))):Int)))))) (.br (port==1) (.lf (c,wrap u32 (c.D3.length:Int))) (.lf (c,0)))
def Qq8(c:Q0c)(port:Int):(Q0c×Int):=(Qa8 c port).m
theorem Z5k(c:Q0c)(port:Int):(Qa8 c port).p:=by
 unfold Tree.p Qa8
 repeat'(first|exact trivial|refine w_br (λ_=> ?_) (λ_=> ?_)|refine w_cn ?_ ?_|refine w_an ?_ ?_|refine w_lv (λ_ _=> ?_)|refine w_nx ?_|refine w_lf ?_|refine And.intro ?_ ?_)
 all_goals(exact fin0)
def Zh:Q0d:=mkR 195 [] true [.agg Q0c.sig, .one (.int .i64)] [] (λargs rows=>Qq8 (Q0c.of (aC args 0)) (argI args 1)) (λX=> .tup [.agg (Q0c.cells (X.1)), .int .u32 (X.2)]) (λX=>[])
theorem Zby:Q06 pG Zh:=Q11 drawn Q0k (.nil) Tryz.func195 Tryz.call195 (λargs rows=>Qa8 (Q0c.of (aC args 0)) (argI args 1)) [] [] 2 (λ_ _ _=>by kernel_rfl) (λ_ _=>rfl) (λargs rows=>Z5k (Q0c.of (aC args 0)) (argI args 1)) (λ_ X=>by kernel_rfl)
def Qqo(t:Q0i):Tree Int:=
.br t.D5 (.lf 1) (.lf 0)
def Z16(t:Q0i):Int:=(Qqo t).m
def Znt:Q0d:=mkR 196 [] true [.agg Q0i.sig] [] (λargs rows=>Z16 (Q0i.of (aC args 0))) (λX=> .int .u32 X) (λX=>[])
theorem Zki:Q06 pG Znt:=Q11 drawn Q0k (.nil) Tryz.func196 Tryz.call196 (λargs rows=>Qqo (Q0i.of (aC args 0))) [] [] 2
def Qv3(d0:Q0f)(port:Int):Tree Int:=
.br (port==4) (.lf d0.C0) (.br (port==5) (.lf d0.Frame) (.br (port==6) (.lf (wrap u32 d0.C1)) (.lf 0)))
def Qwv(d0:Q0f)(port:Int):Int:=(Qv3 d0 port).m
def qB:Q0d:=mkR 197 [] true [.agg Q0f.sig, .one (.int .i64)] [] (λargs rows=>Qwv (Q0f.of (aC args 0)) (argI args 1)) (λX=> .int .u32 X) (λX=>[])
theorem Zob:Q06 pG qB:=Q11 drawn Q0k (.nil) Tryz.func197 Tryz.call197 (λargs rows=>Qv3 (Q0f.of (aC args 0)) (argI args 1)) [] [] 2
def Qv6(n:Q0r)(port:Int):Tree Int:=
.br (port==7) (.lf n.Frame) (.br (port==8) (.lf n.F1) (.br (port==9) (.br n.C6 (.br n.B8 (.lf (wrap u32 (wrap u32 ((0:Int)+(1:Int))+2))) (.lf (wrap u32 ((0:Int)+(1:Int))))) (.br n.B8 (.lf (wrap u32 ((0:Int)+(2:Int)))) (.lf 0))) (.lf 0)))
def Z4v(n:Q0r)(port:Int):Int:=(Qv6 n port).m
def yV:Q0d:=mkR 198 [] true [.agg Q0r.sig, .one (.int .i64)] [] (λargs rows=>Z4v (Q0r.of (aC args 0)) (argI args 1)) (λX=> .int .u32 X) (λX=>[])
theorem xB:Q06 pG yV:=Q11 drawn Q0k (.nil) Tryz.func198 Tryz.call198 (λargs rows=>Qv6 (Q0r.of (aC args 0)) (argI args 1)) [] [] 2
def Qd4(b:Q09)(port:Int):Tree Int:=
.br (port==10) (.lf b.D0) (.br (port==11) (.an (Qeu b) (.lv (Qdz b) λ(x0:Int)=> .lf (wrap u32 x0))) (.lf 0))
def Qq(b:Q09)(port:Int):Int:=(Qd4 b port).m
abbrev Qrw(b:Q09)(port:Int):Prop:=(Qd4 b port).p
def Ze4:Q0d:=mkP 199 [] true [.agg Q09.sig, .one (.int .i64)] [] (λargs rows=>Qrw (Q09.of (aC args 0)) (argI args 1)) (λargs rows=>Qq (Q09.of (aC args 0)) (argI args 1)) (λX=> .int .u32 X) (λX=>[])
theorem Za7:Q06 pG Ze4:=Q0p drawn Q0k (.cons Qnz (.nil)) Tryz.func199 Tryz.call199 (λargs rows=>Qd4 (Q09.of (aC args 0)) (argI args 1)) [] [] 2
def Q4r(m:Q00)(port:Int)(clock:Int):Tree (Q00×Int):=
let T1:Tree ((Q00×Int)):= .lv (Qq8 m.A4 port) λ(x0:Q0c×Int)=> .lf ({B2:=m.B2,Mem:=m.Mem,A4:=x0.1,B0:=m.B0,B1:=m.B1,C4:=m.C4,A2:=m.A2,A1:=m.A1,A7:=m.A7,A9:=m.A9},x0.2); .br (port==0) T1 (.br (port==1) T1 (.br (port==2) (.lf (m,clock)) (.br (port==3) (.lv (Z16 m.B0) λ(x2:Int)=> .lf (m,x2)) (.br (port==4) (.lv (Qwv m.B1 port) λ(x3:Int)=> .lf (m,x3)) (.br (port==5) (.lv (Qwv m.B1 port) λ(x4:Int)=> .lf (m,x4)) (.br (port==6) (.lv (Qwv m.B1 port) λ(x5:Int)=> .lf (m,x5)) (.br (port==7) (.lv (Z4v m.C4 port) λ(x6:Int)=> .lf (m,x6)) (.br (port==8) (.lv (Z4v m.C4 port) λ(x7:Int)=> .lf (m,x7)) (.br (port==9) (.lv (Z4v m.C4 port) λ(x8:Int)=> .lf (m,x8)) (let T2:Tree ((Q00×Int)):= .an (Qrw m.A2 port) (.lv (Qq m.A2 port) λ(x9:Int)=> .lf (m,x9)); .br (port==10) T2 (.br (port==11) T2 (.lf (m,0)))))))))))))
def Q1j(m:Q00)(port:Int)(clock:Int):(Q00×Int):=(Q4r m port clock).m
abbrev Qhe(m:Q00)(port:Int)(clock:Int):Prop:=(Q4r m port clock).p
def Quo:Q0d:=Q0d.fz<|mkP 134 [] false [.agg Q00.sig, .one (.int .i64), .one (.int .u32)] [] (λargs rows=>Qhe (Q00.of (aC args 0)) (argI args 1) (argI args 2)) (λargs rows=>Q1j (Q00.of (aC args 0)) (argI args 1) (argI args 2)) (λX=> .tup [.agg (Q00.cells (X.1)), .int .u32 (X.2)]) (λX=>[])
theorem Qsg:Q06 pG Quo:=Zov<|Q0p drawn Q0k (.cons Zby (.cons Zki (.cons Zob (.cons xB (.cons Za7 (.nil)))))) Tryz.func134 Tryz.call134 (λargs rows=>Q4r (Q00.of (aC args 0)) (argI args 1) (argI args 2)) [.sl (.ints .u32) false] [] 2 (λ_ _ _=>by kernel_rfl) (λ_ _=>rfl) (λ_ _ h=>h) (λh=>by cases h)
def Qn8(t:Q0i)(deadline:Int):Tree Q0i:=
.lf ({D2:=deadline !=0,C9:=deadline,D5:=false})
def Qm0(t:Q0i)(deadline:Int):Q0i:=(Qn8 t deadline).m
def Zjr:Q0d:=mkR 200 [] true [.agg Q0i.sig, .one (.int .u32)] [] (λargs rows=>Qm0 (Q0i.of (aC args 0)) (argI args 1)) (λX=> .agg (Q0i.cells X)) (λX=>[])
theorem Zdz:Q06 pG Zjr:=Q11 drawn Q0k (.nil) Tryz.func200 Tryz.call200 (λargs rows=>Qn8 (Q0i.of (aC args 0)) (argI args 1)) [] [] 2
def Qe2(m:(List Int))(frame:Int):Tree Bool:=
.lv (Q0x m) λ(x0:Int)=> .lf (decide (wrap u64 frame<wrap u64 x0))
def Q9p(m:(List Int))(frame:Int):Bool:=(Qe2 m frame).m
def Za1:Q0d:=mkR 193 [] true [.one (.ints .u32), .one (.int .u32)] [] (λargs rows=>Q9p (argL .u32 args 0) (argI args 1)) (λX=> .bool X) (λX=>[])
theorem Qrx:Q06 pG Za1:=Q11 drawn Q0k (.cons Q4m (.nil)) Tryz.func193 Tryz.call193 (λargs rows=>Qe2 (argL .u32 args 0) (argI args 1)) [] [] 2
def Q8j(m:(List Int))(frame:Int):Tree Bool:=
.br (decide (frame>=0)) (.lv (Q0x m) λ(x0:Int)=> .lf (decide (frame<x0))) (.lf false)
def Q5g(m:(List Int))(frame:Int):Bool:=(Q8j m frame).m
def Z09:Q0d:=mkR 208 [] true [.one (.ints .u32), .one (.int .i64)] [] (λargs rows=>Q5g (argL .u32 args 0) (argI args 1)) (λX=> .bool X) (λX=>[])
theorem Qlp:Q06 pG Z09:=Q11 drawn Q0k (.cons Q4m (.nil)) Tryz.func208 Tryz.call208 (λargs rows=>Q8j (argL .u32 args 0) (argI args 1)) [] [] 2
def Qno(words:(List Int))(z:(Int)×(List Int)):Prop:=0<=z.1/\z.1<=words.length/\(z.2.length:Int)=4*z.1
def Q7u(words:(List Int))(z:(Int)×(List Int)):Nat:=(words.length-z.1).toNat
def Q59(words:(List Int)):Tree (List UInt8):=
.cn (Nat.blt 0 1&&Nat.beq 1 1&&List.all [D.int u8 0] D.plain&&decide ((0:Int)<=(0:Int)/\0<=wrap i64 (4*(words.length:Int))/\wrap i64 (4*(words.length:Int))<=9223372036854775807/\(↑1:Int)*wrap i64 (4*(words.length:Int))<=140737488355328)) (.lp inferInstance (Q7u words (0,[])+1) ((True/\((Els.Nil (Els.ints u32 words)\/rE (1:Nat))/\rE (words:List Int))/\rE ((words.length:Int):Int)/\rE (0:Int)/\True)/\rE ([]:List Int)/\True) (0,[]) λ(v0:Int×List Int)=> .br (decide (v0.1<(words.length:Int))) (.cn (Nat.beq 1 1&&Nat.blt 0 1&&decide (0<=v0.1/\v0.1<(words.length:Int))) (.cn (decide (1*(v0.2.length+4)<=140737488355328)) (let E1:=words.getD v0.1.toNat 0; .nx ((True/\((Els.Nil (Els.ints u32 words)\/rE (1:Nat))/\rE (words:List Int))/\rE ((words.length:Int):Int)/\rE ((wrap i64 (v0.1+1)):Int)/\True)/\rE ((v0.2++[wrap u8 (words.getD v0.1.toNat 0),wrap u8 (ishr u32 (words.getD v0.1.toNat 0) 8),wrap u8 (ishr u32 (words.getD v0.1.toNat 0) 16),wrap u8 (ishr u32 (words.getD v0.1.toNat 0) 24)]):List Int)/\True) (Sum.inl (wrap i64 (v0.1+1),v0.2++[wrap u8 E1,wrap u8 (ishr u32 E1 8),wrap u8 (ishr u32 E1 16),wrap u8 (ishr u32 E1 24)]))))) (.lf (Sum.inr (bytesOf v0.2))))
def Z31(words:(List Int)):(List UInt8):=(Q59 words).m
def Qdp(words:(List Int)):Prop:=
words.length<=1000000000000
theorem Z3i(words:(List Int))(hw:Qdp words):(Q59 words).p:=by
 simp only[Qdp]at hw
 unfold Tree.p Q59
 repeat'(first|refine w_lp (inv:=Qno words) (μ:=Q7u words) ?_ (Nat.lt_succ_self _) (λ_ _=> ?_)|exact trivial|refine w_br (λ_=> ?_) (λ_=> ?_)|refine w_cn ?_ ?_|refine w_an ?_ ?_|refine w_lv (λ_ _=> ?_)|refine w_nx ?_|refine w_lf ?_|refine And.intro ?_ ?_)
 all_goals((try simp only[Qno,Q7u]at*);exact fin0)
def Z66:LInv:={
 α:=(Int)×(List Int)
 F:=λst a=>([(3, .all 0),(10,(lk st 10)),(11,(lk st 11)),(12, .int i64 a.1)],[⟨false,5,1, .ints u8 a.2⟩])
 a0:=λst=>((lk st 12).toInt,(Q5k st.rows (rN st 3)))
 ex0:=λst=>[]++[(rX st 3 0)]}
def Qzu:List (Nat×LInv):=[(3,Z66)]
def Zd1:Q0d:=mkP 209 [] true [.one (.ints .u32)] [] (λargs rows=>Qdp (argL .u32 args 0)) (λargs rows=>Z31 (argL .u32 args 0)) (λX=> .str X) (λX=>[])
theorem Z5o:Q06 pG Zd1:=Q0p drawn Q0k (.nil) Tryz.func209 Tryz.call209 (λargs rows=>Q59 (argL .u32 args 0)) [] Qzu 3 (hp:=λargs rows h=>Z3i (argL .u32 args 0) h)
def Q6z(m:(List Int))(frame:Int):Tree ((List UInt8)×Bool):=
.lv (Q5g m frame) λ(x0:Bool)=> .br (!x0) (.lf ([],false)) (.cn (Nat.beq 1 1&&Nat.blt 0 1&&decide (0<=wrap i64 (frame*32)/\wrap i64 (frame*32)<=wrap i64 (wrap i64 (frame*32)+32)/\wrap i64 (wrap i64 (frame*32)+32)<=(m.length:Int))) (let E1:=List.take (Int.toNat (wrap i64 (wrap i64 (frame*32)+32))-Int.toNat (wrap i64 (frame*32))) (List.drop (Int.toNat (wrap i64 (frame*32))) m); .an (Qdp E1) (.lv (Z31 E1) λ(x1:List UInt8)=> .lf (x1,true))))
def Q5x(m:(List Int))(frame:Int):((List UInt8)×Bool):=(Q6z m frame).m
abbrev Qdd(m:(List Int))(frame:Int):Prop:=(Q6z m frame).p
def Za0:Q0d:=mkP 143 [] true [.one (.ints .u32), .one (.int .i64)] [] (λargs rows=>Qdd (argL .u32 args 0) (argI args 1)) (λargs rows=>Q5x (argL .u32 args 0) (argI args 1)) (λX=> .tup [.str (X.1), .bool (X.2)]) (λX=>[])
theorem Qkv:Q06 pG Za0:=Q0p drawn Q0k (.cons Qlp (.cons Z5o (.nil))) Tryz.func143 Tryz.call143 (λargs rows=>Q6z (argL .u32 args 0) (argI args 1)) [] [] 2
def Qre(d0:Q0f)(at0:Int):Tree (Q04×Bool):=
.br (d0.C1 !=1) (.lf ({B6:=0,At:=0,C0:=0,C8:=[]},false)) (.br (d0.D8==1) (.lf ({B6:=3,At:=at0,C0:=d0.B7,C8:=[]},true)) (.br (d0.D8==2) (.lf ({B6:=4,At:=at0,C0:=d0.B7,C8:=d0.C3},true)) (.lf ({B6:=0,At:=0,C0:=0,C8:=[]},false))))
def Qki(d0:Q0f)(at0:Int):(Q04×Bool):=(Qre d0 at0).m
def Z7:Q0d:=mkR 287 [] true [.agg Q0f.sig, .one (.int .u64)] [] (λargs rows=>Qki (Q0f.of (aC args 0)) (argI args 1)) (λX=> .tup [.agg (Q04.cells (X.1)), .bool (X.2)]) (λX=>[])
theorem Z2j:Q06 pG Z7:=Q11 drawn Q0k (.nil) Tryz.func287 Tryz.call287 (λargs rows=>Qre (Q0f.of (aC args 0)) (argI args 1)) [] [] 2
def Qcz(d0:Q0f)(m:(List Int))(cmd:Int)(at0:Int):Tree (Q0f×(List Q04)):=
.br (d0.C1 !=0) (.lf (d0,[])) (let T1:Tree ((Q0f×(List Q04))):= .lf ({Blocks:=d0.Blocks,C0:=d0.C0,Frame:=d0.Frame,C1:=3,D8:=d0.D8,B7:=d0.B7,B3:=d0.B3,C3:=d0.C3},[]); .br (decide (d0.C0>=d0.Blocks)) T1 (.lv (Q9p m d0.Frame) λ(x0:Bool)=> .br (!x0) T1 (.br (cmd==2) (.an (Qdd m (wrap i64 d0.Frame)) (.lv (Q5x m (wrap i64 d0.Frame)) λ(x1:List UInt8×Bool)=>let E2:=({Blocks:=d0.Blocks,C0:=d0.C0,Frame:=d0.Frame,C1:=1,D8:=cmd,B7:=d0.C0,B3:=d0.Frame,C3:=x1.1}:Q0f); .lv (Qki E2 at0) λ(x2:Q04×Bool)=> .lf (E2,[x2.1]))) (let E3:=({Blocks:=d0.Blocks,C0:=d0.C0,Frame:=d0.Frame,C1:=1,D8:=cmd,B7:=d0.C0,B3:=d0.Frame,C3:=[]}:Q0f); .lv (Qki E3 at0) λ(x3:Q04×Bool)=> .lf (E3,[x3.1])))))
def Qvr(d0:Q0f)(m:(List Int))(cmd:Int)(at0:Int):(Q0f×(List Q04)):=(Qcz d0 m cmd at0).m
abbrev Qrc(d0:Q0f)(m:(List Int))(cmd:Int)(at0:Int):Prop:=(Qcz d0 m cmd at0).p
def Zdr:Q0d:=mkP 251 [] true [.agg Q0f.sig, .one (.ints .u32), .one (.int .i64), .one (.int .u64)] [] (λargs rows=>Qrc (Q0f.of (aC args 0)) (argL .u32 args 1) (argI args 2) (argI args 3)) (λargs rows=>Qvr (Q0f.of (aC args 0)) (argL .u32 args 1) (argI args 2) (argI args 3)) (λX=> .tup [.agg (Q0f.cells (X.1)), .sl 4 (.recs .apiOutput (X.2)) true]) (λX=>[])
theorem Zbg:Q06 pG Zdr:=Q0p drawn Q0k (.cons Qrx (.cons Qkv (.cons Z2j (.nil)))) Tryz.func251 Tryz.call251 (λargs rows=>Qcz (Q0f.of (aC args 0)) (argL .u32 args 1) (argI args 2) (argI args 3)) [.sl (.recs .apiOutput) true] [] 2
def Qi2(d0:Q0f)(m:(List Int))(port:Int)(v:Int)(at0:Int):Tree (Q0f×(List Q04)):=
.br (port==4) (.lf ({Blocks:=d0.Blocks,C0:=v,Frame:=d0.Frame,C1:=d0.C1,D8:=d0.D8,B7:=d0.B7,B3:=d0.B3,C3:=d0.C3},[])) (.br (port==5) (.lf ({Blocks:=d0.Blocks,C0:=d0.C0,Frame:=v,C1:=d0.C1,D8:=d0.D8,B7:=d0.B7,B3:=d0.B3,C3:=d0.C3},[])) (.br (port==6) (let T1:Tree ((Q0f×(List Q04))):= .an (Qrc d0 m (wrap i64 v) at0) (.lv (Qvr d0 m (wrap i64 v) at0) λ(x0:Q0f×List Q04)=> .lf (x0.1,x0.2)); .br (v==1) T1 (.br (v==2) T1 (.br (v==0) (.lv (Qa0 d0) λ(x2:Bool)=> .br x2 (.lf ({Blocks:=d0.Blocks,C0:=d0.C0,Frame:=d0.Frame,C1:=0,D8:=d0.D8,B7:=d0.B7,B3:=d0.B3,C3:=d0.C3},[])) (.lf (d0,[]))) (.lf (d0,[]))))) (.lf (d0,[]))))
def Z1e(d0:Q0f)(m:(List Int))(port:Int)(v:Int)(at0:Int):(Q0f×(List Q04)):=(Qi2 d0 m port v at0).m
abbrev Qy9(d0:Q0f)(m:(List Int))(port:Int)(v:Int)(at0:Int):Prop:=(Qi2 d0 m port v at0).p
def Zoc:Q0d:=mkP 201 [] true [.agg Q0f.sig, .one (.ints .u32), .one (.int .i64), .one (.int .u32), .one (.int .u64)] [] (λargs rows=>Qy9 (Q0f.of (aC args 0)) (argL .u32 args 1) (argI args 2) (argI args 3) (argI args 4)) (λargs rows=>Z1e (Q0f.of (aC args 0)) (argL .u32 args 1) (argI args 2) (argI args 3) (argI args 4)) (λX=> .tup [.agg (Q0f.cells (X.1)), .sl 4 (.recs .apiOutput (X.2)) true]) (λX=>[])
theorem Zkk:Q06 pG Zoc:=Q0p drawn Q0k (.cons Zbg (.cons Qpq (.nil))) Tryz.func201 Tryz.call201 (λargs rows=>Qi2 (Q0f.of (aC args 0)) (argL .u32 args 1) (argI args 2) (argI args 3) (argI args 4)) [.sl (.recs .apiOutput) true] [] 2
def Qgr(m:(List Int))(frame:Int):Tree Bool:=
.lv (Q0x m) λ(x0:Int)=> .lf (decide (wrap u64 frame<wrap u64 x0))
def Qan(m:(List Int))(frame:Int):Bool:=(Qgr m frame).m
def Zhs:Q0d:=mkR 194 [] true [.one (.ints .u32), .one (.int .u32)] [] (λargs rows=>Qan (argL .u32 args 0) (argI args 1)) (λX=> .bool X) (λX=>[])
theorem Qma:Q06 pG Zhs:=Q11 drawn Q0k (.cons Q4m (.nil)) Tryz.func194 Tryz.call194 (λargs rows=>Qgr (argL .u32 args 0) (argI args 1)) [] [] 2
def Qhv(n:Q0r)(m:(List Int))(at0:Int):Tree (List Q04):=
.br (decide (n.E0<1)) (.lf ([])) (.br (decide (n.E0>128)) (.lf ([])) (.lv (Qan m n.Frame) λ(x0:Bool)=> .br (!x0) (.lf ([])) (.an (Qdd m (wrap i64 n.Frame)) (.lv (Q5x m (wrap i64 n.Frame)) λ(x1:List UInt8×Bool)=> .cn (decide ((0:Int)<=(0:Int)/\0<=n.E0/\n.E0<=(x1.1.length:Int))) (.lf ([{B6:=2,At:=at0,C0:=0,C8:=List.take (Int.toNat n.E0-Int.toNat 0) (List.drop (Int.toNat 0) x1.1)}]))))))
def Zao(n:Q0r)(m:(List Int))(at0:Int):(List Q04):=(Qhv n m at0).m
abbrev Qyx(n:Q0r)(m:(List Int))(at0:Int):Prop:=(Qhv n m at0).p
def Znp:Q0d:=mkP 252 [] true [.agg Q0r.sig, .one (.ints .u32), .one (.int .u64)] [] (λargs rows=>Qyx (Q0r.of (aC args 0)) (argL .u32 args 1) (argI args 2)) (λargs rows=>Zao (Q0r.of (aC args 0)) (argL .u32 args 1) (argI args 2)) (λX=> .sl 4 (.recs .apiOutput X) true) (λX=>[])
theorem Zji:Q06 pG Znp:=Q0p drawn Q0k (.cons Qma (.cons Qkv (.nil))) Tryz.func252 Tryz.call252 (λargs rows=>Qhv (Q0r.of (aC args 0)) (argL .u32 args 1) (argI args 2)) [.sl (.recs .apiOutput) true] [] 2
def Ql6(n:Q0r)(m:(List Int))(port:Int)(v:Int)(at0:Int):Tree (Q0r×(List Q04)):=
.br (port==7) (.lf ({Frame:=v,E0:=n.E0,C6:=n.C6,B9:=n.B9,B8:=n.B8,F1:=n.F1},[])) (.br (port==8) (.lf ({Frame:=n.Frame,E0:=v,C6:=n.C6,B9:=n.B9,B8:=n.B8,F1:=n.F1},[])) (.br (port==9) (.br (v==1) (.an (Qyx n m at0) (.lv (Zao n m at0) λ(x0:List Q04)=> .lf (n,x0))) (.br (v==2) (.lv (Qan m n.Frame) λ(x1:Bool)=> .br x1 (.br (!n.C6) (.br (!n.B8) (.lf ({Frame:=n.Frame,E0:=n.E0,C6:=true,B9:=n.Frame,B8:=n.B8,F1:=n.F1},[])) (.lf (n,[]))) (.lf (n,[]))) (.lf (n,[]))) (.br (v==0) (.lf ({Frame:=n.Frame,E0:=n.E0,C6:=n.C6,B9:=n.B9,B8:=false,F1:=0},[])) (.lf (n,[]))))) (.lf (n,[]))))
def Zaq(n:Q0r)(m:(List Int))(port:Int)(v:Int)(at0:Int):(Q0r×(List Q04)):=(Ql6 n m port v at0).m
abbrev Z2e(n:Q0r)(m:(List Int))(port:Int)(v:Int)(at0:Int):Prop:=(Ql6 n m port v at0).p
def zB:Q0d:=mkP 202 [] true [.agg Q0r.sig, .one (.ints .u32), .one (.int .i64), .one (.int .u32), .one (.int .u64)] [] (λargs rows=>Z2e (Q0r.of (aC args 0)) (argL .u32 args 1) (argI args 2) (argI args 3) (argI args 4)) (λargs rows=>Zaq (Q0r.of (aC args 0)) (argL .u32 args 1) (argI args 2) (argI args 3) (argI args 4)) (λX=> .tup [.agg (Q0r.cells (X.1)), .sl 4 (.recs .apiOutput (X.2)) true]) (λX=>[])
theorem Zph:Q06 pG zB:=Q0p drawn Q0k (.cons Zji (.cons Qma (.nil))) Tryz.func202 Tryz.call202 (λargs rows=>Ql6 (Q0r.of (aC args 0)) (argL .u32 args 1) (argI args 2) (argI args 3) (argI args 4)) [.sl (.recs .apiOutput) true] [] 2
def Qb9(m:(List Int))(frame:Int)(s:(List UInt8))(z:(Int)×(List Int)):Nat:=(32-z.1).toNat
def Q3n(m:(List Int))(frame:Int)(s:(List UInt8)):Tree ((List Int)×Bool):=
.an (Q08 m) (.lv (Q03 m) λ(x0:List Int)=> .lv (Q5g m frame) λ(x1:Bool)=> .br (!x1) (.lf (x0,false)) (.br ((s.length:Int) !=(128:Int)) (.lf (x0,false)) (.lp inferInstance (Qb9 m frame s (0,x0)+1) ((rE (s:List UInt8)/\True/\rE ((wrap i64 (frame*32)):Int)/\rE (0:Int)/\True)/\rE (x0:List Int)/\True) (0,x0) λ(v0:Int×List Int)=> .br (decide (v0.1<32)) (.cn (decide (0<=wrap i64 (4*v0.1)/\wrap i64 (4*v0.1)<=wrap i64 (wrap i64 (4*v0.1)+4)/\wrap i64 (wrap i64 (4*v0.1)+4)<=(s.length:Int))) (let E1:=List.take (Int.toNat (wrap i64 (wrap i64 (4*v0.1)+4))-Int.toNat (wrap i64 (4*v0.1))) (List.drop (Int.toNat (wrap i64 (4*v0.1))) s); .cn (decide ((0:Int)<=(0:Int)/\0<(↑(List.length E1):Int))) (.cn (decide ((0:Int)<=(1:Int)/\1<(↑(List.length E1):Int))) (.cn (decide ((0:Int)<=(2:Int)/\2<(↑(List.length E1):Int))) (.cn (decide ((0:Int)<=(3:Int)/\3<(↑(List.length E1):Int))) (.cn (Nat.beq 1 1&&Nat.blt 0 1&&decide (0<=wrap i64 (wrap i64 (frame*32)+v0.1)/\wrap i64 (wrap i64 (frame*32)+v0.1)<(v0.2.length:Int))) (.nx ((rE (s:List UInt8)/\True/\rE ((wrap i64 (frame*32)):Int)/\rE ((wrap i64 (v0.1+1)):Int)/\True)/\rE ((List.set v0.2 (Int.toNat (wrap i64 (wrap i64 (frame*32)+v0.1))) (ior u32 (ior u32 (ior u32 (wrap u32 (↑(UInt8.toNat (List.getD (List.take (Int.toNat (wrap i64 (wrap i64 (4*v0.1)+4))-Int.toNat (wrap i64 (4*v0.1))) (List.drop (Int.toNat (wrap i64 (4*v0.1))) s)) (Int.toNat 0) (0:UInt8))):Int)) (ishl u32 (wrap u32 (↑(UInt8.toNat (List.getD (List.take (Int.toNat (wrap i64 (wrap i64 (4*v0.1)+4))-Int.toNat (wrap i64 (4*v0.1))) (List.drop (Int.toNat (wrap i64 (4*v0.1))) s)) (Int.toNat 1) (0:UInt8))):Int)) 8)) (ishl u32 (wrap u32 (↑(UInt8.toNat (List.getD (List.take (Int.toNat (wrap i64 (wrap i64 (4*v0.1)+4))-Int.toNat (wrap i64 (4*v0.1))) (List.drop (Int.toNat (wrap i64 (4*v0.1))) s)) (Int.toNat 2) (0:UInt8))):Int)) 16)) (ishl u32 (wrap u32 (↑(UInt8.toNat (List.getD (List.take (Int.toNat (wrap i64 (wrap i64 (4*v0.1)+4))-Int.toNat (wrap i64 (4*v0.1))) (List.drop (Int.toNat (wrap i64 (4*v0.1))) s)) (Int.toNat 3) (0:UInt8))):Int)) 24))):List Int)/\True) (Sum.inl (wrap i64 (v0.1+1),List.set v0.2 (Int.toNat (wrap i64 (wrap i64 (frame*32)+v0.1))) (ior u32 (ior u32 (ior u32 (wrap u32 (↑(UInt8.toNat (List.getD E1 (Int.toNat 0) (0:UInt8))):Int)) (ishl u32 (wrap u32 (↑(UInt8.toNat (List.getD E1 (Int.toNat 1) (0:UInt8))):Int)) 8)) (ishl u32 (wrap u32 (↑(UInt8.toNat (List.getD E1 (Int.toNat 2) (0:UInt8))):Int)) 16)) (ishl u32 (wrap u32 (↑(UInt8.toNat (List.getD E1 (Int.toNat 3) (0:UInt8))):Int)) 24))))))))))) (.lf (Sum.inr (v0.2,true))))))
def Q2v(m:(List Int))(frame:Int)(s:(List UInt8)):((List Int)×Bool):=(Q3n m frame s).m
abbrev Q99(m:(List Int))(frame:Int)(s:(List UInt8)):Prop:=(Q3n m frame s).p
def Qvw:LInv:={
 α:=(Int)×(List Int)
 F:=λst a=>([(2,(lk st 2)),(8, .all 0),(9,(lk st 9)),(26, .int i64 a.1)],[⟨false,25,1, .ints u32 a.2⟩])
 a0:=λst=>((lk st 26).toInt,(Q5k st.rows (rN st 8)))
 ex0:=λst=>[]++[(rX st 8 0)]}
def Qsw:List (Nat×LInv):=[(6,Qvw)]
def Z0t:Q0d:=mkP 144 [] true [.one (.ints .u32), .one (.int .i64), .one (.str)] [] (λargs rows=>Q99 (argL .u32 args 0) (argI args 1) (argS args 2)) (λargs rows=>Q2v (argL .u32 args 0) (argI args 1) (argS args 2)) (λX=> .tup [.all 0, .bool (X.2)]) (λX=>[⟨false,25,1, .ints .u32 (X.1)⟩])
theorem Qey:Q06 pG Z0t:=Q0p drawn Q0k (.cons Q0w (.cons Qlp (.nil))) Tryz.func144 Tryz.call144 (λargs rows=>Q3n (argL .u32 args 0) (argI args 1) (argS args 2)) [.row 25 1 (.ints .u32)] Qsw 3
def strings_Repeat(s:(List UInt8))(count:Int):(List UInt8):=
Lib.repeatL s count.toNat
def Qeg(s:(List UInt8))(count:Int):Prop:=
0<=count/\count<=9223372036854775807/\s.length*count.toNat<=140737488355328
def Qjv(s:(List UInt8))(count:Int):List D:=[.str s, .int .i64 count]
def Qjx(s:(List UInt8))(count:Int):List Row:=[]
def Qdt(X:(List UInt8)):D:= .str X
def Qe(X:(List UInt8)):List Row:=[]
def Qko:List PT:=[.one (.str), .one (.int .i64)]
def Qjt:List RT:=[]
def Quz(args:List D)(rows:List Row):(List UInt8):=strings_Repeat (argS args 0) (argI args 1)
def Qv8(args:List D)(rows:List Row):Prop:=Qeg (argS args 0) (argI args 1)
def Z0n:Q0d:=mkP 253 [] true Qko Qjt Qv8 Quz Qdt Qe
theorem Qqs(s:(List UInt8))(count:Int)(hw:Qeg s count):Q4e pG 253 (Qjv s count) (Qjx s count) (Qdt (strings_Repeat s count)) (Qe (strings_Repeat s count)):=by
 exact vc Tryz.strings_Repeat hw.1 hw.2.1 hw.2.2
set_option maxRecDepth 100000 in
theorem Qsz(args:List D)(rows:List Row):Qga Qko args 0=Qjv (argS args 0) (argI args 1):=by kernel_rfl
set_option maxRecDepth 100000 in
theorem Qqv(args:List D)(rows:List Row):Q67 Qjt rows 0=Qjx (argS args 0) (argI args 1):=by kernel_rfl
set_option maxRecDepth 100000 in
theorem Qxm(X:(List UInt8)):(ffB (Qdt X)&&ffBR (Qe X))=true:=by kernel_rfl
theorem Qx6:Q06 pG Z0n:=Qz0 Tryz.call253 (λargs rows hp=>by rw[Qsz args rows,Qqv args rows];exact Qqs (argS args 0) (argI args 1) hp) (λ_ X=>Qxm X)
def Q45(b:Q09)(m:(List Int))(port:Int)(v:Int):Tree (Q09×(List Int)):=
let T1:Tree ((Q09×(List Int))):= .an (Q08 m) (.lv (Q03 m) λ(x0:List Int)=> .lf (b,x0)); .br (decide (v>=32)) T1 (.cn (decide (0<=v)) (.br (port==10) (.lv (Q0x m) λ(x1:Int)=> .br (decide (wrap i64 v<x1)) (.br (iand u32 b.C2 (ishl u32 1 v)==0) (.an (Qeg [(0:UInt8)] 128) (.lv (strings_Repeat [(0:UInt8)] 128) λ(x2:List UInt8)=> .an (Q99 m (wrap i64 v) x2) (.lv (Q2v m (wrap i64 v) x2) λ(x3:List Int×Bool)=> .lf ({D0:=b.D0,C2:=ior u32 b.C2 (ishl u32 1 v)},x3.1)))) T1) T1) (.br (port==11) (.an (Q08 m) (.lv (Q03 m) λ(x6:List Int)=> .lf ({D0:=b.D0,C2:=Qhu u32 b.C2 (ishl u32 1 v)},x6))) T1)))
def Q82(b:Q09)(m:(List Int))(port:Int)(v:Int):(Q09×(List Int)):=(Q45 b m port v).m
abbrev Qov(b:Q09)(m:(List Int))(port:Int)(v:Int):Prop:=(Q45 b m port v).p
def Zax:Q0d:=mkP 203 [] true [.agg Q09.sig, .one (.ints .u32), .one (.int .i64), .one (.int .u32)] [] (λargs rows=>Qov (Q09.of (aC args 0)) (argL .u32 args 1) (argI args 2) (argI args 3)) (λargs rows=>Q82 (Q09.of (aC args 0)) (argL .u32 args 1) (argI args 2) (argI args 3)) (λX=> .tup [.agg (Q09.cells (X.1)), .all 0]) (λX=>[⟨false,25,1, .ints .u32 (X.2)⟩])
theorem Z5p:Q06 pG Zax:=Q0p drawn Q0k (.cons Q0w (.cons Q4m (.cons Qey (.cons Qx6 (.nil))))) Tryz.func203 Tryz.call203 (λargs rows=>Q45 (Q09.of (aC args 0)) (argL .u32 args 1) (argI args 2) (argI args 3)) [.row 25 1 (.ints .u32)] [] 2
def Q3z(m:Q00)(port:Int)(v:Int)(at0:Int):Tree (Q00×(List Q04)):=
.br (port==0) (.lf (m,[{B6:=1,At:=at0,C0:=0,C8:=[(λ(n:Int)=>UInt8.ofNat n.toNat) (wrap u8 v)]}])) (.br (port==3) (.lv (Qm0 m.B0 v) λ(x0:Q0i)=> .lf ({B2:=m.B2,Mem:=m.Mem,A4:=m.A4,B0:=x0,B1:=m.B1,C4:=m.C4,A2:=m.A2,A1:=m.A1,A7:=m.A7,A9:=m.A9},[])) (let T1:Tree ((Q00×(List Q04))):= .an (Qy9 m.B1 m.Mem port v at0) (.lv (Z1e m.B1 m.Mem port v at0) λ(x1:Q0f×List Q04)=> .lf ({B2:=m.B2,Mem:=m.Mem,A4:=m.A4,B0:=m.B0,B1:=x1.1,C4:=m.C4,A2:=m.A2,A1:=m.A1,A7:=m.A7,A9:=m.A9},x1.2)); .br (port==4) T1 (.br (port==5) T1 (.br (port==6) T1 (let T2:Tree ((Q00×(List Q04))):= .an (Z2e m.C4 m.Mem port v at0) (.lv (Zaq m.C4 m.Mem port v at0) λ(x4:Q0r×List Q04)=> .lf ({B2:=m.B2,Mem:=m.Mem,A4:=m.A4,B0:=m.B0,B1:=m.B1,C4:=x4.1,A2:=m.A2,A1:=m.A1,A7:=m.A7,A9:=m.A9},x4.2)); .br (port==7) T2 (.br (port==8) T2 (.br (port==9) T2 (let T3:Tree ((Q00×(List Q04))):= .an (Qov m.A2 m.Mem port v) (.lv (Q82 m.A2 m.Mem port v) λ(x7:Q09×List Int)=> .lf ({B2:=m.B2,Mem:=x7.2,A4:=m.A4,B0:=m.B0,B1:=m.B1,C4:=m.C4,A2:=x7.1,A1:=m.A1,A7:=m.A7,A9:=m.A9},[])); .br (port==10) T3 (.br (port==11) T3 (.lf (m,[])))))))))))
def Q2f(m:Q00)(port:Int)(v:Int)(at0:Int):(Q00×(List Q04)):=(Q3z m port v at0).m
abbrev Qgb(m:Q00)(port:Int)(v:Int)(at0:Int):Prop:=(Q3z m port v at0).p
def Qsd:Q0d:=Q0d.fz<|mkP 135 [] false [.agg Q00.sig, .one (.int .i64), .one (.int .u32), .one (.int .u64)] [] (λargs rows=>Qgb (Q00.of (aC args 0)) (argI args 1) (argI args 2) (argI args 3)) (λargs rows=>Q2f (Q00.of (aC args 0)) (argI args 1) (argI args 2) (argI args 3)) (λX=> .tup [.agg (Q00.cells (X.1)), .sl 4 (.recs .apiOutput (X.2)) true]) (λX=>[])
theorem Qr:Q06 pG Qsd:=Zov<|Q0p drawn Q0k (.cons Zdz (.cons Zkk (.cons Zph (.cons Z5p (.nil))))) Tryz.func135 Tryz.call135 (λargs rows=>Q3z (Q00.of (aC args 0)) (argI args 1) (argI args 2) (argI args 3)) [.sl (.ints .u32) false, .sl (.recs .apiOutput) true] [] 2 (λ_ _ _=>by kernel_rfl) (λ_ _=>rfl) (λ_ _ h=>h) (λh=>by cases h)
def Q39(m:Q00)(clock:Int):Tree (Q00×(List Q04)):=
.an (Q08 m.Mem) (.lv (Q03 m.Mem) λ(x0:List Int)=>let E1:=({B2:=m.B2,Mem:=x0,A4:=m.A4,B0:=m.B0,B1:=m.B1,C4:=m.C4,A2:=m.A2,A1:=m.A1,A7:=m.A7,A9:=m.A9}:Q00); .an (Qc4 E1) (.lv (Q2q E1) λ(x1:Bool)=> .br (!x1) (.lf (E1,[])) (.an (Qai E1) (.lv (Q1 E1) λ(x2:Q00)=> .an (Qk8 x2.B2 x2.Mem) (.lv (Q81 x2.B2 x2.Mem) λ(x3:Q05×List Int×Q16)=>let E2:=({B2:=x3.1,Mem:=x3.2.1,A4:=x2.A4,B0:=x2.B0,B1:=x2.B1,C4:=x2.C4,A2:=x2.A2,A1:=x2.A1,A7:=x2.A7,A9:=x2.A9}:Q00); .br (x3.2.2.B6==1) (.an (Qhe E2 x3.2.2.D1 clock) (.lv (Q1j E2 x3.2.2.D1 clock) λ(x4:Q00×Int)=> .br (x3.2.2.D9 !=0) (.cn (Nat.blt 0 1&&decide (0<=x3.2.2.D9/\x3.2.2.D9<(↑16:Int))) (.lf ({B2:={X:=A16.of 0 (List.set (A16.l x4.1.B2.X) x3.2.2.D9.toNat x4.2),Pc:=x4.1.B2.Pc,B5:=x4.1.B2.B5},Mem:=x4.1.Mem,A4:=x4.1.A4,B0:=x4.1.B0,B1:=x4.1.B1,C4:=x4.1.C4,A2:=x4.1.A2,A1:=wrap u64 (x4.1.A1+1),A7:=x4.1.A7,A9:=x4.1.A9},[]))) (.lf ({B2:=x4.1.B2,Mem:=x4.1.Mem,A4:=x4.1.A4,B0:=x4.1.B0,B1:=x4.1.B1,C4:=x4.1.C4,A2:=x4.1.A2,A1:=wrap u64 (x4.1.A1+1),A7:=x4.1.A7,A9:=x4.1.A9},[])))) (.br (x3.2.2.B6==2) (.an (Qgb E2 x3.2.2.D1 x3.2.2.Value m.A1) (.lv (Q2f E2 x3.2.2.D1 x3.2.2.Value m.A1) λ(x5:Q00×List Q04)=> .lf ({B2:=x5.1.B2,Mem:=x5.1.Mem,A4:=x5.1.A4,B0:=x5.1.B0,B1:=x5.1.B1,C4:=x5.1.C4,A2:=x5.1.A2,A1:=wrap u64 (x5.1.A1+1),A7:=x5.1.A7,A9:=x5.1.A9},x5.2))) (.br (x3.2.2.B6==3) (.lf ({B2:=x3.1,Mem:=x3.2.1,A4:=x2.A4,B0:=x2.B0,B1:=x2.B1,C4:=x2.C4,A2:=x2.A2,A1:=wrap u64 (x2.A1+1),A7:=true,A9:=x2.A9},[])) (.br (x3.2.2.B6==4) (.lf ({B2:=x3.1,Mem:=x3.2.1,A4:=x2.A4,B0:=x2.B0,B1:=x2.B1,C4:=x2.C4,A2:=x2.A2,A1:=wrap u64 (x2.A1+1),A7:=x2.A7,A9:=true},[])) (.lf ({B2:=x3.1,Mem:=x3.2.1,A4:=x2.A4,B0:=x2.B0,B1:=x2.B1,C4:=x2.C4,A2:=x2.A2,A1:=wrap u64 (x2.A1+1),A7:=x2.A7,A9:=x2.A9},[]))))))))))
def Q3m(m:Q00)(clock:Int):(Q00×(List Q04)):=(Q39 m clock).m
abbrev Q6f(m:Q00)(clock:Int):Prop:=(Q39 m clock).p
def Z77:Q0d:=Q0d.fz<|mkP 39 [] false [.agg Q00.sig, .one (.int .u32)] [] (λargs rows=>Q6f (Q00.of (aC args 0)) (argI args 1)) (λargs rows=>Q3m (Q00.of (aC args 0)) (argI args 1)) (λX=> .tup [.agg (Q00.cells (X.1)), .sl 4 (.recs .apiOutput (X.2)) false]) (λX=>[])
theorem Qoj:Q06 pG Z77:=Zov<|Q0p drawn Q0k (.cons Q0w (.cons Qok (.cons Qnm (.cons Z4z (.cons Qsg (.cons Qr (.nil))))))) Tryz.func39 Tryz.call39 (λargs rows=>Q39 (Q00.of (aC args 0)) (argI args 1)) [.sl (.ints .u32) false, .sl (.recs .apiOutput) false] [] 2 (λ_ _ _=>by kernel_rfl) (λ_ _=>rfl) (λ_ _ h=>h) (λh=>by cases h)
end
noncomputable section
def Z4g(op:Int):Tree Int:=
let T1:Tree (Int):= .br (op==49) (.lf 3) (let T2:Tree (Int):= .br (op==24) (.lf 6) (.br (op==48) (.lf 7) (.br (op==58) (.lf 8) (.br (op==59) (.lf 8) (.br (op==60) (.lf 9) (.br (op==61) (.lf 9) (.br (op==56) (.lf 1) (.br (op==57) (.lf 1) (.br (decide (op>=62)) (.br (decide (op<=64)) (.lf 1) (.lf 0)) (.lf 0))))))))); .br (decide (op>=17)) (.br (decide (op<=19)) (.lf 4) (.br (decide (op>=20)) (.br (decide (op<=22)) (.lf 5) T2) T2)) (.br (decide (op>=20)) (.br (decide (op<=22)) (.lf 5) T2) T2));let T3:Tree (Int):= .br (op==16) (.lf 3) (.br (op==23) (.lf 3) (.br (decide (op>=32)) (.br (decide (op<=36)) (.lf 3) (.br (decide (op>=40)) (.br (decide (op<=45)) (.lf 3) T1) T1)) (.br (decide (op>=40)) (.br (decide (op<=45)) (.lf 3) T1) T1))); .br (decide (op>=1)) (.br (decide (op<=13)) (.lf 2) T3) T3
def Q2d(op:Int):Int:=(Z4g op).m
def Zju:Q0d:=mkR 191 [] true [.one (.int .i64)] [] (λargs rows=>Q2d (argI args 0)) (λX=> .int .i64 X) (λX=>[])
theorem Qfw:Q06 pG Zju:=Q11 drawn Q0k (.nil) Tryz.func191 Tryz.call191 (λargs rows=>Z4g (argI args 0)) [] [] 2
def Qdo(r:Int):Tree Bool:=
.br (decide (r>=0)) (.lf (decide (r<=15))) (.lf false)
def Q8a(r:Int):Bool:=(Qdo r).m
def Z38:Q0d:=mkR 225 [] true [.one (.int .i64)] [] (λargs rows=>Q8a (argI args 0)) (λX=> .bool X) (λX=>[])
theorem Qzw:Q06 pG Z38:=Q11 drawn Q0k (.nil) Tryz.func225 Tryz.call225 (λargs rows=>Qdo (argI args 0)) [] [] 2
def Qn3(f:Int):Tree (Int×Int):=
.br (f==3) (.lf ((-32768),32767)) (.br (f==7) (.lf ((-32768),32767)) (.br (f==4) (.lf (0,65535)) (.br (f==6) (.lf (0,65535)) (.br (f==5) (.lf (0,31)) (.br (f==8) (.lf (0,7)) (.br (f==9) (.lf (0,11)) (.lf (0,0))))))))
def Qmw(f:Int):(Int×Int):=(Qn3 f).m
def Zal:Q0d:=mkR 192 [] true [.one (.int .i64)] [] (λargs rows=>Qmw (argI args 0)) (λX=> .tup [.int .i64 (X.1), .int .i64 (X.2)]) (λX=>[])
theorem Qrb:Q06 pG Zal:=Q11 drawn Q0k (.nil) Tryz.func192 Tryz.call192 (λargs rows=>Qn3 (argI args 0)) [] [] 2
def Qgm(i:Q0l):Tree Bool:=
.lv (Q2d i.Op) λ(x0:Int)=> .br (x0==0) (.lf false) (.lv (Q8a i.A) λ(x1:Bool)=> .br (!x1) (.lf false) (.lv (Q8a i.B) λ(x2:Bool)=> .br (!x2) (.lf false) (.lv (Q8a i.C) λ(x3:Bool)=> .br (!x3) (.lf false) (.lv (Qmw x0) λ(x4:Int×Int)=> .br (decide (wrap i64 i.Imm<x4.1)) (.lf false) (.br (decide (wrap i64 i.Imm>x4.2)) (.lf false) (let T1:Tree (Bool):= .br (x0==1) (.br (i.A !=0) (.lf false) (.br (i.B==0) (.lf true) (.br (decide (x0>=2)) (.lf (decide (x0<=5))) (.lf false)))) (.br (i.B==0) (.lf true) (.br (decide (x0>=2)) (.lf (decide (x0<=5))) (.lf false))); .br (x0 !=2) (.br (i.C !=0) (.lf false) T1) T1))))))
def Q7w(i:Q0l):Bool:=(Qgm i).m
def Zgz:Q0d:=mkR 167 [] true [.agg Q0l.sig] [] (λargs rows=>Q7w (Q0l.of (aC args 0))) (λX=> .bool X) (λX=>[])
theorem Quq:Q06 pG Zgz:=Q11 drawn Q0k (.cons Qfw (.cons Qzw (.cons Qrb (.nil)))) Tryz.func167 Tryz.call167 (λargs rows=>Qgm (Q0l.of (aC args 0))) [] [] 2
def Qho(i:Q0l):Tree (Int×Bool):=
.lv (Q7w i) λ(x0:Bool)=> .br (!x0) (.lf (0,false)) (.lf (ior u32 (ior u32 (ior u32 (ior u32 (ishl u32 (wrap u32 i.Op) 24) (ishl u32 (wrap u32 i.A) 20)) (ishl u32 (wrap u32 i.B) 16)) (iand u32 (wrap u32 i.Imm) 65535)) (wrap u32 i.C),true))
def Q1p(i:Q0l):(Int×Bool):=(Qho i).m
def Za6:Q0d:=mkR 82 [] true [.agg Q0l.sig] [] (λargs rows=>Q1p (Q0l.of (aC args 0))) (λX=> .tup [.int .u32 (X.1), .bool (X.2)]) (λX=>[])
theorem Ql1:Q06 pG Za6:=Q11 drawn Q0k (.cons Quq (.nil)) Tryz.func82 Tryz.call82 (λargs rows=>Qho (Q0l.of (aC args 0))) [] [] 2
def Z8v:Tree (List Int):=
.lf ([1,2,3,4,5,6,7,8,9,10,11,12,13,16,16,17,18,19,20,21,22,23,24,24,32,32,33,34,35,35,36,40,41,42,43,44,45,48,49,56,57,58,59,60,60,61,61,62,63,64])
def Zb0:(List Int):=(Z8v).m
def Zoq:Q0d:=mkR 168 [] true [] [] (λargs rows=>Zb0) (λX=> .sl 1 (.ints .i64 X) true) (λX=>[])
theorem Zii:Q06 pG Zoq:=Q11 drawn Q0k (.nil) Tryz.func168 Tryz.call168 (λargs rows=>Z8v) [.sl (.ints .i64) true] [] 2
def Z3m(seed:Int):Tree (Int×Int):=
let E1:=wrap u64 (ixor u64 (wrap u64 (seed+11400714819323198485)) (ishr u64 (wrap u64 (seed+11400714819323198485)) 30)*13787848793156543929);let E2:=wrap u64 (ixor u64 E1 (ishr u64 E1 27)*10723151780598845931); .lf (ixor u64 E2 (ishr u64 E2 31),wrap u64 (seed+11400714819323198485))
def Ze1(seed:Int):(Int×Int):=(Z3m seed).m
def Zi1:Q0d:=mkR 162 [] true [.one (.int .u64)] [] (λargs rows=>Ze1 (argI args 0)) (λX=> .tup [.int .u64 (X.1), .int .u64 (X.2)]) (λX=>[])
theorem Zh8:Q06 pG Zi1:=Q11 drawn Q0k (.nil) Tryz.func162 Tryz.call162 (λargs rows=>Z3m (argI args 0)) [] [] 2
def Qqh(n:Int)(k:Int):Tree Int:=
.lv (Ze1 (ixor u64 (wrap u64 n) (wrap u64 (wrap u64 k*11400714819323198485)))) λ(x0:Int×Int)=> .lf (wrap i64 (ishr u64 x0.1 1))
def Q3f(n:Int)(k:Int):Int:=(Qqh n k).m
def Zpe:Q0d:=mkR 77 [] true [.one (.int .i64), .one (.int .i64)] [] (λargs rows=>Q3f (argI args 0) (argI args 1)) (λX=> .int .i64 X) (λX=>[])
theorem Qmi:Q06 pG Zpe:=Q11 drawn Q0k (.cons Zh8 (.nil)) Tryz.func77 Tryz.call77 (λargs rows=>Qqh (argI args 0) (argI args 1)) [] [] 2
def Qoi(n:Int)(k:Int):Tree Int:=
.cn (decide (k≠0)) (.br (decide (Int.tmod n k<0)) (.lf (wrap i64 (Int.tmod n k+k))) (.lf (Int.tmod n k)))
def Q4n(n:Int)(k:Int):Int:=(Qoi n k).m
abbrev Q43(n:Int)(k:Int):Prop:=(Qoi n k).p
def Zgl:Q0d:=mkP 50 [] true [.one (.int .i64), .one (.int .i64)] [] (λargs rows=>Q43 (argI args 0) (argI args 1)) (λargs rows=>Q4n (argI args 0) (argI args 1)) (λX=> .int .i64 X) (λX=>[])
theorem Qmy:Q06 pG Zgl:=Q0p drawn Q0k (.nil) Tryz.func50 Tryz.call50 (λargs rows=>Qoi (argI args 0) (argI args 1)) [] [] 2
def Qmc(n:Int):Tree Q0l:=
.lv Zb0 λ(x0:List Int)=> .lv (Q3f n 1) λ(x1:Int)=> .an (Q43 x1 (x0.length:Int)) (.lv (Q4n x1 (x0.length:Int)) λ(x2:Int)=> .cn (Nat.beq 1 1&&Nat.blt 0 1&&decide (0<=x2/\x2<(x0.length:Int))) (.an (Q43 (ishr i64 x1 8) 6) (.lv (Q4n (ishr i64 x1 8) 6) λ(x3:Int)=> .an (Q43 (ishr i64 x1 12) 6) (.lv (Q4n (ishr i64 x1 12) 6) λ(x4:Int)=> .an (Q43 (ishr i64 x1 16) 6) (.lv (Q4n (ishr i64 x1 16) 6) λ(x5:Int)=> .an (Q43 (ishr i64 x1 20) 24) (.lv (Q4n (ishr i64 x1 20) 24) λ(x6:Int)=> .br (decide (x0.getD x2.toNat (0:Int)<=(13:Int))) (.lf ({Op:=x0.getD x2.toNat 0,A:=x3,B:=x4,C:=x5,Imm:=0})) (let E4:=({Op:=x0.getD x2.toNat 0,A:=x3,B:=x4,C:=0,Imm:=wrap i32 (wrap i64 (wrap i64 (8*x6)-32))}:Q0l);let T1:Tree (Q0l):= .br (x0.getD x2.toNat (0:Int)==(49:Int)) (.lf (E4)) (.br (x0.getD x2.toNat (0:Int)==(24:Int)) (.lf ({Op:=x0.getD x2.toNat 0,A:=x3,B:=0,C:=0,Imm:=wrap i32 (wrap i64 (x6*iand i64 (ishr i64 x1 40) 1))})) (let T2:Tree (Q0l):=let E6:=({Op:=x0.getD x2.toNat 0,A:=x3,B:=0,C:=0,Imm:=wrap i32 (Int.tmod x6 8)}:Q0l); .br (x0.getD x2.toNat (0:Int)==(58:Int)) (.lf (E6)) (.br (x0.getD x2.toNat (0:Int)==(59:Int)) (.lf (E6)) (let E5:=({Op:=x0.getD x2.toNat 0,A:=x3,B:=0,C:=0,Imm:=wrap i32 (Int.tmod x6 12)}:Q0l); .br (x0.getD x2.toNat (0:Int)==(60:Int)) (.lf (E5)) (.br (x0.getD x2.toNat (0:Int)==(61:Int)) (.lf (E5)) (.lf ({Op:=x0.getD x2.toNat 0,A:=0,B:=0,C:=0,Imm:=0}))))); .br (decide (x0.getD x2.toNat (0:Int)>=(17:Int))) (.br (decide (x0.getD x2.toNat (0:Int)<=(22:Int))) (.lf ({Op:=x0.getD x2.toNat 0,A:=x3,B:=x4,C:=0,Imm:=wrap i32 x6})) T2) T2));let T3:Tree (Q0l):= .br (x0.getD x2.toNat (0:Int)==(16:Int)) (.lf (E4)) (.br (x0.getD x2.toNat (0:Int)==(23:Int)) (.lf (E4)) (.br (decide (x0.getD x2.toNat (0:Int)>=(32:Int))) (.br (decide (x0.getD x2.toNat (0:Int)<=(36:Int))) (.lf (E4)) T1) T1)); .br (decide (x0.getD x2.toNat (0:Int)>=(40:Int))) (.br (decide (x0.getD x2.toNat (0:Int)<=(48:Int))) (.br (x0.getD x2.toNat (0:Int)==(48:Int)) (.lf ({Op:=x0.getD x2.toNat 0,A:=x3,B:=0,C:=0,Imm:=wrap i32 (wrap i64 (x6-12))})) (.lf ({Op:=x0.getD x2.toNat 0,A:=x3,B:=x4,C:=0,Imm:=wrap i32 (wrap i64 (x6-12))}))) T3) T3)))))))
def Zd6(n:Int):Q0l:=(Qmc n).m
abbrev Qhh(n:Int):Prop:=(Qmc n).p
def Zjg:Q0d:=mkP 83 [] true [.one (.int .i64)] [] (λargs rows=>Qhh (argI args 0)) (λargs rows=>Zd6 (argI args 0)) (λX=> .agg (Q0l.cells X)) (λX=>[])
theorem Zh2:Q06 pG Zjg:=Q0p drawn Q0k (.cons Zii (.cons Qmi (.cons Qmy (.nil)))) Tryz.func83 Tryz.call83 (λargs rows=>Qmc (argI args 0)) [] [] 2
def Qr5(l:(List Int))(z:(Int)×(List Int)):Prop:=0<=z.1/\z.1<=l.length/\(z.2.length:Int)=z.1
def Qdq(l:(List Int))(z:(Int)×(List Int)):Nat:=(l.length-z.1).toNat
def Qjk(l:(List Int)):Tree (List Int):=
.lp inferInstance (Qdq l (0,[])+1) ((((Els.Nil (Els.ints i64 l)\/rE (1:Nat))/\rE (l:List Int))/\True/\rE (0:Int)/\True)/\rE ([]:List Int)/\True) (0,[]) λ(v0:Int×List Int)=> .br (decide (v0.1<(l.length:Int))) (let E1:=Nat.beq 1 1&&Nat.blt 0 1&&decide (0<=v0.1/\v0.1<(l.length:Int)); .cn E1 (let E2:=decide (4*(v0.2.length+1)<=140737488355328); .br (Int.tmod (l.getD v0.1.toNat 0) (17:Int)==(0:Int)) (.cn E1 (.cn E2 (.nx ((((Els.Nil (Els.ints i64 l)\/rE (1:Nat))/\rE (l:List Int))/\True/\rE ((wrap i64 (v0.1+1)):Int)/\True)/\rE ((v0.2++[wrap u32 (iand i64 (l.getD v0.1.toNat 0) 4294967295)]):List Int)/\True) (Sum.inl (wrap i64 (v0.1+1),v0.2++[wrap u32 (iand i64 (l.getD v0.1.toNat 0) 4294967295)]))))) (.cn E1 (.an (Qhh (l.getD v0.1.toNat 0)) (.lv (Zd6 (l.getD v0.1.toNat 0)) λ(x0:Q0l)=> .lv (Q1p x0) λ(x1:Int×Bool)=> .cn E2 (.nx ((((Els.Nil (Els.ints i64 l)\/rE (1:Nat))/\rE (l:List Int))/\True/\rE ((wrap i64 (v0.1+1)):Int)/\True)/\rE ((v0.2++[x1.1]):List Int)/\True) (Sum.inl (wrap i64 (v0.1+1),v0.2++[x1.1])))))))) (.lf (Sum.inr v0.2))
def Qph(l:(List Int)):(List Int):=(Qjk l).m
abbrev Qmp(l:(List Int)):Prop:=(Qjk l).p
def Zgk:LInv:={
 α:=(Int)×(List Int)
 F:=λst a=>([(0,(lk st 0)),(3, .all 0),(4, .int i64 a.1)],[⟨false,25,1, .ints u32 a.2⟩])
 a0:=λst=>((lk st 4).toInt,(Q5k st.rows (rN st 3)))
 ex0:=λst=>[]++[(rX st 3 0)]}
def Z6a:List (Nat×LInv):=[(3,Zgk)]
def Zkg:Q0d:=mkP 138 [] true [.one (.ints .i64)] [] (λargs rows=>Qmp (argL .i64 args 0)) (λargs rows=>Qph (argL .i64 args 0)) (λX=> .all 0) (λX=>[⟨false,25,1, .ints .u32 X⟩])
theorem Zew:Q06 pG Zkg:=Q0p drawn Q0k (.cons Ql1 (.cons Zh2 (.nil))) Tryz.func138 Tryz.call138 (λargs rows=>Qjk (argL .i64 args 0)) [.row 25 1 (.ints .u32)] Z6a 3
def Qkl(pc:Int):Tree Q05:=
.lf ({X:={a0:=0,a1:=0,a2:=0,a3:=0,a4:=0,a5:=0,a6:=0,a7:=0,a8:=0,a9:=0,a10:=0,a11:=0,a12:=0,a13:=0,a14:=0,a15:=0},Pc:=pc,B5:={a0:=1,a1:=0,a2:=0,a3:=0,a4:=0,a5:=0,a6:=0,a7:=0}})
def Qpz(pc:Int):Q05:=(Qkl pc).m
def Zga:Q0d:=mkR 127 [] true [.one (.int .u32)] [] (λargs rows=>Qpz (argI args 0)) (λX=> .agg (Q05.cells X)) (λX=>[])
theorem Zcz:Q06 pG Zga:=Q11 drawn Q0k (.nil) Tryz.func127 Tryz.call127 (λargs rows=>Qkl (argI args 0)) [] [] 2
def Qf5(pages:Int):Tree (List Int):=
.br (decide (pages<1)) (.lf ([])) (.br (decide (pages>32)) (.lf ([])) (.cn (Nat.blt 0 1&&Nat.beq 1 1&&List.all [D.int u32 0] D.plain&&decide (0<=wrap i64 (pages*32)/\wrap i64 (pages*32)<=wrap i64 (pages*32)/\wrap i64 (pages*32)<=9223372036854775807/\(↑4:Int)*wrap i64 (pages*32)<=140737488355328)) (.lf (List.replicate (Int.toNat (wrap i64 (pages*32))) 0))))
def Qtz(pages:Int):(List Int):=(Qf5 pages).m
abbrev Qg5(pages:Int):Prop:=(Qf5 pages).p
def Zol:Q0d:=mkP 128 [] true [.one (.int .i64)] [] (λargs rows=>Qg5 (argI args 0)) (λargs rows=>Qtz (argI args 0)) (λX=> .all 0) (λX=>[⟨false,25,1, .ints .u32 X⟩])
theorem Zjn:Q06 pG Zol:=Q0p drawn Q0k (.nil) Tryz.func128 Tryz.call128 (λargs rows=>Qf5 (argI args 0)) [.row 25 1 (.ints .u32)] [] 2
def Q8x(pages:Int)(blocks:Int)(image:(List Int)):Tree (Q00×Bool):=
let T1:Tree ((Q00×Bool)):= .lf ({B2:={X:={a0:=0,a1:=0,a2:=0,a3:=0,a4:=0,a5:=0,a6:=0,a7:=0,a8:=0,a9:=0,a10:=0,a11:=0,a12:=0,a13:=0,a14:=0,a15:=0},Pc:=0,B5:={a0:=0,a1:=0,a2:=0,a3:=0,a4:=0,a5:=0,a6:=0,a7:=0}},Mem:=[],A4:={D3:=[]},B0:={D2:=false,C9:=0,D5:=false},B1:={Blocks:=0,C0:=0,Frame:=0,C1:=0,D8:=0,B7:=0,B3:=0,C3:=[]},C4:={Frame:=0,E0:=0,C6:=false,B9:=0,B8:=false,F1:=0},A2:={D0:=0,C2:=0},A1:=0,A7:=false,A9:=false},false); .br (decide (pages<1)) T1 (.br (decide (pages>32)) T1 (.br (decide (blocks<0)) T1 (.br (decide (blocks>64)) T1 (.br (decide ((image.length:Int)>wrap i64 (pages*32))) T1 (.lv (Qpz 0) λ(x0:Q05)=> .an (Qg5 pages) (.lv (Qtz pages) λ(x1:List Int)=> .lf ({B2:=x0,Mem:=List.take (Min.min (image.length) (x1.length)) image++List.drop (Min.min (image.length) (x1.length)) x1,A4:={D3:=[]},B0:={D2:=false,C9:=0,D5:=false},B1:={Blocks:=wrap u32 blocks,C0:=0,Frame:=0,C1:=0,D8:=0,B7:=0,B3:=0,C3:=[]},C4:={Frame:=0,E0:=0,C6:=false,B9:=0,B8:=false,F1:=0},A2:={D0:=0,C2:=0},A1:=0,A7:=false,A9:=false},true)))))))
def Q1y(pages:Int)(blocks:Int)(image:(List Int)):(Q00×Bool):=(Q8x pages blocks image).m
abbrev Q9n(pages:Int)(blocks:Int)(image:(List Int)):Prop:=(Q8x pages blocks image).p
def Zp6:Q0d:=mkP 37 [] true [.one (.int .i64), .one (.int .i64), .one (.ints .u32)] [] (λargs rows=>Q9n (argI args 0) (argI args 1) (argL .u32 args 2)) (λargs rows=>Q1y (argI args 0) (argI args 1) (argL .u32 args 2)) (λX=> .tup [.agg (Q00.cellsW (X.1) (.all 0)), .bool (X.2)]) (λX=>[⟨false,25,1, .ints .u32 (X.1).Mem⟩])
theorem Z1x:Q06 pG Zp6:=Q0p drawn Q0k (.cons Zcz (.cons Zjn (.nil))) Tryz.func37 Tryz.call37 (λargs rows=>Q8x (argI args 0) (argI args 1) (argL .u32 args 2)) [.row 25 1 (.ints .u32)] [] 2
def Qj2(a:(List Int))(b:(List Int))(z:(Int)):Prop:=0<=z/\z<=a.length/\a.length=b.length
def Q55(a:(List Int))(b:(List Int))(z:(Int)):Nat:=(a.length-z).toNat
def Q8p(a:(List Int))(b:(List Int)):Tree Bool:=
.br ((a.length:Int) !=(b.length:Int)) (.lf false) (.lp inferInstance (Q55 a b 0+1) ((((Els.Nil (Els.ints u32 a)\/rE (1:Nat))/\rE (a:List Int))/\((Els.Nil (Els.ints u32 b)\/rE (1:Nat))/\rE (b:List Int))/\rE (0:Int)/\True)/\True) 0 λ(v0:Int)=> .br (decide (v0<(a.length:Int))) (.cn (Nat.beq 1 1&&Nat.blt 0 1&&decide (0<=v0/\v0<(a.length:Int))) (.cn (Nat.beq 1 1&&Nat.blt 0 1&&decide (0<=v0/\v0<(b.length:Int))) (.br (a.getD v0.toNat 0 !=b.getD v0.toNat 0) (.lf (Sum.inr false)) (.nx ((((Els.Nil (Els.ints u32 a)\/rE (1:Nat))/\rE (a:List Int))/\((Els.Nil (Els.ints u32 b)\/rE (1:Nat))/\rE (b:List Int))/\rE ((wrap i64 (v0+1)):Int)/\True)/\True) (Sum.inl (wrap i64 (v0+1))))))) (.lf (Sum.inr true)))
def Qft(a:(List Int))(b:(List Int)):Bool:=(Q8p a b).m
def Q97(a:(List Int))(b:(List Int)):Prop:=
a.length<=1000000000000
theorem Qux(a:(List Int))(b:(List Int))(hw:Q97 a b):(Q8p a b).p:=by
 simp only[Q97]at hw
 unfold Tree.p Q8p
 repeat'(first|refine w_lp (inv:=Qj2 a b) (μ:=Q55 a b) ?_ (Nat.lt_succ_self _) (λ_ _=> ?_)|exact trivial|refine w_br (λ_=> ?_) (λ_=> ?_)|refine w_cn ?_ ?_|refine w_an ?_ ?_|refine w_lv (λ_ _=> ?_)|refine w_nx ?_|refine w_lf ?_|refine And.intro ?_ ?_)
 all_goals((try simp only[Qj2,Q55]at*);exact fin0)
def Qwk:LInv:={
 α:=(Int)
 F:=λst a=>([(0,(lk st 0)),(1,(lk st 1)),(5, .int i64 a)],[])
 a0:=λst=>(lk st 5).toInt
 ex0:=λst=>[]++[]}
def Qse:List (Nat×LInv):=[(4,Qwk)]
def Z03:Q0d:=mkP 49 [] true [.one (.ints .u32), .one (.ints .u32)] [] (λargs rows=>Q97 (argL .u32 args 0) (argL .u32 args 1)) (λargs rows=>Qft (argL .u32 args 0) (argL .u32 args 1)) (λX=> .bool X) (λX=>[])
theorem Qx0:Q06 pG Z03:=Q0p drawn Q0k (.nil) Tryz.func49 Tryz.call49 (λargs rows=>Q8p (argL .u32 args 0) (argL .u32 args 1)) [] Qse 3 (hp:=λargs rows h=>Qux (argL .u32 args 0) (argL .u32 args 1) h)
def Qir(a:Q00)(b:Q00):Tree Bool:=
.br (eqs [D.int u32 a.B2.X.a0,D.int u32 a.B2.X.a1,D.int u32 a.B2.X.a2,D.int u32 a.B2.X.a3,D.int u32 a.B2.X.a4,D.int u32 a.B2.X.a5,D.int u32 a.B2.X.a6,D.int u32 a.B2.X.a7,D.int u32 a.B2.X.a8,D.int u32 a.B2.X.a9,D.int u32 a.B2.X.a10,D.int u32 a.B2.X.a11,D.int u32 a.B2.X.a12,D.int u32 a.B2.X.a13,D.int u32 a.B2.X.a14,D.int u32 a.B2.X.a15,D.int u32 a.B2.Pc,D.int u32 a.B2.B5.a0,D.int u32 a.B2.B5.a1,D.int u32 a.B2.B5.a2,D.int u32 a.B2.B5.a3,D.int u32 a.B2.B5.a4,D.int u32 a.B2.B5.a5,D.int u32 a.B2.B5.a6,D.int u32 a.B2.B5.a7] [D.int u32 b.B2.X.a0,D.int u32 b.B2.X.a1,D.int u32 b.B2.X.a2,D.int u32 b.B2.X.a3,D.int u32 b.B2.X.a4,D.int u32 b.B2.X.a5,D.int u32 b.B2.X.a6,D.int u32 b.B2.X.a7,D.int u32 b.B2.X.a8,D.int u32 b.B2.X.a9,D.int u32 b.B2.X.a10,D.int u32 b.B2.X.a11,D.int u32 b.B2.X.a12,D.int u32 b.B2.X.a13,D.int u32 b.B2.X.a14,D.int u32 b.B2.X.a15,D.int u32 b.B2.Pc,D.int u32 b.B2.B5.a0,D.int u32 b.B2.B5.a1,D.int u32 b.B2.B5.a2,D.int u32 b.B2.B5.a3,D.int u32 b.B2.B5.a4,D.int u32 b.B2.B5.a5,D.int u32 b.B2.B5.a6,D.int u32 b.B2.B5.a7]) (.an (Q97 a.Mem b.Mem) (.lv (Qft a.Mem b.Mem) λ(x0:Bool)=> .br x0 (.br (eqs [D.str a.A4.D3] [D.str b.A4.D3]) (.br (eqs [D.bool a.B0.D2,D.int u32 a.B0.C9,D.bool a.B0.D5] [D.bool b.B0.D2,D.int u32 b.B0.C9,D.bool b.B0.D5]) (.br (eqs [D.int u32 a.B1.Blocks,D.int u32 a.B1.C0,D.int u32 a.B1.Frame,D.int i64 a.B1.C1,D.int i64 a.B1.D8,D.int u32 a.B1.B7,D.int u32 a.B1.B3,D.str a.B1.C3] [D.int u32 b.B1.Blocks,D.int u32 b.B1.C0,D.int u32 b.B1.Frame,D.int i64 b.B1.C1,D.int i64 b.B1.D8,D.int u32 b.B1.B7,D.int u32 b.B1.B3,D.str b.B1.C3]) (.br (eqs [D.int u32 a.C4.Frame,D.int u32 a.C4.E0,D.bool a.C4.C6,D.int u32 a.C4.B9,D.bool a.C4.B8,D.int u32 a.C4.F1] [D.int u32 b.C4.Frame,D.int u32 b.C4.E0,D.bool b.C4.C6,D.int u32 b.C4.B9,D.bool b.C4.B8,D.int u32 b.C4.F1]) (.br (eqs [D.int u32 a.A2.D0,D.int u32 a.A2.C2] [D.int u32 b.A2.D0,D.int u32 b.A2.C2]) (.br (a.A1==b.A1) (.br (a.A7==b.A7) (.lf (a.A9==b.A9)) (.lf false)) (.lf false)) (.lf false)) (.lf false)) (.lf false)) (.lf false)) (.lf false)) (.lf false))) (.lf false)
def Zf3(a:Q00)(b:Q00):Bool:=(Qir a b).m
abbrev Qu7(a:Q00)(b:Q00):Prop:=(Qir a b).p
def Zi5:Q0d:=mkP 19 [] true [.agg Q00.sig, .agg Q00.sig] [] (λargs rows=>Qu7 (Q00.of (aC args 0)) (Q00.of (aC args 1))) (λargs rows=>Zf3 (Q00.of (aC args 0)) (Q00.of (aC args 1))) (λX=> .bool X) (λX=>[])
theorem Zep:Q06 pG Zi5:=Q0p drawn Q0k (.cons Qx0 (.nil)) Tryz.func19 Tryz.call19 (λargs rows=>Qir (Q00.of (aC args 0)) (Q00.of (aC args 1))) [] [] 2
def Q2j(m:Q00):Tree Bool:=
.an (Qc4 m) (.lv (Q2q m) λ(x0:Bool)=> .br (!x0) (.lf false) (.an (Qai m) (.lv (Q1 m) λ(x1:Q00)=> .an (Qk8 x1.B2 x1.Mem) (.lv (Q81 x1.B2 x1.Mem) λ(x2:Q05×List Int×Q16)=> .br (x2.2.2.B6==1) (.lf (x2.2.2.D1==2)) (.lf false)))))
def Q3c(m:Q00):Bool:=(Q2j m).m
abbrev Q2r(m:Q00):Prop:=(Q2j m).p
def Qr2:Q0d:=mkP 30 [] true [.agg Q00.sig] [] (λargs rows=>Q2r (Q00.of (aC args 0))) (λargs rows=>Q3c (Q00.of (aC args 0))) (λX=> .bool X) (λX=>[])
theorem Qp3:Q06 pG Qr2:=Q0p drawn Q0k (.cons Qok (.cons Qnm (.cons Z4z (.nil)))) Tryz.func30 Tryz.call30 (λargs rows=>Q2j (Q00.of (aC args 0))) [] [] 2
