import Derived.Test.YtmalmklaonainaaGreatReplayRefusesHand
import Derived.Test.YtmalmklaonainaaGreatReplayRefusesYc
import Derived.Test.YtmalmklaonainaaGreatReplayRefusesYb
set_option maxRecDepth 100000
set_option linter.all false
namespace Go.Proofs.YtmalmklaonainaaGreat
open Go Go.GD Go.IntKind
noncomputable section
def Q47(m:Q00):Tree Bool:=
.an (Q3c m) (.lv (Q1g m) λ(x0:Bool)=> .br x0 (.br (!m.A9) (.an (Q6j m) (.lv (Q86 m) λ(x1:Bool)=> .br (!x1) (.lf (decide (m.A1<1152921504606846976))) (.lf false))) (.lf false)) (.lf false))
def Q4m(m:Q00):Bool:=(Q47 m).m
abbrev Qci(m:Q00):Prop:=(Q47 m).p
def Z5d:Q0d:=mkP 112 [] true [.agg Q00.sig] [] (λargs rows=>Qci (Q00.of (aC args 0))) (λargs rows=>Q4m (Q00.of (aC args 0))) (λX=> .bool X) (λX=>[])
theorem Qor:Q05 Tryz.prog Z5d:=Q0l drawn Q0j (.cons Qca (.cons Qio (.nil))) Tryz.func112 Tryz.call112 (λargs rows=>Q47 (Q00.of (aC args 0))) [] [] 2
def Qj1(m:Q00)(z:(Int)):Nat:=(5-z).toNat
def Q4p(m:Q00):Tree Q00:=
let E1:=({B2:=m.B2,Mem:=m.Mem,A6:=m.A6,B0:=m.B0,B1:=m.B1,C4:=m.C4,A2:=m.A2,A1:=m.A1,A7:=false,A9:=m.A9}:Q00); .br (iand u32 m.B2.B5.a0 (2:Int)==(0:Int)) (.lf (E1)) (.an (Q8q E1) (.lv (Q5y E1) λ(x0:Int)=> .lp inferInstance (Qj1 m 0+1) ((rZ/\rZ/\rE (x0:Int)/\rE (0:Int)/\True)/\(rE m.B2.X.a0/\rE m.B2.X.a1/\rE m.B2.X.a2/\rE m.B2.X.a3/\rE m.B2.X.a4/\rE m.B2.X.a5/\rE m.B2.X.a6/\rE m.B2.X.a7/\rE m.B2.X.a8/\rE m.B2.X.a9/\rE m.B2.X.a10/\rE m.B2.X.a11/\rE m.B2.X.a12/\rE m.B2.X.a13/\rE m.B2.X.a14/\rE m.B2.X.a15/\rE m.B2.Pc/\rE m.B2.B5.a0/\rE m.B2.B5.a1/\rE m.B2.B5.a2/\rE m.B2.B5.a3/\rE m.B2.B5.a4/\rE m.B2.B5.a5/\rE m.B2.B5.a6/\rE m.B2.B5.a7/\((Els.Nil (Els.ints u32 m.Mem)\/rE (1:Nat))/\rE m.Mem)/\rE m.A6.D3/\rE m.B0.D1/\rE m.B0.C7/\rE m.B0.D5/\rE m.B1.Blocks/\rE m.B1.C1/\rE m.B1.Frame/\rE m.B1.C0/\rE m.B1.D8/\rE m.B1.B7/\rE m.B1.B3/\rE m.B1.C3/\rE m.C4.Frame/\rE m.C4.E0/\rE m.C4.C5/\rE m.C4.B9/\rE m.C4.B8/\rE m.C4.F1/\rE m.A2.C8/\rE m.A2.C2/\rE m.A1/\rE (false:Bool)/\rE m.A9/\True)/\(mE zM True True)/\True) 0 λ(v0:Int)=> .br (decide (v0<5)) (.cn (decide (0<=v0)) (.br (iand u32 x0 (ishl u32 1 v0) !=0) (.lv (Q4x m.B2 (wrap i64 (16+v0)) 0) λ(x1:Q02)=> .lf (Sum.inr {B2:=x1,Mem:=m.Mem,A6:=m.A6,B0:=m.B0,B1:=m.B1,C4:=m.C4,A2:=m.A2,A1:=m.A1,A7:=false,A9:=m.A9})) (.nx ((rZ/\rZ/\rE (x0:Int)/\rE ((wrap i64 (v0+1)):Int)/\True)/\(rE m.B2.X.a0/\rE m.B2.X.a1/\rE m.B2.X.a2/\rE m.B2.X.a3/\rE m.B2.X.a4/\rE m.B2.X.a5/\rE m.B2.X.a6/\rE m.B2.X.a7/\rE m.B2.X.a8/\rE m.B2.X.a9/\rE m.B2.X.a10/\rE m.B2.X.a11/\rE m.B2.X.a12/\rE m.B2.X.a13/\rE m.B2.X.a14/\rE m.B2.X.a15/\rE m.B2.Pc/\rE m.B2.B5.a0/\rE m.B2.B5.a1/\rE m.B2.B5.a2/\rE m.B2.B5.a3/\rE m.B2.B5.a4/\rE m.B2.B5.a5/\rE m.B2.B5.a6/\rE m.B2.B5.a7/\((Els.Nil (Els.ints u32 m.Mem)\/rE (1:Nat))/\rE m.Mem)/\rE m.A6.D3/\rE m.B0.D1/\rE m.B0.C7/\rE m.B0.D5/\rE m.B1.Blocks/\rE m.B1.C1/\rE m.B1.Frame/\rE m.B1.C0/\rE m.B1.D8/\rE m.B1.B7/\rE m.B1.B3/\rE m.B1.C3/\rE m.C4.Frame/\rE m.C4.E0/\rE m.C4.C5/\rE m.C4.B9/\rE m.C4.B8/\rE m.C4.F1/\rE m.A2.C8/\rE m.A2.C2/\rE m.A1/\rE (false:Bool)/\rE m.A9/\True)/\(mE zM True True)/\True) (Sum.inl (wrap i64 (v0+1)))))) (.lf (Sum.inr E1))))
def Q11(m:Q00):Q00:=(Q4p m).m
abbrev Qaw(m:Q00):Prop:=(Q4p m).p
def Qzb:LInv:={
 α:=(Int)
 F:=λst a=>([(1, .ptr 0 0 0),(2, .ptr 1 0 0),(3,(lk st 3)),(15, .int i64 a)],[⟨true,43,49, .gen [mB (cT st 1)]⟩,⟨true,43,49, .gen [mB (cT st 2)]⟩])
 a0:=λst=>(lk st 15).toInt
 ex0:=λst=>[]++[(Q0r (lk st 1) (st.rows.length+0)),(Q0r (lk st 2) (st.rows.length+1))]
 next:=λst=>(lk st 15).toInt
 ex:=λst=>[]++[(Q0r (lk st 1) (st.rows.length+0)),(Q0r (lk st 2) (st.rows.length+1))]}
def Qv7:List (Nat×LInv):=[(6,Qzb)]
def Z18:Q0d:=Q0d.fz<|mkP 113 [] false [.agg Q00.sig] [] (λargs rows=>Qaw (Q00.of (aC args 0))) (λargs rows=>Q11 (Q00.of (aC args 0))) (λX=> .agg (Q00.cells X)) (λX=>[])
theorem Qnm:Q05 Tryz.prog Z18:=Zo1<|Q0l drawn Q0j (.cons Qk9 (.cons Qil (.nil))) Tryz.func113 Tryz.call113 (λargs rows=>Q4p (Q00.of (aC args 0))) [.sl (.ints .u32) false] Qv7 3 (λ_ _ _=>by kernel_rfl) (λ_ _=>rfl) (λ_ _ h=>h) (λh=>by cases h)
def Qal(c:Q0c)(port:Int):Tree (Q0c×Int):=
.br (port==0) (.br (decide (c.D3=[])) (.lf (c,4294967295)) (.cn (decide ((0:Int)<=(0:Int)/\0<(c.D3.length:Int))) (.cn (decide ((0:Int)<=(1:Int)/\1<=(c.D3.length:Int)/\(c.D3.length:Int)<=(c.D3.length:Int))) (.lf ({D3:=List.take (Int.toNat (c.D3.length:Int)-Int.toNat 1) (List.drop (Int.toNat 1) c.D3)},wrap u32 (↑(UInt8.toNat (c.D3.getD (Int.toNat 0) (0:UInt8))):Int)))))) (.br (port==1) (.lf (c,wrap u32 (c.D3.length:Int))) (.lf (c,0)))
def Qpw(c:Q0c)(port:Int):(Q0c×Int):=(Qal c port).m
theorem Z4x(c:Q0c)(port:Int):(Qal c port).p:=by
 unfold Tree.p Qal
 repeat'(first|exact trivial|refine w_br (λ_=> ?_) (λ_=> ?_)|refine w_cn ?_ ?_|refine w_an ?_ ?_|refine w_lv (λ_ _=> ?_)|refine w_nx ?_|refine w_lf ?_|refine And.intro ?_ ?_)
 all_goals(exact fin0)
def Zfd:Q0d:=mkR 195 [] true [.agg Q0c.sig, .one (.int .i64)] [] (λargs rows=>Qpw (Q0c.of (aC args 0)) (argI args 1)) (λX=> .tup [.agg (Q0c.cells (X.1)), .int .u32 (X.2)]) (λX=>[])
theorem Zap:Q05 Tryz.prog Zfd:=Q0z drawn Q0j (.nil) Tryz.func195 Tryz.call195 (λargs rows=>Qal (Q0c.of (aC args 0)) (argI args 1)) [] [] 2 (λ_ _ _=>by kernel_rfl) (λ_ _=>rfl) (λargs rows=>Z4x (Q0c.of (aC args 0)) (argI args 1)) (λ_ X=>by kernel_rfl)
def Qq(t:Q0h):Tree Int:=
.br t.D5 (.lf 1) (.lf 0)
def Z0p(t:Q0h):Int:=(Qq t).m
def Zol:Q0d:=mkR 196 [] true [.agg Q0h.sig] [] (λargs rows=>Z0p (Q0h.of (aC args 0))) (λX=> .int .u32 X) (λX=>[])
theorem Zjr:Q05 Tryz.prog Zol:=Q0z drawn Q0j (.nil) Tryz.func196 Tryz.call196 (λargs rows=>Qq (Q0h.of (aC args 0))) [] [] 2
def Qtm(d0:Q0e)(port:Int):Tree Int:=
.br (port==4) (.lf d0.C1) (.br (port==5) (.lf d0.Frame) (.br (port==6) (.lf (wrap u32 d0.C0)) (.lf 0)))
def Qwc(d0:Q0e)(port:Int):Int:=(Qtm d0 port).m
def vA:Q0d:=mkR 197 [] true [.agg Q0e.sig, .one (.int .i64)] [] (λargs rows=>Qwc (Q0e.of (aC args 0)) (argI args 1)) (λX=> .int .u32 X) (λX=>[])
theorem Zmt:Q05 Tryz.prog vA:=Q0z drawn Q0j (.nil) Tryz.func197 Tryz.call197 (λargs rows=>Qtm (Q0e.of (aC args 0)) (argI args 1)) [] [] 2
def Qtt(n:Q0o)(port:Int):Tree Int:=
.br (port==7) (.lf n.Frame) (.br (port==8) (.lf n.F1) (.br (port==9) (.br n.C5 (.br n.B8 (.lf (wrap u32 (wrap u32 ((0:Int)+(1:Int))+2))) (.lf (wrap u32 ((0:Int)+(1:Int))))) (.br n.B8 (.lf (wrap u32 ((0:Int)+(2:Int)))) (.lf 0))) (.lf 0)))
def Z1p(n:Q0o)(port:Int):Int:=(Qtt n port).m
def qY:Q0d:=mkR 198 [] true [.agg Q0o.sig, .one (.int .i64)] [] (λargs rows=>Z1p (Q0o.of (aC args 0)) (argI args 1)) (λX=> .int .u32 X) (λX=>[])
theorem qB:Q05 Tryz.prog qY:=Q0z drawn Q0j (.nil) Tryz.func198 Tryz.call198 (λargs rows=>Qtt (Q0o.of (aC args 0)) (argI args 1)) [] [] 2
def Q84(b:Q07)(port:Int):Tree Int:=
.br (port==10) (.lf b.C8) (.br (port==11) (.an (Qat b) (.lv (Qeb b) λ(x0:Int)=> .lf (wrap u32 x0))) (.lf 0))
def Qpv(b:Q07)(port:Int):Int:=(Q84 b port).m
abbrev Ql7(b:Q07)(port:Int):Prop:=(Q84 b port).p
def Zfj:Q0d:=mkP 199 [] true [.agg Q07.sig, .one (.int .i64)] [] (λargs rows=>Ql7 (Q07.of (aC args 0)) (argI args 1)) (λargs rows=>Qpv (Q07.of (aC args 0)) (argI args 1)) (λX=> .int .u32 X) (λX=>[])
theorem Z9w:Q05 Tryz.prog Zfj:=Q0l drawn Q0j (.cons Qnj (.nil)) Tryz.func199 Tryz.call199 (λargs rows=>Q84 (Q07.of (aC args 0)) (argI args 1)) [] [] 2
def Q2s(m:Q00)(port:Int)(clock:Int):Tree (Q00×Int):=
let T1:Tree ((Q00×Int)):= .lv (Qpw m.A6 port) λ(x0:Q0c×Int)=> .lf ({B2:=m.B2,Mem:=m.Mem,A6:=x0.1,B0:=m.B0,B1:=m.B1,C4:=m.C4,A2:=m.A2,A1:=m.A1,A7:=m.A7,A9:=m.A9},x0.2); .br (port==0) T1 (.br (port==1) T1 (.br (port==2) (.lf (m,clock)) (.br (port==3) (.lv (Z0p m.B0) λ(x2:Int)=> .lf (m,x2)) (.br (port==4) (.lv (Qwc m.B1 port) λ(x3:Int)=> .lf (m,x3)) (.br (port==5) (.lv (Qwc m.B1 port) λ(x4:Int)=> .lf (m,x4)) (.br (port==6) (.lv (Qwc m.B1 port) λ(x5:Int)=> .lf (m,x5)) (.br (port==7) (.lv (Z1p m.C4 port) λ(x6:Int)=> .lf (m,x6)) (.br (port==8) (.lv (Z1p m.C4 port) λ(x7:Int)=> .lf (m,x7)) (.br (port==9) (.lv (Z1p m.C4 port) λ(x8:Int)=> .lf (m,x8)) (let T2:Tree ((Q00×Int)):= .an (Ql7 m.A2 port) (.lv (Qpv m.A2 port) λ(x9:Int)=> .lf (m,x9)); .br (port==10) T2 (.br (port==11) T2 (.lf (m,0)))))))))))))
def Q1i(m:Q00)(port:Int)(clock:Int):(Q00×Int):=(Q2s m port clock).m
abbrev Qbh(m:Q00)(port:Int)(clock:Int):Prop:=(Q2s m port clock).p
def Qth:Q0d:=Q0d.fz<|mkP 134 [] false [.agg Q00.sig, .one (.int .i64), .one (.int .u32)] [] (λargs rows=>Qbh (Q00.of (aC args 0)) (argI args 1) (argI args 2)) (λargs rows=>Q1i (Q00.of (aC args 0)) (argI args 1) (argI args 2)) (λX=> .tup [.agg (Q00.cells (X.1)), .int .u32 (X.2)]) (λX=>[])
theorem Qs8:Q05 Tryz.prog Qth:=Zo1<|Q0l drawn Q0j (.cons Zap (.cons Zjr (.cons Zmt (.cons qB (.cons Z9w (.nil)))))) Tryz.func134 Tryz.call134 (λargs rows=>Q2s (Q00.of (aC args 0)) (argI args 1) (argI args 2)) [.sl (.ints .u32) false] [] 2 (λ_ _ _=>by kernel_rfl) (λ_ _=>rfl) (λ_ _ h=>h) (λh=>by cases h)
def Qmc(t:Q0h)(deadline:Int):Tree Q0h:=
.lf ({D1:=deadline !=0,C7:=deadline,D5:=false})
def Qlb(t:Q0h)(deadline:Int):Q0h:=(Qmc t deadline).m
def Zii:Q0d:=mkR 200 [] true [.agg Q0h.sig, .one (.int .u32)] [] (λargs rows=>Qlb (Q0h.of (aC args 0)) (argI args 1)) (λX=> .agg (Q0h.cells X)) (λX=>[])
theorem Ze9:Q05 Tryz.prog Zii:=Q0z drawn Q0j (.nil) Tryz.func200 Tryz.call200 (λargs rows=>Qmc (Q0h.of (aC args 0)) (argI args 1)) [] [] 2
def Qel(m:(List Int))(frame:Int):Tree Bool:=
.lv (Q0v m) λ(x0:Int)=> .lf (decide (wrap u64 frame<wrap u64 x0))
def Qa1(m:(List Int))(frame:Int):Bool:=(Qel m frame).m
def Zb3:Q0d:=mkR 193 [] true [.one (.ints .u32), .one (.int .u32)] [] (λargs rows=>Qa1 (argL .u32 args 0) (argI args 1)) (λX=> .bool X) (λX=>[])
theorem Qrf:Q05 Tryz.prog Zb3:=Q0z drawn Q0j (.cons Q4d (.nil)) Tryz.func193 Tryz.call193 (λargs rows=>Qel (argL .u32 args 0) (argI args 1)) [] [] 2
def Q92(m:(List Int))(frame:Int):Tree Bool:=
.br (decide (frame>=0)) (.lv (Q0v m) λ(x0:Int)=> .lf (decide (frame<x0))) (.lf false)
def Q5p(m:(List Int))(frame:Int):Bool:=(Q92 m frame).m
def Qzx:Q0d:=mkR 208 [] true [.one (.ints .u32), .one (.int .i64)] [] (λargs rows=>Q5p (argL .u32 args 0) (argI args 1)) (λX=> .bool X) (λX=>[])
theorem Qlz:Q05 Tryz.prog Qzx:=Q0z drawn Q0j (.cons Q4d (.nil)) Tryz.func208 Tryz.call208 (λargs rows=>Q92 (argL .u32 args 0) (argI args 1)) [] [] 2
def Qni(words:(List Int))(z:(Int)×(List Int)):Prop:=0<=z.1/\z.1<=words.length/\(z.2.length:Int)=4*z.1
def Q7v(words:(List Int))(z:(Int)×(List Int)):Nat:=(words.length-z.1).toNat
def Q5b(words:(List Int)):Tree (List UInt8):=
.cn (Nat.blt 0 1&&Nat.beq 1 1&&List.all [D.int u8 0] D.plain&&decide ((0:Int)<=(0:Int)/\0<=wrap i64 (4*(words.length:Int))/\wrap i64 (4*(words.length:Int))<=9223372036854775807/\(↑1:Int)*wrap i64 (4*(words.length:Int))<=140737488355328)) (.lp inferInstance (Q7v words (0,[])+1) ((True/\((Els.Nil (Els.ints u32 words)\/rE (1:Nat))/\rE (words:List Int))/\rE ((words.length:Int):Int)/\rE (0:Int)/\True)/\rE ([]:List Int)/\True) (0,[]) λ(v0:Int×List Int)=> .br (decide (v0.1<(words.length:Int))) (.cn (Nat.beq 1 1&&Nat.blt 0 1&&decide (0<=v0.1/\v0.1<(words.length:Int))) (.cn (decide (1*(v0.2.length+4)<=140737488355328)) (let E1:=words.getD v0.1.toNat 0; .nx ((True/\((Els.Nil (Els.ints u32 words)\/rE (1:Nat))/\rE (words:List Int))/\rE ((words.length:Int):Int)/\rE ((wrap i64 (v0.1+1)):Int)/\True)/\rE ((v0.2++[wrap u8 (words.getD v0.1.toNat 0),wrap u8 (ishr u32 (words.getD v0.1.toNat 0) 8),wrap u8 (ishr u32 (words.getD v0.1.toNat 0) 16),wrap u8 (ishr u32 (words.getD v0.1.toNat 0) 24)]):List Int)/\True) (Sum.inl (wrap i64 (v0.1+1),v0.2++[wrap u8 E1,wrap u8 (ishr u32 E1 8),wrap u8 (ishr u32 E1 16),wrap u8 (ishr u32 E1 24)]))))) (.lf (Sum.inr (bytesOf v0.2))))
def Z4i(words:(List Int)):(List UInt8):=(Q5b words).m
def Q6(words:(List Int)):Prop:=
words.length<=1000000000000
theorem Z2g(words:(List Int))(hw:Q6 words):(Q5b words).p:=by
 simp only[Q6]at hw
 unfold Tree.p Q5b
 repeat'(first|refine w_lp (inv:=Qni words) (μ:=Q7v words) ?_ (Nat.lt_succ_self _) (λ_ _=> ?_)|exact trivial|refine w_br (λ_=> ?_) (λ_=> ?_)|refine w_cn ?_ ?_|refine w_an ?_ ?_|refine w_lv (λ_ _=> ?_)|refine w_nx ?_|refine w_lf ?_|refine And.intro ?_ ?_)
 all_goals((try simp only[Qni,Q7v]at*);exact fin0)
def Z69:LInv:={
 α:=(Int)×(List Int)
 F:=λst a=>([(3, .all 0),(10,(lk st 10)),(11,(lk st 11)),(12, .int i64 a.1)],[⟨false,5,1, .ints u8 a.2⟩])
 a0:=λst=>((lk st 12).toInt,(Q5q st.rows (rN st 3)))
 ex0:=λst=>[]++[(Q0r (lk st 3) (st.rows.length+0))]
 next:=λst=>((lk st 12).toInt,(Q5q st.rows (rN st 3)))
 ex:=λst=>[]++[(Q0r (lk st 3) (st.rows.length+0))]}
def Qz3:List (Nat×LInv):=[(3,Z69)]
def Zaj:Q0d:=mkP 209 [] true [.one (.ints .u32)] [] (λargs rows=>Q6 (argL .u32 args 0)) (λargs rows=>Z4i (argL .u32 args 0)) (λX=> .str X) (λX=>[])
theorem Z5b:Q05 Tryz.prog Zaj:=Q0l drawn Q0j (.nil) Tryz.func209 Tryz.call209 (λargs rows=>Q5b (argL .u32 args 0)) [] Qz3 3 (hp:=λargs rows h=>Z2g (argL .u32 args 0) h)
def Q45(m:(List Int))(frame:Int):Tree ((List UInt8)×Bool):=
.lv (Q5p m frame) λ(x0:Bool)=> .br (!x0) (.lf ([],false)) (.cn (Nat.beq 1 1&&Nat.blt 0 1&&decide (0<=wrap i64 (frame*32)/\wrap i64 (frame*32)<=wrap i64 (wrap i64 (frame*32)+32)/\wrap i64 (wrap i64 (frame*32)+32)<=(m.length:Int))) (let E1:=List.take (Int.toNat (wrap i64 (wrap i64 (frame*32)+32))-Int.toNat (wrap i64 (frame*32))) (List.drop (Int.toNat (wrap i64 (frame*32))) m); .an (Q6 E1) (.lv (Z4i E1) λ(x1:List UInt8)=> .lf (x1,true))))
def Q65(m:(List Int))(frame:Int):((List UInt8)×Bool):=(Q45 m frame).m
abbrev Q9s(m:(List Int))(frame:Int):Prop:=(Q45 m frame).p
def Zca:Q0d:=mkP 143 [] true [.one (.ints .u32), .one (.int .i64)] [] (λargs rows=>Q9s (argL .u32 args 0) (argI args 1)) (λargs rows=>Q65 (argL .u32 args 0) (argI args 1)) (λX=> .tup [.str (X.1), .bool (X.2)]) (λX=>[])
theorem Ql8:Q05 Tryz.prog Zca:=Q0l drawn Q0j (.cons Qlz (.cons Z5b (.nil))) Tryz.func143 Tryz.call143 (λargs rows=>Q45 (argL .u32 args 0) (argI args 1)) [] [] 2
def Qre(d0:Q0e)(at0:Int):Tree (Q06×Bool):=
.br (d0.C0 !=1) (.lf ({B6:=0,At:=0,C1:=0,C6:=[]},false)) (.br (d0.D8==1) (.lf ({B6:=3,At:=at0,C1:=d0.B7,C6:=[]},true)) (.br (d0.D8==2) (.lf ({B6:=4,At:=at0,C1:=d0.B7,C6:=d0.C3},true)) (.lf ({B6:=0,At:=0,C1:=0,C6:=[]},false))))
def Qka(d0:Q0e)(at0:Int):(Q06×Bool):=(Qre d0 at0).m
def Z6i:Q0d:=mkR 287 [] true [.agg Q0e.sig, .one (.int .u64)] [] (λargs rows=>Qka (Q0e.of (aC args 0)) (argI args 1)) (λX=> .tup [.agg (Q06.cells (X.1)), .bool (X.2)]) (λX=>[])
theorem Z4p:Q05 Tryz.prog Z6i:=Q0z drawn Q0j (.nil) Tryz.func287 Tryz.call287 (λargs rows=>Qre (Q0e.of (aC args 0)) (argI args 1)) [] [] 2
def Q85(d0:Q0e)(m:(List Int))(cmd:Int)(at0:Int):Tree (Q0e×(List Q06)):=
.br (d0.C0 !=0) (.lf (d0,[])) (let T1:Tree ((Q0e×(List Q06))):= .lf ({Blocks:=d0.Blocks,C1:=d0.C1,Frame:=d0.Frame,C0:=3,D8:=d0.D8,B7:=d0.B7,B3:=d0.B3,C3:=d0.C3},[]); .br (decide (d0.C1>=d0.Blocks)) T1 (.lv (Qa1 m d0.Frame) λ(x0:Bool)=> .br (!x0) T1 (.br (cmd==2) (.an (Q9s m (wrap i64 d0.Frame)) (.lv (Q65 m (wrap i64 d0.Frame)) λ(x1:List UInt8×Bool)=>let E2:=({Blocks:=d0.Blocks,C1:=d0.C1,Frame:=d0.Frame,C0:=1,D8:=cmd,B7:=d0.C1,B3:=d0.Frame,C3:=x1.1}:Q0e); .lv (Qka E2 at0) λ(x2:Q06×Bool)=> .lf (E2,[x2.1]))) (let E3:=({Blocks:=d0.Blocks,C1:=d0.C1,Frame:=d0.Frame,C0:=1,D8:=cmd,B7:=d0.C1,B3:=d0.Frame,C3:=[]}:Q0e); .lv (Qka E3 at0) λ(x3:Q06×Bool)=> .lf (E3,[x3.1])))))
def Qwd(d0:Q0e)(m:(List Int))(cmd:Int)(at0:Int):(Q0e×(List Q06)):=(Q85 d0 m cmd at0).m
abbrev Ql9(d0:Q0e)(m:(List Int))(cmd:Int)(at0:Int):Prop:=(Q85 d0 m cmd at0).p
def Zg2:Q0d:=mkP 251 [] true [.agg Q0e.sig, .one (.ints .u32), .one (.int .i64), .one (.int .u64)] [] (λargs rows=>Ql9 (Q0e.of (aC args 0)) (argL .u32 args 1) (argI args 2) (argI args 3)) (λargs rows=>Qwd (Q0e.of (aC args 0)) (argL .u32 args 1) (argI args 2) (argI args 3)) (λX=> .tup [.agg (Q0e.cells (X.1)), .sl 4 (.recs .apiOutput (X.2)) true]) (λX=>[])
theorem Zaa:Q05 Tryz.prog Zg2:=Q0l drawn Q0j (.cons Qrf (.cons Ql8 (.cons Z4p (.nil)))) Tryz.func251 Tryz.call251 (λargs rows=>Q85 (Q0e.of (aC args 0)) (argL .u32 args 1) (argI args 2) (argI args 3)) [.sl (.recs .apiOutput) true] [] 2
def Qdi(d0:Q0e)(m:(List Int))(port:Int)(v:Int)(at0:Int):Tree (Q0e×(List Q06)):=
.br (port==4) (.lf ({Blocks:=d0.Blocks,C1:=v,Frame:=d0.Frame,C0:=d0.C0,D8:=d0.D8,B7:=d0.B7,B3:=d0.B3,C3:=d0.C3},[])) (.br (port==5) (.lf ({Blocks:=d0.Blocks,C1:=d0.C1,Frame:=v,C0:=d0.C0,D8:=d0.D8,B7:=d0.B7,B3:=d0.B3,C3:=d0.C3},[])) (.br (port==6) (let T1:Tree ((Q0e×(List Q06))):= .an (Ql9 d0 m (wrap i64 v) at0) (.lv (Qwd d0 m (wrap i64 v) at0) λ(x0:Q0e×List Q06)=> .lf (x0.1,x0.2)); .br (v==1) T1 (.br (v==2) T1 (.br (v==0) (.lv (Q9r d0) λ(x2:Bool)=> .br x2 (.lf ({Blocks:=d0.Blocks,C1:=d0.C1,Frame:=d0.Frame,C0:=0,D8:=d0.D8,B7:=d0.B7,B3:=d0.B3,C3:=d0.C3},[])) (.lf (d0,[]))) (.lf (d0,[]))))) (.lf (d0,[]))))
def Z0e(d0:Q0e)(m:(List Int))(port:Int)(v:Int)(at0:Int):(Q0e×(List Q06)):=(Qdi d0 m port v at0).m
abbrev Qos(d0:Q0e)(m:(List Int))(port:Int)(v:Int)(at0:Int):Prop:=(Qdi d0 m port v at0).p
def Zog:Q0d:=mkP 201 [] true [.agg Q0e.sig, .one (.ints .u32), .one (.int .i64), .one (.int .u32), .one (.int .u64)] [] (λargs rows=>Qos (Q0e.of (aC args 0)) (argL .u32 args 1) (argI args 2) (argI args 3) (argI args 4)) (λargs rows=>Z0e (Q0e.of (aC args 0)) (argL .u32 args 1) (argI args 2) (argI args 3) (argI args 4)) (λX=> .tup [.agg (Q0e.cells (X.1)), .sl 4 (.recs .apiOutput (X.2)) true]) (λX=>[])
theorem Zjh:Q05 Tryz.prog Zog:=Q0l drawn Q0j (.cons Zaa (.cons Qpk (.nil))) Tryz.func201 Tryz.call201 (λargs rows=>Qdi (Q0e.of (aC args 0)) (argL .u32 args 1) (argI args 2) (argI args 3) (argI args 4)) [.sl (.recs .apiOutput) true] [] 2
def Qgy(m:(List Int))(frame:Int):Tree Bool:=
.lv (Q0v m) λ(x0:Int)=> .lf (decide (wrap u64 frame<wrap u64 x0))
def Qau(m:(List Int))(frame:Int):Bool:=(Qgy m frame).m
def Ze3:Q0d:=mkR 194 [] true [.one (.ints .u32), .one (.int .u32)] [] (λargs rows=>Qau (argL .u32 args 0) (argI args 1)) (λX=> .bool X) (λX=>[])
theorem Qne:Q05 Tryz.prog Ze3:=Q0z drawn Q0j (.cons Q4d (.nil)) Tryz.func194 Tryz.call194 (λargs rows=>Qgy (argL .u32 args 0) (argI args 1)) [] [] 2
def Qde(n:Q0o)(m:(List Int))(at0:Int):Tree (List Q06):=
.br (decide (n.E0<1)) (.lf ([])) (.br (decide (n.E0>128)) (.lf ([])) (.lv (Qau m n.Frame) λ(x0:Bool)=> .br (!x0) (.lf ([])) (.an (Q9s m (wrap i64 n.Frame)) (.lv (Q65 m (wrap i64 n.Frame)) λ(x1:List UInt8×Bool)=> .cn (decide ((0:Int)<=(0:Int)/\0<=n.E0/\n.E0<=(x1.1.length:Int))) (.lf ([{B6:=2,At:=at0,C1:=0,C6:=List.take (Int.toNat n.E0-Int.toNat 0) (List.drop (Int.toNat 0) x1.1)}]))))))
def Z9j(n:Q0o)(m:(List Int))(at0:Int):(List Q06):=(Qde n m at0).m
abbrev Qou(n:Q0o)(m:(List Int))(at0:Int):Prop:=(Qde n m at0).p
def Zn7:Q0d:=mkP 252 [] true [.agg Q0o.sig, .one (.ints .u32), .one (.int .u64)] [] (λargs rows=>Qou (Q0o.of (aC args 0)) (argL .u32 args 1) (argI args 2)) (λargs rows=>Z9j (Q0o.of (aC args 0)) (argL .u32 args 1) (argI args 2)) (λX=> .sl 4 (.recs .apiOutput X) true) (λX=>[])
theorem Zhf:Q05 Tryz.prog Zn7:=Q0l drawn Q0j (.cons Qne (.cons Ql8 (.nil))) Tryz.func252 Tryz.call252 (λargs rows=>Qde (Q0o.of (aC args 0)) (argL .u32 args 1) (argI args 2)) [.sl (.recs .apiOutput) true] [] 2
def Qg4(n:Q0o)(m:(List Int))(port:Int)(v:Int)(at0:Int):Tree (Q0o×(List Q06)):=
.br (port==7) (.lf ({Frame:=v,E0:=n.E0,C5:=n.C5,B9:=n.B9,B8:=n.B8,F1:=n.F1},[])) (.br (port==8) (.lf ({Frame:=n.Frame,E0:=v,C5:=n.C5,B9:=n.B9,B8:=n.B8,F1:=n.F1},[])) (.br (port==9) (.br (v==1) (.an (Qou n m at0) (.lv (Z9j n m at0) λ(x0:List Q06)=> .lf (n,x0))) (.br (v==2) (.lv (Qau m n.Frame) λ(x1:Bool)=> .br x1 (.br (!n.C5) (.br (!n.B8) (.lf ({Frame:=n.Frame,E0:=n.E0,C5:=true,B9:=n.Frame,B8:=n.B8,F1:=n.F1},[])) (.lf (n,[]))) (.lf (n,[]))) (.lf (n,[]))) (.br (v==0) (.lf ({Frame:=n.Frame,E0:=n.E0,C5:=n.C5,B9:=n.B9,B8:=false,F1:=0},[])) (.lf (n,[]))))) (.lf (n,[]))))
def Zbu(n:Q0o)(m:(List Int))(port:Int)(v:Int)(at0:Int):(Q0o×(List Q06)):=(Qg4 n m port v at0).m
abbrev Qsl(n:Q0o)(m:(List Int))(port:Int)(v:Int)(at0:Int):Prop:=(Qg4 n m port v at0).p
def xB:Q0d:=mkP 202 [] true [.agg Q0o.sig, .one (.ints .u32), .one (.int .i64), .one (.int .u32), .one (.int .u64)] [] (λargs rows=>Qsl (Q0o.of (aC args 0)) (argL .u32 args 1) (argI args 2) (argI args 3) (argI args 4)) (λargs rows=>Zbu (Q0o.of (aC args 0)) (argL .u32 args 1) (argI args 2) (argI args 3) (argI args 4)) (λX=> .tup [.agg (Q0o.cells (X.1)), .sl 4 (.recs .apiOutput (X.2)) true]) (λX=>[])
theorem Zod:Q05 Tryz.prog xB:=Q0l drawn Q0j (.cons Zhf (.cons Qne (.nil))) Tryz.func202 Tryz.call202 (λargs rows=>Qg4 (Q0o.of (aC args 0)) (argL .u32 args 1) (argI args 2) (argI args 3) (argI args 4)) [.sl (.recs .apiOutput) true] [] 2
def Qbj(m:(List Int))(frame:Int)(s:(List UInt8))(z:(Int)×(List Int)):Nat:=(32-z.1).toNat
def Q2h(m:(List Int))(frame:Int)(s:(List UInt8)):Tree ((List Int)×Bool):=
.an (Q09 m) (.lv (Q03 m) λ(x0:List Int)=> .lv (Q5p m frame) λ(x1:Bool)=> .br (!x1) (.lf (x0,false)) (.br ((s.length:Int) !=(128:Int)) (.lf (x0,false)) (.lp inferInstance (Qbj m frame s (0,x0)+1) ((rE (s:List UInt8)/\True/\rE ((wrap i64 (frame*32)):Int)/\rE (0:Int)/\True)/\rE (x0:List Int)/\True) (0,x0) λ(v0:Int×List Int)=> .br (decide (v0.1<32)) (.cn (decide (0<=wrap i64 (4*v0.1)/\wrap i64 (4*v0.1)<=wrap i64 (wrap i64 (4*v0.1)+4)/\wrap i64 (wrap i64 (4*v0.1)+4)<=(s.length:Int))) (let E1:=List.take (Int.toNat (wrap i64 (wrap i64 (4*v0.1)+4))-Int.toNat (wrap i64 (4*v0.1))) (List.drop (Int.toNat (wrap i64 (4*v0.1))) s); .cn (decide ((0:Int)<=(0:Int)/\0<(↑(List.length E1):Int))) (.cn (decide ((0:Int)<=(1:Int)/\1<(↑(List.length E1):Int))) (.cn (decide ((0:Int)<=(2:Int)/\2<(↑(List.length E1):Int))) (.cn (decide ((0:Int)<=(3:Int)/\3<(↑(List.length E1):Int))) (.cn (Nat.beq 1 1&&Nat.blt 0 1&&decide (0<=wrap i64 (wrap i64 (frame*32)+v0.1)/\wrap i64 (wrap i64 (frame*32)+v0.1)<(v0.2.length:Int))) (.nx ((rE (s:List UInt8)/\True/\rE ((wrap i64 (frame*32)):Int)/\rE ((wrap i64 (v0.1+1)):Int)/\True)/\rE ((List.set v0.2 (Int.toNat (wrap i64 (wrap i64 (frame*32)+v0.1))) (ior u32 (ior u32 (ior u32 (wrap u32 (↑(UInt8.toNat (List.getD (List.take (Int.toNat (wrap i64 (wrap i64 (4*v0.1)+4))-Int.toNat (wrap i64 (4*v0.1))) (List.drop (Int.toNat (wrap i64 (4*v0.1))) s)) (Int.toNat 0) (0:UInt8))):Int)) (ishl u32 (wrap u32 (↑(UInt8.toNat (List.getD (List.take (Int.toNat (wrap i64 (wrap i64 (4*v0.1)+4))-Int.toNat (wrap i64 (4*v0.1))) (List.drop (Int.toNat (wrap i64 (4*v0.1))) s)) (Int.toNat 1) (0:UInt8))):Int)) 8)) (ishl u32 (wrap u32 (↑(UInt8.toNat (List.getD (List.take (Int.toNat (wrap i64 (wrap i64 (4*v0.1)+4))-Int.toNat (wrap i64 (4*v0.1))) (List.drop (Int.toNat (wrap i64 (4*v0.1))) s)) (Int.toNat 2) (0:UInt8))):Int)) 16)) (ishl u32 (wrap u32 (↑(UInt8.toNat (List.getD (List.take (Int.toNat (wrap i64 (wrap i64 (4*v0.1)+4))-Int.toNat (wrap i64 (4*v0.1))) (List.drop (Int.toNat (wrap i64 (4*v0.1))) s)) (Int.toNat 3) (0:UInt8))):Int)) 24))):List Int)/\True) (Sum.inl (wrap i64 (v0.1+1),List.set v0.2 (Int.toNat (wrap i64 (wrap i64 (frame*32)+v0.1))) (ior u32 (ior u32 (ior u32 (wrap u32 (↑(UInt8.toNat (List.getD E1 (Int.toNat 0) (0:UInt8))):Int)) (ishl u32 (wrap u32 (↑(UInt8.toNat (List.getD E1 (Int.toNat 1) (0:UInt8))):Int)) 8)) (ishl u32 (wrap u32 (↑(UInt8.toNat (List.getD E1 (Int.toNat 2) (0:UInt8))):Int)) 16)) (ishl u32 (wrap u32 (↑(UInt8.toNat (List.getD E1 (Int.toNat 3) (0:UInt8))):Int)) 24))))))))))) (.lf (Sum.inr (v0.2,true))))))
def Q2w(m:(List Int))(frame:Int)(s:(List UInt8)):((List Int)×Bool):=(Q2h m frame s).m
abbrev Q78(m:(List Int))(frame:Int)(s:(List UInt8)):Prop:=(Q2h m frame s).p
def Qxg:LInv:={
 α:=(Int)×(List Int)
 F:=λst a=>([(2,(lk st 2)),(8, .all 0),(9,(lk st 9)),(26, .int i64 a.1)],[⟨false,25,1, .ints u32 a.2⟩])
 a0:=λst=>((lk st 26).toInt,(Q5q st.rows (rN st 8)))
 ex0:=λst=>[]++[(Q0r (lk st 8) (st.rows.length+0))]
 next:=λst=>((lk st 26).toInt,(Q5q st.rows (rN st 8)))
 ex:=λst=>[]++[(Q0r (lk st 8) (st.rows.length+0))]}
def Qsc:List (Nat×LInv):=[(6,Qxg)]
def Z09:Q0d:=mkP 144 [] true [.one (.ints .u32), .one (.int .i64), .one (.str)] [] (λargs rows=>Q78 (argL .u32 args 0) (argI args 1) (argS args 2)) (λargs rows=>Q2w (argL .u32 args 0) (argI args 1) (argS args 2)) (λX=> .tup [.all 0, .bool (X.2)]) (λX=>[⟨false,25,1, .ints .u32 (X.1)⟩])
theorem Qfd:Q05 Tryz.prog Z09:=Q0l drawn Q0j (.cons Q0t (.cons Qlz (.nil))) Tryz.func144 Tryz.call144 (λargs rows=>Q2h (argL .u32 args 0) (argI args 1) (argS args 2)) [.row 25 1 (.ints .u32)] Qsc 3
def strings_Repeat(s:(List UInt8))(count:Int):(List UInt8):=
Lib.repeatL s count.toNat
def Q4u(s:(List UInt8))(count:Int):Prop:=
0<=count/\count<=9223372036854775807/\s.length*count.toNat<=140737488355328
def Qip(s:(List UInt8))(count:Int):List D:=[.str s, .int .i64 count]
def Qiy(s:(List UInt8))(count:Int):List Row:=[]
def Qe2(X:(List UInt8)):D:= .str X
def Qeq(X:(List UInt8)):List Row:=[]
def Qkn:List PT:=[.one (.str), .one (.int .i64)]
def Qij:List RT:=[]
def Qv(args:List D)(rows:List Row):(List UInt8):=strings_Repeat (argS args 0) (argI args 1)
def Quz(args:List D)(rows:List Row):Prop:=Q4u (argS args 0) (argI args 1)
def Qzn:Q0d:=mkP 253 [] true Qkn Qij Quz Qv Qe2 Qeq
theorem Qqt(s:(List UInt8))(count:Int)(hw:Q4u s count):Q4l Tryz.prog 253 (Qip s count) (Qiy s count) (Qe2 (strings_Repeat s count)) (Qeq (strings_Repeat s count)):=by
 exact qq Tryz.strings_Repeat hw.1 hw.2.1 hw.2.2
set_option maxRecDepth 100000 in
theorem Qrv(args:List D)(rows:List Row):Qgr Qkn args 0=Qip (argS args 0) (argI args 1):=by kernel_rfl
set_option maxRecDepth 100000 in
theorem Qqr(args:List D)(rows:List Row):Q6f Qij rows 0=Qiy (argS args 0) (argI args 1):=by kernel_rfl
set_option maxRecDepth 100000 in
theorem Qx8(X:(List UInt8)):(ffB (Qe2 X)&&ffBR (Qeq X))=true:=by kernel_rfl
theorem Qxb:Q05 Tryz.prog Qzn:=Qyn Tryz.call253 (λargs rows hp=>by rw[Qrv args rows,Qqr args rows];exact Qqt (argS args 0) (argI args 1) hp) (λ_ X=>Qx8 X)
def Q2y(b:Q07)(m:(List Int))(port:Int)(v:Int):Tree (Q07×(List Int)):=
let T1:Tree ((Q07×(List Int))):= .an (Q09 m) (.lv (Q03 m) λ(x0:List Int)=> .lf (b,x0)); .br (decide (v>=32)) T1 (.cn (decide (0<=v)) (.br (port==10) (.lv (Q0v m) λ(x1:Int)=> .br (decide (wrap i64 v<x1)) (.br (iand u32 b.C2 (ishl u32 1 v)==0) (.an (Q4u [(0:UInt8)] 128) (.lv (strings_Repeat [(0:UInt8)] 128) λ(x2:List UInt8)=> .an (Q78 m (wrap i64 v) x2) (.lv (Q2w m (wrap i64 v) x2) λ(x3:List Int×Bool)=> .lf ({C8:=b.C8,C2:=ior u32 b.C2 (ishl u32 1 v)},x3.1)))) T1) T1) (.br (port==11) (.an (Q09 m) (.lv (Q03 m) λ(x6:List Int)=> .lf ({C8:=b.C8,C2:=Qhp u32 b.C2 (ishl u32 1 v)},x6))) T1)))
def Q8v(b:Q07)(m:(List Int))(port:Int)(v:Int):(Q07×(List Int)):=(Q2y b m port v).m
abbrev Qja(b:Q07)(m:(List Int))(port:Int)(v:Int):Prop:=(Q2y b m port v).p
def Zac:Q0d:=mkP 203 [] true [.agg Q07.sig, .one (.ints .u32), .one (.int .i64), .one (.int .u32)] [] (λargs rows=>Qja (Q07.of (aC args 0)) (argL .u32 args 1) (argI args 2) (argI args 3)) (λargs rows=>Q8v (Q07.of (aC args 0)) (argL .u32 args 1) (argI args 2) (argI args 3)) (λX=> .tup [.agg (Q07.cells (X.1)), .all 0]) (λX=>[⟨false,25,1, .ints .u32 (X.2)⟩])
theorem Z5g:Q05 Tryz.prog Zac:=Q0l drawn Q0j (.cons Q0t (.cons Q4d (.cons Qfd (.cons Qxb (.nil))))) Tryz.func203 Tryz.call203 (λargs rows=>Q2y (Q07.of (aC args 0)) (argL .u32 args 1) (argI args 2) (argI args 3)) [.row 25 1 (.ints .u32)] [] 2
def Q2f(m:Q00)(port:Int)(v:Int)(at0:Int):Tree (Q00×(List Q06)):=
.br (port==0) (.lf (m,[{B6:=1,At:=at0,C1:=0,C6:=[(λ(n:Int)=>UInt8.ofNat n.toNat) (wrap u8 v)]}])) (.br (port==3) (.lv (Qlb m.B0 v) λ(x0:Q0h)=> .lf ({B2:=m.B2,Mem:=m.Mem,A6:=m.A6,B0:=x0,B1:=m.B1,C4:=m.C4,A2:=m.A2,A1:=m.A1,A7:=m.A7,A9:=m.A9},[])) (let T1:Tree ((Q00×(List Q06))):= .an (Qos m.B1 m.Mem port v at0) (.lv (Z0e m.B1 m.Mem port v at0) λ(x1:Q0e×List Q06)=> .lf ({B2:=m.B2,Mem:=m.Mem,A6:=m.A6,B0:=m.B0,B1:=x1.1,C4:=m.C4,A2:=m.A2,A1:=m.A1,A7:=m.A7,A9:=m.A9},x1.2)); .br (port==4) T1 (.br (port==5) T1 (.br (port==6) T1 (let T2:Tree ((Q00×(List Q06))):= .an (Qsl m.C4 m.Mem port v at0) (.lv (Zbu m.C4 m.Mem port v at0) λ(x4:Q0o×List Q06)=> .lf ({B2:=m.B2,Mem:=m.Mem,A6:=m.A6,B0:=m.B0,B1:=m.B1,C4:=x4.1,A2:=m.A2,A1:=m.A1,A7:=m.A7,A9:=m.A9},x4.2)); .br (port==7) T2 (.br (port==8) T2 (.br (port==9) T2 (let T3:Tree ((Q00×(List Q06))):= .an (Qja m.A2 m.Mem port v) (.lv (Q8v m.A2 m.Mem port v) λ(x7:Q07×List Int)=> .lf ({B2:=m.B2,Mem:=x7.2,A6:=m.A6,B0:=m.B0,B1:=m.B1,C4:=m.C4,A2:=x7.1,A1:=m.A1,A7:=m.A7,A9:=m.A9},[])); .br (port==10) T3 (.br (port==11) T3 (.lf (m,[])))))))))))
def Q2j(m:Q00)(port:Int)(v:Int)(at0:Int):(Q00×(List Q06)):=(Q2f m port v at0).m
abbrev Qai(m:Q00)(port:Int)(v:Int)(at0:Int):Prop:=(Q2f m port v at0).p
def Qs4:Q0d:=Q0d.fz<|mkP 135 [] false [.agg Q00.sig, .one (.int .i64), .one (.int .u32), .one (.int .u64)] [] (λargs rows=>Qai (Q00.of (aC args 0)) (argI args 1) (argI args 2) (argI args 3)) (λargs rows=>Q2j (Q00.of (aC args 0)) (argI args 1) (argI args 2) (argI args 3)) (λX=> .tup [.agg (Q00.cells (X.1)), .sl 4 (.recs .apiOutput (X.2)) true]) (λX=>[])
theorem Qqv:Q05 Tryz.prog Qs4:=Zo1<|Q0l drawn Q0j (.cons Ze9 (.cons Zjh (.cons Zod (.cons Z5g (.nil))))) Tryz.func135 Tryz.call135 (λargs rows=>Q2f (Q00.of (aC args 0)) (argI args 1) (argI args 2) (argI args 3)) [.sl (.ints .u32) false, .sl (.recs .apiOutput) true] [] 2 (λ_ _ _=>by kernel_rfl) (λ_ _=>rfl) (λ_ _ h=>h) (λh=>by cases h)
def Q7l(m:Q00)(clock:Int):Tree (Q00×(List Q06)):=
.an (Q09 m.Mem) (.lv (Q03 m.Mem) λ(x0:List Int)=>let E1:=({B2:=m.B2,Mem:=x0,A6:=m.A6,B0:=m.B0,B1:=m.B1,C4:=m.C4,A2:=m.A2,A1:=m.A1,A7:=m.A7,A9:=m.A9}:Q00); .an (Qci E1) (.lv (Q4m E1) λ(x1:Bool)=> .br (!x1) (.lf (E1,[])) (.an (Qaw E1) (.lv (Q11 E1) λ(x2:Q00)=> .an (Qkd x2.B2 x2.Mem) (.lv (Qbe x2.B2 x2.Mem) λ(x3:Q02×List Int×Q13)=>let E2:=({B2:=x3.1,Mem:=x3.2.1,A6:=x2.A6,B0:=x2.B0,B1:=x2.B1,C4:=x2.C4,A2:=x2.A2,A1:=x2.A1,A7:=x2.A7,A9:=x2.A9}:Q00); .br (x3.2.2.B6==1) (.an (Qbh E2 x3.2.2.D0 clock) (.lv (Q1i E2 x3.2.2.D0 clock) λ(x4:Q00×Int)=> .br (x3.2.2.D9 !=0) (.cn (Nat.blt 0 1&&decide (0<=x3.2.2.D9/\x3.2.2.D9<(↑16:Int))) (.lf ({B2:={X:=A16.of 0 (List.set (A16.l x4.1.B2.X) x3.2.2.D9.toNat x4.2),Pc:=x4.1.B2.Pc,B5:=x4.1.B2.B5},Mem:=x4.1.Mem,A6:=x4.1.A6,B0:=x4.1.B0,B1:=x4.1.B1,C4:=x4.1.C4,A2:=x4.1.A2,A1:=wrap u64 (x4.1.A1+1),A7:=x4.1.A7,A9:=x4.1.A9},[]))) (.lf ({B2:=x4.1.B2,Mem:=x4.1.Mem,A6:=x4.1.A6,B0:=x4.1.B0,B1:=x4.1.B1,C4:=x4.1.C4,A2:=x4.1.A2,A1:=wrap u64 (x4.1.A1+1),A7:=x4.1.A7,A9:=x4.1.A9},[])))) (.br (x3.2.2.B6==2) (.an (Qai E2 x3.2.2.D0 x3.2.2.Value m.A1) (.lv (Q2j E2 x3.2.2.D0 x3.2.2.Value m.A1) λ(x5:Q00×List Q06)=> .lf ({B2:=x5.1.B2,Mem:=x5.1.Mem,A6:=x5.1.A6,B0:=x5.1.B0,B1:=x5.1.B1,C4:=x5.1.C4,A2:=x5.1.A2,A1:=wrap u64 (x5.1.A1+1),A7:=x5.1.A7,A9:=x5.1.A9},x5.2))) (.br (x3.2.2.B6==3) (.lf ({B2:=x3.1,Mem:=x3.2.1,A6:=x2.A6,B0:=x2.B0,B1:=x2.B1,C4:=x2.C4,A2:=x2.A2,A1:=wrap u64 (x2.A1+1),A7:=true,A9:=x2.A9},[])) (.br (x3.2.2.B6==4) (.lf ({B2:=x3.1,Mem:=x3.2.1,A6:=x2.A6,B0:=x2.B0,B1:=x2.B1,C4:=x2.C4,A2:=x2.A2,A1:=wrap u64 (x2.A1+1),A7:=x2.A7,A9:=true},[])) (.lf ({B2:=x3.1,Mem:=x3.2.1,A6:=x2.A6,B0:=x2.B0,B1:=x2.B1,C4:=x2.C4,A2:=x2.A2,A1:=wrap u64 (x2.A1+1),A7:=x2.A7,A9:=x2.A9},[]))))))))))
def Q3l(m:Q00)(clock:Int):(Q00×(List Q06)):=(Q7l m clock).m
abbrev Q3m(m:Q00)(clock:Int):Prop:=(Q7l m clock).p
def Z6u:Q0d:=Q0d.fz<|mkP 39 [] false [.agg Q00.sig, .one (.int .u32)] [] (λargs rows=>Q3m (Q00.of (aC args 0)) (argI args 1)) (λargs rows=>Q3l (Q00.of (aC args 0)) (argI args 1)) (λX=> .tup [.agg (Q00.cells (X.1)), .sl 4 (.recs .apiOutput (X.2)) false]) (λX=>[])
theorem Qoh:Q05 Tryz.prog Z6u:=Zo1<|Q0l drawn Q0j (.cons Q0t (.cons Qor (.cons Qnm (.cons Z4b (.cons Qs8 (.cons Qqv (.nil))))))) Tryz.func39 Tryz.call39 (λargs rows=>Q7l (Q00.of (aC args 0)) (argI args 1)) [.sl (.ints .u32) false, .sl (.recs .apiOutput) false] [] 2 (λ_ _ _=>by kernel_rfl) (λ_ _=>rfl) (λ_ _ h=>h) (λh=>by cases h)
