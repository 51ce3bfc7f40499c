import Derived.Test.YtmalmklaonainaaGreatReplayFollowsFh
import Derived.Test.YtmalmklaonainaaGreatReplayFollowsYx
open List renaming take->cW, drop->cX, length->dG, set->dC, getD->aK
open Int renaming toNat->dB, tmod->dA
open UInt8 renaming toNat->eS
open Nat renaming blt->bT, beq->bS, lt_succ_self->cK
set_option maxRecDepth 100000
set_option linter.all false
namespace Go.Proofs.YtmalmklaonainaaGreat
open Go Go.GD Go.IntKind
noncomputable section
def Q45(m:Q00):Tree Bool:=
.an (Q3g m) (.lv (Q1a m) λ(x0:Bool)=> .br x0 (.br (!m.A9) (.an (Q3q m) (.lv (Q37 m) λ(x1:Bool)=> .br (!x1) (.lf (decide (m.A1<1152921504606846976))) (.lf false))) (.lf false)) (.lf false))
def Q2h m:=(Q45 m).m
abbrev Qbx m:=(Q45 m).p
def Z4k:Q0e:=mT 112 [] true [.agg Q00.sig] [] (λa r=>Q45 (Q00.of (aC a 0))) (λX=> .bool X) (λX=>[])
theorem Qof:Q06 pG Z4k:=oT (.cons Q8o (.cons Qdy (.nil))) Tryz.func112 Tryz.call112 [] [] 2
def Qc5(m:Q00)(z:(Int)):Nat:=(5-z).toNat
def Q31(m:Q00):Tree Q00:=
let E1:=({B1:=m.B1,Mem:=m.Mem,A4:=m.A4,B0:=m.B0,B2:=m.B2,C6:=m.C6,A2:=m.A2,A1:=m.A1,A7:=false,A9:=m.A9}:Q00); .br (iand u32 m.B1.B5.a0 (2:Int)==(0:Int)) (.lf (E1)) (.an (Qcn E1) (.lv (Q5x E1) λ(x0:Int)=> .lp inferInstance (Qc5 m 0+1) ((rZ/\rZ/\rE (x0:Int)/\rE (0:Int)/\True)/\(rE m.B1.X.a0/\rE m.B1.X.a1/\rE m.B1.X.a2/\rE m.B1.X.a3/\rE m.B1.X.a4/\rE m.B1.X.a5/\rE m.B1.X.a6/\rE m.B1.X.a7/\rE m.B1.X.a8/\rE m.B1.X.a9/\rE m.B1.X.a10/\rE m.B1.X.a11/\rE m.B1.X.a12/\rE m.B1.X.a13/\rE m.B1.X.a14/\rE m.B1.X.a15/\rE m.B1.Pc/\rE m.B1.B5.a0/\rE m.B1.B5.a1/\rE m.B1.B5.a2/\rE m.B1.B5.a3/\rE m.B1.B5.a4/\rE m.B1.B5.a5/\rE m.B1.B5.a6/\rE m.B1.B5.a7/\((Els.Nil (Els.ints u32 m.Mem)\/rE (1:Nat))/\rE m.Mem)/\rE m.A4.D3/\rE m.B0.D2/\rE m.B0.C8/\rE m.B0.D5/\rE m.B2.Blocks/\rE m.B2.C2/\rE m.B2.Frame/\rE m.B2.C0/\rE m.B2.D8/\rE m.B2.B7/\rE m.B2.B3/\rE m.B2.C4/\rE m.C6.Frame/\rE m.C6.E0/\rE m.C6.C7/\rE m.C6.B9/\rE m.C6.B8/\rE m.C6.F1/\rE m.A2.D0/\rE m.A2.C3/\rE m.A1/\rE (false:Bool)/\rE m.A9/\True)/\(mE zM True True)/\True) 0 λ(v0:Int)=> .br (decide (v0<5)) (.cn (decide (0<=v0)) (.br (iand u32 x0 (ishl u32 1 v0) !=0) (.lv (Q4s m.B1 (wrap i64 (16+v0)) 0) λ(x1:Q05)=> .lf (Sum.inr {B1:=x1,Mem:=m.Mem,A4:=m.A4,B0:=m.B0,B2:=m.B2,C6:=m.C6,A2:=m.A2,A1:=m.A1,A7:=false,A9:=m.A9})) (.nx ((rZ/\rZ/\rE (x0:Int)/\rE ((wrap i64 (v0+1)):Int)/\True)/\(rE m.B1.X.a0/\rE m.B1.X.a1/\rE m.B1.X.a2/\rE m.B1.X.a3/\rE m.B1.X.a4/\rE m.B1.X.a5/\rE m.B1.X.a6/\rE m.B1.X.a7/\rE m.B1.X.a8/\rE m.B1.X.a9/\rE m.B1.X.a10/\rE m.B1.X.a11/\rE m.B1.X.a12/\rE m.B1.X.a13/\rE m.B1.X.a14/\rE m.B1.X.a15/\rE m.B1.Pc/\rE m.B1.B5.a0/\rE m.B1.B5.a1/\rE m.B1.B5.a2/\rE m.B1.B5.a3/\rE m.B1.B5.a4/\rE m.B1.B5.a5/\rE m.B1.B5.a6/\rE m.B1.B5.a7/\((Els.Nil (Els.ints u32 m.Mem)\/rE (1:Nat))/\rE m.Mem)/\rE m.A4.D3/\rE m.B0.D2/\rE m.B0.C8/\rE m.B0.D5/\rE m.B2.Blocks/\rE m.B2.C2/\rE m.B2.Frame/\rE m.B2.C0/\rE m.B2.D8/\rE m.B2.B7/\rE m.B2.B3/\rE m.B2.C4/\rE m.C6.Frame/\rE m.C6.E0/\rE m.C6.C7/\rE m.C6.B9/\rE m.C6.B8/\rE m.C6.F1/\rE m.A2.D0/\rE m.A2.C3/\rE m.A1/\rE (false:Bool)/\rE m.A9/\True)/\(mE zM True True)/\True) (Sum.inl (wrap i64 (v0+1)))))) (.lf (Sum.inr E1))))
def Q0s m:=(Q31 m).m
abbrev Qap m:=(Q31 m).p
def Qz4:LInv:={
 α:=(Int)
 F:=λst a=>([(1, .ptr 0 0 0),(2, .ptr 1 0 0),(3,(lk st 3)),(15, .int i64 a)],[⟨true,43,49, .gen [mB (cT st 1)]⟩,⟨true,43,49, .gen [mB (cT st 2)]⟩])
 a0:=λst=>(lk st 15).toInt
 ex0:=λst=>[]++[(rX st 1 0),(rX st 2 1)]}
def Qsz:List (Nat×LInv):=[(6,Qz4)]
def Z41:Q0e:=Q0e.fz<|mkP 113 [] false [.agg Q00.sig] [] (λa r=>Qap (Q00.of (aC a 0))) (λa r=>Q0s (Q00.of (aC a 0))) (λX=> .agg (Q00.cells X)) (λX=>[])
theorem Qn5:Q06 pG Z41:=Zfi<|Q0p drawn Q0l (.cons Qk (.cons Qiu (.nil))) Tryz.func113 Tryz.call113 (λa r=>Q31 (Q00.of (aC a 0))) [.sl (.ints .u32) false] Qsz 3 (λ_ _ _=>by kernel_rfl) (λ_ _=>rfl) (λ_ _ h=>h) (λh=>by cases h)
def Q9x(c:Q0d)(port:Int):Tree (Q0d×Int):=
.br (port==0) (.br (decide (c.D3=[])) (.lf (c,4294967295)) (.cn (decide ((0:Int)<=(0:Int)/\0<(c.D3.length:Int))) (.cn (decide ((0:Int)<=(1:Int)/\1<=(c.D3.length:Int)/\(c.D3.length:Int)<=(c.D3.length:Int))) (.lf ({D3:=cW (dB (c.D3.length:Int)-dB 1) (cX (dB 1) c.D3)},wrap u32 (↑(eS (c.D3.getD (dB 0) (0:UInt8))):Int)))))) (.br (port==1) (.lf (c,wrap u32 (c.D3.length:Int))) (.lf (c,0)))
def Qpq c port:=(Q9x c port).m
theorem Z5(c:Q0d)(port:Int):(Q9x c port).p:=by
 unfold Tree.p Q9x
 repeat'(first|exact trivial|refine w_br (λ_=> ?_) (λ_=> ?_)|refine w_cn ?_ ?_|refine w_an ?_ ?_|refine w_lv (λ_ _=> ?_)|refine w_nx ?_|refine w_lf ?_|refine And.intro ?_ ?_)
 all_goals(exact fin0)
def Zf7:Q0e:=mS 195 [] true [.agg Q0d.sig, .one (.int .i64)] [] (λa r=>Q9x (Q0d.of (aC a 0)) (argI a 1)) (λX=> .tup [.agg (Q0d.cells (X.1)), .int .u32 (X.2)]) (λX=>[])
theorem Zax:Q06 pG Zf7:=oS (.nil) Tryz.func195 Tryz.call195 [] [] 2 (λ_ _ _=>by kernel_rfl) (λa r=>Z5 (Q0d.of (aC a 0)) (argI a 1)) (λ_ X=>by kernel_rfl)
def Qq3(t:Q0i):Tree Int:=
.br t.D5 (.lf 1) (.lf 0)
def Z0b t:=(Qq3 t).m
def Znv:Q0e:=mS 196 [] true [.agg Q0i.sig] [] (λa r=>Qq3 (Q0i.of (aC a 0))) (λX=> .int .u32 X) (λX=>[])
theorem Zit:Q06 pG Znv:=oS (.nil) Tryz.func196 Tryz.call196 [] [] 2
def Qtm(d0:Q0f)(port:Int):Tree Int:=
.br (port==4) (.lf d0.C2) (.br (port==5) (.lf d0.Frame) (.br (port==6) (.lf (wrap u32 d0.C0)) (.lf 0)))
def Qw0 d0 port:=(Qtm d0 port).m
def vA:Q0e:=mS 197 [] true [.agg Q0f.sig, .one (.int .i64)] [] (λa r=>Qtm (Q0f.of (aC a 0)) (argI a 1)) (λX=> .int .u32 X) (λX=>[])
theorem Zo2:Q06 pG vA:=oS (.nil) Tryz.func197 Tryz.call197 [] [] 2
def Qu1(n:Q0q)(port:Int):Tree Int:=
.br (port==7) (.lf n.Frame) (.br (port==8) (.lf n.F1) (.br (port==9) (.br n.C7 (.br n.B8 (.lf (wrap u32 (wrap u32 ((0:Int)+(1:Int))+2))) (.lf (wrap u32 ((0:Int)+(1:Int))))) (.br n.B8 (.lf (wrap u32 ((0:Int)+(2:Int)))) (.lf 0))) (.lf 0)))
def Z1r n port:=(Qu1 n port).m
def vW:Q0e:=mS 198 [] true [.agg Q0q.sig, .one (.int .i64)] [] (λa r=>Qu1 (Q0q.of (aC a 0)) (argI a 1)) (λX=> .int .u32 X) (λX=>[])
theorem qB:Q06 pG vW:=oS (.nil) Tryz.func198 Tryz.call198 [] [] 2
def Qcu(b:Q09)(port:Int):Tree Int:=
.br (port==10) (.lf b.D0) (.br (port==11) (.an (Qeq b) (.lv (Qdf b) λ(x0:Int)=> .lf (wrap u32 x0))) (.lf 0))
def Qq4 b port:=(Qcu b port).m
abbrev Qqp b port:=(Qcu b port).p
def Zf6:Q0e:=mT 199 [] true [.agg Q09.sig, .one (.int .i64)] [] (λa r=>Qcu (Q09.of (aC a 0)) (argI a 1)) (λX=> .int .u32 X) (λX=>[])
theorem Zby:Q06 pG Zf6:=oT (.cons Qna (.nil)) Tryz.func199 Tryz.call199 [] [] 2
def Q3h(m:Q00)(port clock:Int):Tree (Q00×Int):=
let T1:Tree ((Q00×Int)):= .lv (Qpq m.A4 port) λ(x0:Q0d×Int)=> .lf ({B1:=m.B1,Mem:=m.Mem,A4:=x0.1,B0:=m.B0,B2:=m.B2,C6:=m.C6,A2:=m.A2,A1:=m.A1,A7:=m.A7,A9:=m.A9},x0.2); .br (port==0) T1 (.br (port==1) T1 (.br (port==2) (.lf (m,clock)) (.br (port==3) (.lv (Z0b m.B0) λ(x2:Int)=> .lf (m,x2)) (.br (port==4) (.lv (Qw0 m.B2 port) λ(x3:Int)=> .lf (m,x3)) (.br (port==5) (.lv (Qw0 m.B2 port) λ(x4:Int)=> .lf (m,x4)) (.br (port==6) (.lv (Qw0 m.B2 port) λ(x5:Int)=> .lf (m,x5)) (.br (port==7) (.lv (Z1r m.C6 port) λ(x6:Int)=> .lf (m,x6)) (.br (port==8) (.lv (Z1r m.C6 port) λ(x7:Int)=> .lf (m,x7)) (.br (port==9) (.lv (Z1r m.C6 port) λ(x8:Int)=> .lf (m,x8)) (let T2:Tree ((Q00×Int)):= .an (Qqp m.A2 port) (.lv (Qq4 m.A2 port) λ(x9:Int)=> .lf (m,x9)); .br (port==10) T2 (.br (port==11) T2 (.lf (m,0)))))))))))))
def Q16 m port clock:=(Q3h m port clock).m
abbrev Qgu m port clock:=(Q3h m port clock).p
def Qso:Q0e:=Q0e.fz<|mkP 134 [] false [.agg Q00.sig, .one (.int .i64), .one (.int .u32)] [] (λa r=>Qgu (Q00.of (aC a 0)) (argI a 1) (argI a 2)) (λa r=>Q16 (Q00.of (aC a 0)) (argI a 1) (argI a 2)) (λX=> .tup [.agg (Q00.cells (X.1)), .int .u32 (X.2)]) (λX=>[])
theorem Qrf:Q06 pG Qso:=Zfi<|Q0p drawn Q0l (.cons Zax (.cons Zit (.cons Zo2 (.cons qB (.cons Zby (.nil)))))) Tryz.func134 Tryz.call134 (λa r=>Q3h (Q00.of (aC a 0)) (argI a 1) (argI a 2)) [.sl (.ints .u32) false] [] 2 (λ_ _ _=>by kernel_rfl) (λ_ _=>rfl) (λ_ _ h=>h) (λh=>by cases h)
def Qmn(t:Q0i)(deadline:Int):Tree Q0i:=
.lf ({D2:=deadline !=0,C8:=deadline,D5:=false})
def Qlc t deadline:=(Qmn t deadline).m
def Zi0:Q0e:=mS 200 [] true [.agg Q0i.sig, .one (.int .u32)] [] (λa r=>Qmn (Q0i.of (aC a 0)) (argI a 1)) (λX=> .agg (Q0i.cells X)) (λX=>[])
theorem Zfk:Q06 pG Zi0:=oS (.nil) Tryz.func200 Tryz.call200 [] [] 2
def Qe6(m:List Int)(frame:Int):Tree Bool:=
.lv (Q1 m) λ(x0:Int)=> .lf (decide (wrap u64 frame<wrap u64 x0))
def Q9k m frame:=(Qe6 m frame).m
def Z9c:Q0e:=mS 193 [] true [.one (.ints .u32), .one (.int .u32)] [] (λa r=>Qe6 (argL .u32 a 0) (argI a 1)) (λX=> .bool X) (λX=>[])
theorem Qqq:Q06 pG Z9c:=oS (.cons Q4b (.nil)) Tryz.func193 Tryz.call193 [] [] 2
def Q8e(m:List Int)(frame:Int):Tree Bool:=
.br (decide (frame>=0)) (.lv (Q1 m) λ(x0:Int)=> .lf (decide (frame<x0))) (.lf false)
def Q5d m frame:=(Q8e m frame).m
def Qzl:Q0e:=mS 208 [] true [.one (.ints .u32), .one (.int .i64)] [] (λa r=>Q8e (argL .u32 a 0) (argI a 1)) (λX=> .bool X) (λX=>[])
theorem Ql5:Q06 pG Qzl:=oS (.cons Q4b (.nil)) Tryz.func208 Tryz.call208 [] [] 2
def Qmv(words:List Int)(z:(Int)×(List Int)):Prop:=0<=z.1/\z.1<=words.length/\(z.2.length:Int)=4*z.1
def Q7m(words:List Int)(z:(Int)×(List Int)):Nat:=(words.length-z.1).toNat
def Q59(words:List Int):Tree (List UInt8):=
.cn (bT 0 1&&bS 1 1&&List.all [D.int u8 0] D.plain&&decide ((0:Int)<=(0:Int)/\0<=wrap i64 (4*(words.length:Int))/\wrap i64 (4*(words.length:Int))<=9223372036854775807/\(↑1:Int)*wrap i64 (4*(words.length:Int))<=140737488355328)) (.lp inferInstance (Q7m words (0,[])+1) ((True/\((Els.Nil (Els.ints u32 words)\/rE (1:Nat))/\rE (words:List Int))/\rE ((words.length:Int):Int)/\rE (0:Int)/\True)/\rE ([]:List Int)/\True) (0,[]) λ(v0:Int×List Int)=> .br (decide (v0.1<(words.length:Int))) (.cn (bS 1 1&&bT 0 1&&decide (0<=v0.1/\v0.1<(words.length:Int))) (.cn (decide (1*(v0.2.length+4)<=140737488355328)) (let E1:=words.getD v0.1.toNat 0; .nx ((True/\((Els.Nil (Els.ints u32 words)\/rE (1:Nat))/\rE (words:List Int))/\rE ((words.length:Int):Int)/\rE ((wrap i64 (v0.1+1)):Int)/\True)/\rE ((v0.2++[wrap u8 (words.getD v0.1.toNat 0),wrap u8 (ishr u32 (words.getD v0.1.toNat 0) 8),wrap u8 (ishr u32 (words.getD v0.1.toNat 0) 16),wrap u8 (ishr u32 (words.getD v0.1.toNat 0) 24)]):List Int)/\True) (Sum.inl (wrap i64 (v0.1+1),v0.2++[wrap u8 E1,wrap u8 (ishr u32 E1 8),wrap u8 (ishr u32 E1 16),wrap u8 (ishr u32 E1 24)]))))) (.lf (Sum.inr (bytesOf v0.2))))
def Z1i words:=(Q59 words).m
def Qe9(words:List Int):Prop:=
words.length<=1000000000000
theorem Z4e(words:List Int)(hw:Qe9 words):(Q59 words).p:=by
 simp only[Qe9]at hw
 unfold Tree.p Q59
 repeat'(first|refine w_lp (inv:=Qmv words) (μ:=Q7m words) ?_ (cK _) (λ_ _=> ?_)|exact trivial|refine w_br (λ_=> ?_) (λ_=> ?_)|refine w_cn ?_ ?_|refine w_an ?_ ?_|refine w_lv (λ_ _=> ?_)|refine w_nx ?_|refine w_lf ?_|refine And.intro ?_ ?_)
 all_goals((try simp only[Qmv,Q7m]at*);exact fin0)
def Z67:LInv:={
 α:=(Int)×(List Int)
 F:=λst a=>([(3, .all 0),(10,(lk st 10)),(11,(lk st 11)),(12, .int i64 a.1)],[⟨false,5,1, .ints u8 a.2⟩])
 a0:=λst=>((lk st 12).toInt,(Q7d st.rows (rN st 3)))
 ex0:=λst=>[]++[(rX st 3 0)]}
def Qzq:List (Nat×LInv):=[(3,Z67)]
def Zc6:Q0e:=mkP 209 [] true [.one (.ints .u32)] [] (λa r=>Qe9 (argL .u32 a 0)) (λa r=>Z1i (argL .u32 a 0)) (λX=> .str X) (λX=>[])
theorem Z5d:Q06 pG Zc6:=Q0p drawn Q0l (.nil) Tryz.func209 Tryz.call209 (λa r=>Q59 (argL .u32 a 0)) [] Qzq 3 (hp:=λa r h=>Z4e (argL .u32 a 0) h)
def Q6w(m:List Int)(frame:Int):Tree ((List UInt8)×Bool):=
.lv (Q5d m frame) λ(x0:Bool)=> .br (!x0) (.lf ([],false)) (.cn (bS 1 1&&bT 0 1&&decide (0<=wrap i64 (frame*32)/\wrap i64 (frame*32)<=wrap i64 (wrap i64 (frame*32)+32)/\wrap i64 (wrap i64 (frame*32)+32)<=(m.length:Int))) (let E1:=cW (dB (wrap i64 (wrap i64 (frame*32)+32))-dB (wrap i64 (frame*32))) (cX (dB (wrap i64 (frame*32))) m); .an (Qe9 E1) (.lv (Z1i E1) λ(x1:List UInt8)=> .lf (x1,true))))
def Q6 m frame:=(Q6w m frame).m
abbrev Qe1 m frame:=(Q6w m frame).p
def Z9e:Q0e:=mT 143 [] true [.one (.ints .u32), .one (.int .i64)] [] (λa r=>Q6w (argL .u32 a 0) (argI a 1)) (λX=> .tup [.str (X.1), .bool (X.2)]) (λX=>[])
theorem Qke:Q06 pG Z9e:=oT (.cons Ql5 (.cons Z5d (.nil))) Tryz.func143 Tryz.call143 [] [] 2
def Qqj(d0:Q0f)(at0:Int):Tree (Q04×Bool):=
.br (d0.C0 !=1) (.lf ({B6:=0,At:=0,C2:=0,C9:=[]},false)) (.br (d0.D8==1) (.lf ({B6:=3,At:=at0,C2:=d0.B7,C9:=[]},true)) (.br (d0.D8==2) (.lf ({B6:=4,At:=at0,C2:=d0.B7,C9:=d0.C4},true)) (.lf ({B6:=0,At:=0,C2:=0,C9:=[]},false))))
def Qk6 d0 at0:=(Qqj d0 at0).m
def Z6:Q0e:=mS 287 [] true [.agg Q0f.sig, .one (.int .u64)] [] (λa r=>Qqj (Q0f.of (aC a 0)) (argI a 1)) (λX=> .tup [.agg (Q04.cells (X.1)), .bool (X.2)]) (λX=>[])
theorem Z3v:Q06 pG Z6:=oS (.nil) Tryz.func287 Tryz.call287 [] [] 2
def Qcy(d0:Q0f)(m:List Int)(cmd at0:Int):Tree (Q0f×(List Q04)):=
.br (d0.C0 !=0) (.lf (d0,[])) (let T1:Tree ((Q0f×(List Q04))):= .lf ({Blocks:=d0.Blocks,C2:=d0.C2,Frame:=d0.Frame,C0:=3,D8:=d0.D8,B7:=d0.B7,B3:=d0.B3,C4:=d0.C4},[]); .br (decide (d0.C2>=d0.Blocks)) T1 (.lv (Q9k m d0.Frame) λ(x0:Bool)=> .br (!x0) T1 (.br (cmd==2) (.an (Qe1 m (wrap i64 d0.Frame)) (.lv (Q6 m (wrap i64 d0.Frame)) λ(x1:List UInt8×Bool)=>let E2:=({Blocks:=d0.Blocks,C2:=d0.C2,Frame:=d0.Frame,C0:=1,D8:=cmd,B7:=d0.C2,B3:=d0.Frame,C4:=x1.1}:Q0f); .lv (Qk6 E2 at0) λ(x2:Q04×Bool)=> .lf (E2,[x2.1]))) (let E3:=({Blocks:=d0.Blocks,C2:=d0.C2,Frame:=d0.Frame,C0:=1,D8:=cmd,B7:=d0.C2,B3:=d0.Frame,C4:=[]}:Q0f); .lv (Qk6 E3 at0) λ(x3:Q04×Bool)=> .lf (E3,[x3.1])))))
def Qw8 d0 m cmd at0:=(Qcy d0 m cmd at0).m
abbrev Qqs d0 m cmd at0:=(Qcy d0 m cmd at0).p
def Zfu:Q0e:=mT 251 [] true [.agg Q0f.sig, .one (.ints .u32), .one (.int .i64), .one (.int .u64)] [] (λa r=>Qcy (Q0f.of (aC a 0)) (argL .u32 a 1) (argI a 2) (argI a 3)) (λX=> .tup [.agg (Q0f.cells (X.1)), .sl 4 (.recs .apiOutput (X.2)) true]) (λX=>[])
theorem Zbb:Q06 pG Zfu:=oT (.cons Qqq (.cons Qke (.cons Z3v (.nil)))) Tryz.func251 Tryz.call251 [.sl (.recs .apiOutput) true] [] 2
def Qhr(d0:Q0f)(m:List Int)(port v at0:Int):Tree (Q0f×(List Q04)):=
.br (port==4) (.lf ({Blocks:=d0.Blocks,C2:=v,Frame:=d0.Frame,C0:=d0.C0,D8:=d0.D8,B7:=d0.B7,B3:=d0.B3,C4:=d0.C4},[])) (.br (port==5) (.lf ({Blocks:=d0.Blocks,C2:=d0.C2,Frame:=v,C0:=d0.C0,D8:=d0.D8,B7:=d0.B7,B3:=d0.B3,C4:=d0.C4},[])) (.br (port==6) (let T1:Tree ((Q0f×(List Q04))):= .an (Qqs d0 m (wrap i64 v) at0) (.lv (Qw8 d0 m (wrap i64 v) at0) λ(x0:Q0f×List Q04)=> .lf (x0.1,x0.2)); .br (v==1) T1 (.br (v==2) T1 (.br (v==0) (.lv (Q9p d0) λ(x2:Bool)=> .br x2 (.lf ({Blocks:=d0.Blocks,C2:=d0.C2,Frame:=d0.Frame,C0:=0,D8:=d0.D8,B7:=d0.B7,B3:=d0.B3,C4:=d0.C4},[])) (.lf (d0,[]))) (.lf (d0,[]))))) (.lf (d0,[]))))
def Z0f d0 m port v at0:=(Qhr d0 m port v at0).m
abbrev Qyi d0 m port v at0:=(Qhr d0 m port v at0).p
def Zn1:Q0e:=mT 201 [] true [.agg Q0f.sig, .one (.ints .u32), .one (.int .i64), .one (.int .u32), .one (.int .u64)] [] (λa r=>Qhr (Q0f.of (aC a 0)) (argL .u32 a 1) (argI a 2) (argI a 3) (argI a 4)) (λX=> .tup [.agg (Q0f.cells (X.1)), .sl 4 (.recs .apiOutput (X.2)) true]) (λX=>[])
theorem Zhv:Q06 pG Zn1:=oT (.cons Zbb (.cons Qp4 (.nil))) Tryz.func201 Tryz.call201 [.sl (.recs .apiOutput) true] [] 2
def Qfv(m:List Int)(frame:Int):Tree Bool:=
.lv (Q1 m) λ(x0:Int)=> .lf (decide (wrap u64 frame<wrap u64 x0))
def Qan m frame:=(Qfv m frame).m
def Zd9:Q0e:=mS 194 [] true [.one (.ints .u32), .one (.int .u32)] [] (λa r=>Qfv (argL .u32 a 0) (argI a 1)) (λX=> .bool X) (λX=>[])
theorem Qm3:Q06 pG Zd9:=oS (.cons Q4b (.nil)) Tryz.func194 Tryz.call194 [] [] 2
def Qho(n:Q0q)(m:List Int)(at0:Int):Tree (List Q04):=
.br (decide (n.E0<1)) (.lf ([])) (.br (decide (n.E0>128)) (.lf ([])) (.lv (Qan m n.Frame) λ(x0:Bool)=> .br (!x0) (.lf ([])) (.an (Qe1 m (wrap i64 n.Frame)) (.lv (Q6 m (wrap i64 n.Frame)) λ(x1:List UInt8×Bool)=> .cn (decide ((0:Int)<=(0:Int)/\0<=n.E0/\n.E0<=(x1.1.length:Int))) (.lf ([{B6:=2,At:=at0,C2:=0,C9:=cW (dB n.E0-dB 0) (cX (dB 0) x1.1)}]))))))
def Zb n m at0:=(Qho n m at0).m
abbrev Qyj n m at0:=(Qho n m at0).p
def Zn0:Q0e:=mT 252 [] true [.agg Q0q.sig, .one (.ints .u32), .one (.int .u64)] [] (λa r=>Qho (Q0q.of (aC a 0)) (argL .u32 a 1) (argI a 2)) (λX=> .sl 4 (.recs .apiOutput X) true) (λX=>[])
theorem Zi5:Q06 pG Zn0:=oT (.cons Qm3 (.cons Qke (.nil))) Tryz.func252 Tryz.call252 [.sl (.recs .apiOutput) true] [] 2
def Ql9(n:Q0q)(m:List Int)(port v at0:Int):Tree (Q0q×(List Q04)):=
.br (port==7) (.lf ({Frame:=v,E0:=n.E0,C7:=n.C7,B9:=n.B9,B8:=n.B8,F1:=n.F1},[])) (.br (port==8) (.lf ({Frame:=n.Frame,E0:=v,C7:=n.C7,B9:=n.B9,B8:=n.B8,F1:=n.F1},[])) (.br (port==9) (.br (v==1) (.an (Qyj n m at0) (.lv (Zb n m at0) λ(x0:List Q04)=> .lf (n,x0))) (.br (v==2) (.lv (Qan m n.Frame) λ(x1:Bool)=> .br x1 (.br (!n.C7) (.br (!n.B8) (.lf ({Frame:=n.Frame,E0:=n.E0,C7:=true,B9:=n.Frame,B8:=n.B8,F1:=n.F1},[])) (.lf (n,[]))) (.lf (n,[]))) (.lf (n,[]))) (.br (v==0) (.lf ({Frame:=n.Frame,E0:=n.E0,C7:=n.C7,B9:=n.B9,B8:=false,F1:=0},[])) (.lf (n,[]))))) (.lf (n,[]))))
def Zbd n m port v at0:=(Ql9 n m port v at0).m
abbrev Z4a n m port v at0:=(Ql9 n m port v at0).p
def xB:Q0e:=mT 202 [] true [.agg Q0q.sig, .one (.ints .u32), .one (.int .i64), .one (.int .u32), .one (.int .u64)] [] (λa r=>Ql9 (Q0q.of (aC a 0)) (argL .u32 a 1) (argI a 2) (argI a 3) (argI a 4)) (λX=> .tup [.agg (Q0q.cells (X.1)), .sl 4 (.recs .apiOutput (X.2)) true]) (λX=>[])
theorem Zns:Q06 pG xB:=oT (.cons Zi5 (.cons Qm3 (.nil))) Tryz.func202 Tryz.call202 [.sl (.recs .apiOutput) true] [] 2
def Qb4(m:List Int)(frame:Int)(s:List UInt8)(z:(Int)×(List Int)):Nat:=(32-z.1).toNat
def Q3p(m:List Int)(frame:Int)(s:List UInt8):Tree ((List Int)×Bool):=
.an (Q08 m) (.lv (Q03 m) λ(x0:List Int)=> .lv (Q5d m frame) λ(x1:Bool)=> .br (!x1) (.lf (x0,false)) (.br ((s.length:Int) !=(128:Int)) (.lf (x0,false)) (.lp inferInstance (Qb4 m frame s (0,x0)+1) ((rE (s:List UInt8)/\True/\rE ((wrap i64 (frame*32)):Int)/\rE (0:Int)/\True)/\rE (x0:List Int)/\True) (0,x0) λ(v0:Int×List Int)=> .br (decide (v0.1<32)) (.cn (decide (0<=wrap i64 (4*v0.1)/\wrap i64 (4*v0.1)<=wrap i64 (wrap i64 (4*v0.1)+4)/\wrap i64 (wrap i64 (4*v0.1)+4)<=(s.length:Int))) (let E1:=cW (dB (wrap i64 (wrap i64 (4*v0.1)+4))-dB (wrap i64 (4*v0.1))) (cX (dB (wrap i64 (4*v0.1))) s); .cn (decide ((0:Int)<=(0:Int)/\0<(↑(dG E1):Int))) (.cn (decide ((0:Int)<=(1:Int)/\1<(↑(dG E1):Int))) (.cn (decide ((0:Int)<=(2:Int)/\2<(↑(dG E1):Int))) (.cn (decide ((0:Int)<=(3:Int)/\3<(↑(dG E1):Int))) (.cn (bS 1 1&&bT 0 1&&decide (0<=wrap i64 (wrap i64 (frame*32)+v0.1)/\wrap i64 (wrap i64 (frame*32)+v0.1)<(v0.2.length:Int))) (.nx ((rE (s:List UInt8)/\True/\rE ((wrap i64 (frame*32)):Int)/\rE ((wrap i64 (v0.1+1)):Int)/\True)/\rE ((dC v0.2 (dB (wrap i64 (wrap i64 (frame*32)+v0.1))) (ior u32 (ior u32 (ior u32 (wrap u32 (↑(eS (aK (cW (dB (wrap i64 (wrap i64 (4*v0.1)+4))-dB (wrap i64 (4*v0.1))) (cX (dB (wrap i64 (4*v0.1))) s)) (dB 0) (0:UInt8))):Int)) (ishl u32 (wrap u32 (↑(eS (aK (cW (dB (wrap i64 (wrap i64 (4*v0.1)+4))-dB (wrap i64 (4*v0.1))) (cX (dB (wrap i64 (4*v0.1))) s)) (dB 1) (0:UInt8))):Int)) 8)) (ishl u32 (wrap u32 (↑(eS (aK (cW (dB (wrap i64 (wrap i64 (4*v0.1)+4))-dB (wrap i64 (4*v0.1))) (cX (dB (wrap i64 (4*v0.1))) s)) (dB 2) (0:UInt8))):Int)) 16)) (ishl u32 (wrap u32 (↑(eS (aK (cW (dB (wrap i64 (wrap i64 (4*v0.1)+4))-dB (wrap i64 (4*v0.1))) (cX (dB (wrap i64 (4*v0.1))) s)) (dB 3) (0:UInt8))):Int)) 24))):List Int)/\True) (Sum.inl (wrap i64 (v0.1+1),dC v0.2 (dB (wrap i64 (wrap i64 (frame*32)+v0.1))) (ior u32 (ior u32 (ior u32 (wrap u32 (↑(eS (aK E1 (dB 0) (0:UInt8))):Int)) (ishl u32 (wrap u32 (↑(eS (aK E1 (dB 1) (0:UInt8))):Int)) 8)) (ishl u32 (wrap u32 (↑(eS (aK E1 (dB 2) (0:UInt8))):Int)) 16)) (ishl u32 (wrap u32 (↑(eS (aK E1 (dB 3) (0:UInt8))):Int)) 24))))))))))) (.lf (Sum.inr (v0.2,true))))))
def Q3 m frame s:=(Q3p m frame s).m
abbrev Q8z m frame s:=(Q3p m frame s).p
def Qwb:LInv:={
 α:=(Int)×(List Int)
 F:=λst a=>([(2,(lk st 2)),(8, .all 0),(9,(lk st 9)),(26, .int i64 a.1)],[⟨false,25,1, .ints u32 a.2⟩])
 a0:=λst=>((lk st 26).toInt,(Q7d st.rows (rN st 8)))
 ex0:=λst=>[]++[(rX st 8 0)]}
def Qrh:List (Nat×LInv):=[(6,Qwb)]
def Qyy:Q0e:=mT 144 [] true [.one (.ints .u32), .one (.int .i64), .one (.str)] [] (λa r=>Q3p (argL .u32 a 0) (argI a 1) (argS a 2)) (λX=> .tup [.all 0, .bool (X.2)]) (λX=>[⟨false,25,1, .ints .u32 (X.1)⟩])
theorem Qez:Q06 pG Qyy:=oT (.cons Q0w (.cons Ql5 (.nil))) Tryz.func144 Tryz.call144 [.row 25 1 (.ints .u32)] Qrh 3
def strings_Repeat(s:List UInt8)(count:Int):(List UInt8):=
Lib.repeatL s count.toNat
def Qdt(s:List UInt8)(count:Int):Prop:=
0<=count/\count<=9223372036854775807/\s.length*count.toNat<=140737488355328
def Qiw(s:List UInt8)(count:Int):List D:=[.str s, .int .i64 count]
def Qhy(s:List UInt8)(count:Int):List Row:=[]
def Qe(X:List UInt8):D:= .str X
def Qdd(X:List UInt8):List Row:=[]
def Qkc:List PT:=[.one (.str), .one (.int .i64)]
def Qji:List RT:=[]
def Qud(args:List D)(rows:List Row):(List UInt8):=strings_Repeat (argS args 0) (argI args 1)
def Qte(args:List D)(rows:List Row):Prop:=Qdt (argS args 0) (argI args 1)
def Qyz:Q0e:=mkP 253 [] true Qkc Qji Qte Qud Qe Qdd
theorem Qqg(s:List UInt8)(count:Int)(hw:Qdt s count):Q4f pG 253 (Qiw s count) (Qhy s count) (Qe (strings_Repeat s count)) (Qdd (strings_Repeat s count)):=by
 exact vc Tryz.strings_Repeat hw.1 hw.2.1 hw.2.2
set_option maxRecDepth 100000 in
theorem Qrz(args:List D)(rows:List Row):Qg8 Qkc args 0=Qiw (argS args 0) (argI args 1):=by kernel_rfl
set_option maxRecDepth 100000 in
theorem Qqb(args:List D)(rows:List Row):Q66 Qji rows 0=Qhy (argS args 0) (argI args 1):=by kernel_rfl
set_option maxRecDepth 100000 in
theorem Qxe(X:List UInt8):(ffB (Qe X)&&ffBR (Qdd X))=true:=by kernel_rfl
theorem Qvz:Q06 pG Qyz:=Qyl Tryz.call253 (λargs rows hp=>by rw[Qrz args rows,Qqb args rows];exact Qqg (argS args 0) (argI args 1) hp) (λ_ X=>Qxe X)
def Q47(b:Q09)(m:List Int)(port v:Int):Tree (Q09×(List Int)):=
let T1:Tree ((Q09×(List Int))):= .an (Q08 m) (.lv (Q03 m) λ(x0:List Int)=> .lf (b,x0)); .br (decide (v>=32)) T1 (.cn (decide (0<=v)) (.br (port==10) (.lv (Q1 m) λ(x1:Int)=> .br (decide (wrap i64 v<x1)) (.br (iand u32 b.C3 (ishl u32 1 v)==0) (.an (Qdt [(0:UInt8)] 128) (.lv (strings_Repeat [(0:UInt8)] 128) λ(x2:List UInt8)=> .an (Q8z m (wrap i64 v) x2) (.lv (Q3 m (wrap i64 v) x2) λ(x3:List Int×Bool)=> .lf ({D0:=b.D0,C3:=ior u32 b.C3 (ishl u32 1 v)},x3.1)))) T1) T1) (.br (port==11) (.an (Q08 m) (.lv (Q03 m) λ(x6:List Int)=> .lf ({D0:=b.D0,C3:=Qhc u32 b.C3 (ishl u32 1 v)},x6))) T1)))
def Q85 b m port v:=(Q47 b m port v).m
abbrev Qo2 b m port v:=(Q47 b m port v).p
def Z8x:Q0e:=mT 203 [] true [.agg Q09.sig, .one (.ints .u32), .one (.int .i64), .one (.int .u32)] [] (λa r=>Q47 (Q09.of (aC a 0)) (argL .u32 a 1) (argI a 2) (argI a 3)) (λX=> .tup [.agg (Q09.cells (X.1)), .all 0]) (λX=>[⟨false,25,1, .ints .u32 (X.2)⟩])
theorem Z4s:Q06 pG Z8x:=oT (.cons Q0w (.cons Q4b (.cons Qez (.cons Qvz (.nil))))) Tryz.func203 Tryz.call203 [.row 25 1 (.ints .u32)] [] 2
def Q43(m:Q00)(port v at0:Int):Tree (Q00×(List Q04)):=
.br (port==0) (.lf (m,[{B6:=1,At:=at0,C2:=0,C9:=[(λ(n:Int)=>UInt8.ofNat n.toNat) (wrap u8 v)]}])) (.br (port==3) (.lv (Qlc m.B0 v) λ(x0:Q0i)=> .lf ({B1:=m.B1,Mem:=m.Mem,A4:=m.A4,B0:=x0,B2:=m.B2,C6:=m.C6,A2:=m.A2,A1:=m.A1,A7:=m.A7,A9:=m.A9},[])) (let T1:Tree ((Q00×(List Q04))):= .an (Qyi m.B2 m.Mem port v at0) (.lv (Z0f m.B2 m.Mem port v at0) λ(x1:Q0f×List Q04)=> .lf ({B1:=m.B1,Mem:=m.Mem,A4:=m.A4,B0:=m.B0,B2:=x1.1,C6:=m.C6,A2:=m.A2,A1:=m.A1,A7:=m.A7,A9:=m.A9},x1.2)); .br (port==4) T1 (.br (port==5) T1 (.br (port==6) T1 (let T2:Tree ((Q00×(List Q04))):= .an (Z4a m.C6 m.Mem port v at0) (.lv (Zbd m.C6 m.Mem port v at0) λ(x4:Q0q×List Q04)=> .lf ({B1:=m.B1,Mem:=m.Mem,A4:=m.A4,B0:=m.B0,B2:=m.B2,C6:=x4.1,A2:=m.A2,A1:=m.A1,A7:=m.A7,A9:=m.A9},x4.2)); .br (port==7) T2 (.br (port==8) T2 (.br (port==9) T2 (let T3:Tree ((Q00×(List Q04))):= .an (Qo2 m.A2 m.Mem port v) (.lv (Q85 m.A2 m.Mem port v) λ(x7:Q09×List Int)=> .lf ({B1:=m.B1,Mem:=x7.2,A4:=m.A4,B0:=m.B0,B2:=m.B2,C6:=m.C6,A2:=x7.1,A1:=m.A1,A7:=m.A7,A9:=m.A9},[])); .br (port==10) T3 (.br (port==11) T3 (.lf (m,[])))))))))))
def Q2q m port v at0:=(Q43 m port v at0).m
abbrev Qg6 m port v at0:=(Q43 m port v at0).p
def Qs:Q0e:=Q0e.fz<|mkP 135 [] false [.agg Q00.sig, .one (.int .i64), .one (.int .u32), .one (.int .u64)] [] (λa r=>Qg6 (Q00.of (aC a 0)) (argI a 1) (argI a 2) (argI a 3)) (λa r=>Q2q (Q00.of (aC a 0)) (argI a 1) (argI a 2) (argI a 3)) (λX=> .tup [.agg (Q00.cells (X.1)), .sl 4 (.recs .apiOutput (X.2)) true]) (λX=>[])
theorem Qq9:Q06 pG Qs:=Zfi<|Q0p drawn Q0l (.cons Zfk (.cons Zhv (.cons Zns (.cons Z4s (.nil))))) Tryz.func135 Tryz.call135 (λa r=>Q43 (Q00.of (aC a 0)) (argI a 1) (argI a 2) (argI a 3)) [.sl (.ints .u32) false, .sl (.recs .apiOutput) true] [] 2 (λ_ _ _=>by kernel_rfl) (λ_ _=>rfl) (λ_ _ h=>h) (λh=>by cases h)
def Q30(m:Q00)(clock:Int):Tree (Q00×(List Q04)):=
.an (Q08 m.Mem) (.lv (Q03 m.Mem) λ(x0:List Int)=>let E1:=({B1:=m.B1,Mem:=x0,A4:=m.A4,B0:=m.B0,B2:=m.B2,C6:=m.C6,A2:=m.A2,A1:=m.A1,A7:=m.A7,A9:=m.A9}:Q00); .an (Qbx E1) (.lv (Q2h E1) λ(x1:Bool)=> .br (!x1) (.lf (E1,[])) (.an (Qap E1) (.lv (Q0s E1) λ(x2:Q00)=> .an (Qk7 x2.B1 x2.Mem) (.lv (Q57 x2.B1 x2.Mem) λ(x3:Q05×List Int×Q18)=>let E2:=({B1:=x3.1,Mem:=x3.2.1,A4:=x2.A4,B0:=x2.B0,B2:=x2.B2,C6:=x2.C6,A2:=x2.A2,A1:=x2.A1,A7:=x2.A7,A9:=x2.A9}:Q00); .br (x3.2.2.B6==1) (.an (Qgu E2 x3.2.2.D1 clock) (.lv (Q16 E2 x3.2.2.D1 clock) λ(x4:Q00×Int)=> .br (x3.2.2.D9 !=0) (.cn (bT 0 1&&decide (0<=x3.2.2.D9/\x3.2.2.D9<(↑16:Int))) (.lf ({B1:={X:=A16.of 0 (dC (A16.l x4.1.B1.X) x3.2.2.D9.toNat x4.2),Pc:=x4.1.B1.Pc,B5:=x4.1.B1.B5},Mem:=x4.1.Mem,A4:=x4.1.A4,B0:=x4.1.B0,B2:=x4.1.B2,C6:=x4.1.C6,A2:=x4.1.A2,A1:=wrap u64 (x4.1.A1+1),A7:=x4.1.A7,A9:=x4.1.A9},[]))) (.lf ({B1:=x4.1.B1,Mem:=x4.1.Mem,A4:=x4.1.A4,B0:=x4.1.B0,B2:=x4.1.B2,C6:=x4.1.C6,A2:=x4.1.A2,A1:=wrap u64 (x4.1.A1+1),A7:=x4.1.A7,A9:=x4.1.A9},[])))) (.br (x3.2.2.B6==2) (.an (Qg6 E2 x3.2.2.D1 x3.2.2.Value m.A1) (.lv (Q2q E2 x3.2.2.D1 x3.2.2.Value m.A1) λ(x5:Q00×List Q04)=> .lf ({B1:=x5.1.B1,Mem:=x5.1.Mem,A4:=x5.1.A4,B0:=x5.1.B0,B2:=x5.1.B2,C6:=x5.1.C6,A2:=x5.1.A2,A1:=wrap u64 (x5.1.A1+1),A7:=x5.1.A7,A9:=x5.1.A9},x5.2))) (.br (x3.2.2.B6==3) (.lf ({B1:=x3.1,Mem:=x3.2.1,A4:=x2.A4,B0:=x2.B0,B2:=x2.B2,C6:=x2.C6,A2:=x2.A2,A1:=wrap u64 (x2.A1+1),A7:=true,A9:=x2.A9},[])) (.br (x3.2.2.B6==4) (.lf ({B1:=x3.1,Mem:=x3.2.1,A4:=x2.A4,B0:=x2.B0,B2:=x2.B2,C6:=x2.C6,A2:=x2.A2,A1:=wrap u64 (x2.A1+1),A7:=x2.A7,A9:=true},[])) (.lf ({B1:=x3.1,Mem:=x3.2.1,A4:=x2.A4,B0:=x2.B0,B2:=x2.B2,C6:=x2.C6,A2:=x2.A2,A1:=wrap u64 (x2.A1+1),A7:=x2.A7,A9:=x2.A9},[]))))))))))
def Q1z m clock:=(Q30 m clock).m
abbrev Q2m m clock:=(Q30 m clock).p
def Z5t:Q0e:=Q0e.fz<|mkP 39 [] false [.agg Q00.sig, .one (.int .u32)] [] (λa r=>Q2m (Q00.of (aC a 0)) (argI a 1)) (λa r=>Q1z (Q00.of (aC a 0)) (argI a 1)) (λX=> .tup [.agg (Q00.cells (X.1)), .sl 4 (.recs .apiOutput (X.2)) false]) (λX=>[])
theorem Qi4:Q06 pG Z5t:=Zfi<|Q0p drawn Q0l (.cons Q0w (.cons Qof (.cons Qn5 (.cons Z2 (.cons Qrf (.cons Qq9 (.nil))))))) Tryz.func39 Tryz.call39 (λa r=>Q30 (Q00.of (aC a 0)) (argI a 1)) [.sl (.ints .u32) false, .sl (.recs .apiOutput) false] [] 2 (λ_ _ _=>by kernel_rfl) (λ_ _=>rfl) (λ_ _ h=>h) (λh=>by cases h)
end
noncomputable section
def Z12(op:Int):Tree Int:=
let T1:Tree (Int):= .br (op==49) (.lf 3) (let T2:Tree (Int):= .br (op==24) (.lf 6) (.br (op==48) (.lf 7) (.br (op==58) (.lf 8) (.br (op==59) (.lf 8) (.br (op==60) (.lf 9) (.br (op==61) (.lf 9) (.br (op==56) (.lf 1) (.br (op==57) (.lf 1) (.br (decide (op>=62)) (.br (decide (op<=64)) (.lf 1) (.lf 0)) (.lf 0))))))))); .br (decide (op>=17)) (.br (decide (op<=19)) (.lf 4) (.br (decide (op>=20)) (.br (decide (op<=22)) (.lf 5) T2) T2)) (.br (decide (op>=20)) (.br (decide (op<=22)) (.lf 5) T2) T2));let T3:Tree (Int):= .br (op==16) (.lf 3) (.br (op==23) (.lf 3) (.br (decide (op>=32)) (.br (decide (op<=36)) (.lf 3) (.br (decide (op>=40)) (.br (decide (op<=45)) (.lf 3) T1) T1)) (.br (decide (op>=40)) (.br (decide (op<=45)) (.lf 3) T1) T1))); .br (decide (op>=1)) (.br (decide (op<=13)) (.lf 2) T3) T3
def Q2k op:=(Z12 op).m
def Zij:Q0e:=mS 191 [] true [.one (.int .i64)] [] (λa r=>Z12 (argI a 0)) (λX=> .int .i64 X) (λX=>[])
theorem Qfu:Q06 pG Zij:=oS (.nil) Tryz.func191 Tryz.call191 [] [] 2
def Qda(r:Int):Tree Bool:=
.br (decide (r>=0)) (.lf (decide (r<=15))) (.lf false)
def Q80 r:=(Qda r).m
def Z22:Q0e:=mS 225 [] true [.one (.int .i64)] [] (λa r=>Qda (argI a 0)) (λX=> .bool X) (λX=>[])
theorem Qz8:Q06 pG Z22:=oS (.nil) Tryz.func225 Tryz.call225 [] [] 2
def Qme(f:Int):Tree (Int×Int):=
.br (f==3) (.lf ((-32768),32767)) (.br (f==7) (.lf ((-32768),32767)) (.br (f==4) (.lf (0,65535)) (.br (f==6) (.lf (0,65535)) (.br (f==5) (.lf (0,31)) (.br (f==8) (.lf (0,7)) (.br (f==9) (.lf (0,11)) (.lf (0,0))))))))
def Qmo f:=(Qme f).m
def Z9m:Q0e:=mS 192 [] true [.one (.int .i64)] [] (λa r=>Qme (argI a 0)) (λX=> .tup [.int .i64 (X.1), .int .i64 (X.2)]) (λX=>[])
theorem Qr0:Q06 pG Z9m:=oS (.nil) Tryz.func192 Tryz.call192 [] [] 2
def Qfn(i:Q0m):Tree Bool:=
.lv (Q2k i.Op) λ(x0:Int)=> .br (x0==0) (.lf false) (.lv (Q80 i.A) λ(x1:Bool)=> .br (!x1) (.lf false) (.lv (Q80 i.B) λ(x2:Bool)=> .br (!x2) (.lf false) (.lv (Q80 i.C) λ(x3:Bool)=> .br (!x3) (.lf false) (.lv (Qmo x0) λ(x4:Int×Int)=> .br (decide (wrap i64 i.Imm<x4.1)) (.lf false) (.br (decide (wrap i64 i.Imm>x4.2)) (.lf false) (let T1:Tree (Bool):= .br (x0==1) (.br (i.A !=0) (.lf false) (.br (i.B==0) (.lf true) (.br (decide (x0>=2)) (.lf (decide (x0<=5))) (.lf false)))) (.br (i.B==0) (.lf true) (.br (decide (x0>=2)) (.lf (decide (x0<=5))) (.lf false))); .br (x0 !=2) (.br (i.C !=0) (.lf false) T1) T1))))))
def Q7x i:=(Qfn i).m
def Zfm:Q0e:=mS 167 [] true [.agg Q0m.sig] [] (λa r=>Qfn (Q0m.of (aC a 0))) (λX=> .bool X) (λX=>[])
theorem Qsy:Q06 pG Zfm:=oS (.cons Qfu (.cons Qz8 (.cons Qr0 (.nil)))) Tryz.func167 Tryz.call167 [] [] 2
def Qha(i:Q0m):Tree (Int×Bool):=
.lv (Q7x i) λ(x0:Bool)=> .br (!x0) (.lf (0,false)) (.lf (ior u32 (ior u32 (ior u32 (ior u32 (ishl u32 (wrap u32 i.Op) 24) (ishl u32 (wrap u32 i.A) 20)) (ishl u32 (wrap u32 i.B) 16)) (iand u32 (wrap u32 i.Imm) 65535)) (wrap u32 i.C),true))
def Q1q i:=(Qha i).m
def Zap:Q0e:=mS 82 [] true [.agg Q0m.sig] [] (λa r=>Qha (Q0m.of (aC a 0))) (λX=> .tup [.int .u32 (X.1), .bool (X.2)]) (λX=>[])
theorem Qkg:Q06 pG Zap:=oS (.cons Qsy (.nil)) Tryz.func82 Tryz.call82 [] [] 2
def Z75:Tree (List Int):=
.lf ([1,2,3,4,5,6,7,8,9,10,11,12,13,16,16,17,18,19,20,21,22,23,24,24,32,32,33,34,35,35,36,40,41,42,43,44,45,48,49,56,57,58,59,60,60,61,61,62,63,64])
def Zb0:(List Int):=(Z75).m
def Zo3:Q0e:=mS 168 [] true [] [] (λa r=>Z75) (λX=> .sl 1 (.ints .i64 X) true) (λX=>[])
theorem Zis:Q06 pG Zo3:=oS (.nil) Tryz.func168 Tryz.call168 [.sl (.ints .i64) true] [] 2
def Z2f(seed:Int):Tree (Int×Int):=
let E1:=wrap u64 (ixor u64 (wrap u64 (seed+11400714819323198485)) (ishr u64 (wrap u64 (seed+11400714819323198485)) 30)*13787848793156543929);let E2:=wrap u64 (ixor u64 E1 (ishr u64 E1 27)*10723151780598845931); .lf (ixor u64 E2 (ishr u64 E2 31),wrap u64 (seed+11400714819323198485))
def Zez seed:=(Z2f seed).m
def Zj3:Q0e:=mS 162 [] true [.one (.int .u64)] [] (λa r=>Z2f (argI a 0)) (λX=> .tup [.int .u64 (X.1), .int .u64 (X.2)]) (λX=>[])
theorem Zcm:Q06 pG Zj3:=oS (.nil) Tryz.func162 Tryz.call162 [] [] 2
def Qpg(n k:Int):Tree Int:=
.lv (Zez (ixor u64 (wrap u64 n) (wrap u64 (wrap u64 k*11400714819323198485)))) λ(x0:Int×Int)=> .lf (wrap i64 (ishr u64 x0.1 1))
def Qpk n k:=(Qpg n k).m
def Zn6:Q0e:=mS 77 [] true [.one (.int .i64), .one (.int .i64)] [] (λa r=>Qpg (argI a 0) (argI a 1)) (λX=> .int .i64 X) (λX=>[])
theorem Qmi:Q06 pG Zn6:=oS (.cons Zcm (.nil)) Tryz.func77 Tryz.call77 [] [] 2
def Qo1(n k:Int):Tree Int:=
.cn (decide (k≠0)) (.br (decide (dA n k<0)) (.lf (wrap i64 (dA n k+k))) (.lf (dA n k)))
def Q5l n k:=(Qo1 n k).m
abbrev Q2z n k:=(Qo1 n k).p
def Zep:Q0e:=mT 50 [] true [.one (.int .i64), .one (.int .i64)] [] (λa r=>Qo1 (argI a 0) (argI a 1)) (λX=> .int .i64 X) (λX=>[])
theorem Qgz:Q06 pG Zep:=oT (.nil) Tryz.func50 Tryz.call50 [] [] 2
def Qlu(n:Int):Tree Q0m:=
.lv Zb0 λ(x0:List Int)=> .lv (Qpk n 1) λ(x1:Int)=> .an (Q2z x1 (x0.length:Int)) (.lv (Q5l x1 (x0.length:Int)) λ(x2:Int)=> .cn (bS 1 1&&bT 0 1&&decide (0<=x2/\x2<(x0.length:Int))) (.an (Q2z (ishr i64 x1 8) 6) (.lv (Q5l (ishr i64 x1 8) 6) λ(x3:Int)=> .an (Q2z (ishr i64 x1 12) 6) (.lv (Q5l (ishr i64 x1 12) 6) λ(x4:Int)=> .an (Q2z (ishr i64 x1 16) 6) (.lv (Q5l (ishr i64 x1 16) 6) λ(x5:Int)=> .an (Q2z (ishr i64 x1 20) 24) (.lv (Q5l (ishr i64 x1 20) 24) λ(x6:Int)=> .br (decide (x0.getD x2.toNat (0:Int)<=(13:Int))) (.lf ({Op:=x0.getD x2.toNat 0,A:=x3,B:=x4,C:=x5,Imm:=0})) (let E4:=({Op:=x0.getD x2.toNat 0,A:=x3,B:=x4,C:=0,Imm:=wrap i32 (wrap i64 (wrap i64 (8*x6)-32))}:Q0m);let T1:Tree (Q0m):= .br (x0.getD x2.toNat (0:Int)==(49:Int)) (.lf (E4)) (.br (x0.getD x2.toNat (0:Int)==(24:Int)) (.lf ({Op:=x0.getD x2.toNat 0,A:=x3,B:=0,C:=0,Imm:=wrap i32 (wrap i64 (x6*iand i64 (ishr i64 x1 40) 1))})) (let T2:Tree (Q0m):=let E6:=({Op:=x0.getD x2.toNat 0,A:=x3,B:=0,C:=0,Imm:=wrap i32 (dA x6 8)}:Q0m); .br (x0.getD x2.toNat (0:Int)==(58:Int)) (.lf (E6)) (.br (x0.getD x2.toNat (0:Int)==(59:Int)) (.lf (E6)) (let E5:=({Op:=x0.getD x2.toNat 0,A:=x3,B:=0,C:=0,Imm:=wrap i32 (dA x6 12)}:Q0m); .br (x0.getD x2.toNat (0:Int)==(60:Int)) (.lf (E5)) (.br (x0.getD x2.toNat (0:Int)==(61:Int)) (.lf (E5)) (.lf ({Op:=x0.getD x2.toNat 0,A:=0,B:=0,C:=0,Imm:=0}))))); .br (decide (x0.getD x2.toNat (0:Int)>=(17:Int))) (.br (decide (x0.getD x2.toNat (0:Int)<=(22:Int))) (.lf ({Op:=x0.getD x2.toNat 0,A:=x3,B:=x4,C:=0,Imm:=wrap i32 x6})) T2) T2));let T3:Tree (Q0m):= .br (x0.getD x2.toNat (0:Int)==(16:Int)) (.lf (E4)) (.br (x0.getD x2.toNat (0:Int)==(23:Int)) (.lf (E4)) (.br (decide (x0.getD x2.toNat (0:Int)>=(32:Int))) (.br (decide (x0.getD x2.toNat (0:Int)<=(36:Int))) (.lf (E4)) T1) T1)); .br (decide (x0.getD x2.toNat (0:Int)>=(40:Int))) (.br (decide (x0.getD x2.toNat (0:Int)<=(48:Int))) (.br (x0.getD x2.toNat (0:Int)==(48:Int)) (.lf ({Op:=x0.getD x2.toNat 0,A:=x3,B:=0,C:=0,Imm:=wrap i32 (wrap i64 (x6-12))})) (.lf ({Op:=x0.getD x2.toNat 0,A:=x3,B:=x4,C:=0,Imm:=wrap i32 (wrap i64 (x6-12))}))) T3) T3)))))))
def Zfo n:=(Qlu n).m
abbrev Qh n:=(Qlu n).p
def Zhw:Q0e:=mT 83 [] true [.one (.int .i64)] [] (λa r=>Qlu (argI a 0)) (λX=> .agg (Q0m.cells X)) (λX=>[])
theorem Zd2:Q06 pG Zhw:=oT (.cons Zis (.cons Qmi (.cons Qgz (.nil)))) Tryz.func83 Tryz.call83 [] [] 2
def Qqv(l:List Int)(z:(Int)×(List Int)):Prop:=0<=z.1/\z.1<=l.length/\(z.2.length:Int)=z.1
def Qd9(l:List Int)(z:(Int)×(List Int)):Nat:=(l.length-z.1).toNat
def Qi9(l:List Int):Tree (List Int):=
.lp inferInstance (Qd9 l (0,[])+1) ((((Els.Nil (Els.ints i64 l)\/rE (1:Nat))/\rE (l:List Int))/\True/\rE (0:Int)/\True)/\rE ([]:List Int)/\True) (0,[]) λ(v0:Int×List Int)=> .br (decide (v0.1<(l.length:Int))) (let E1:=bS 1 1&&bT 0 1&&decide (0<=v0.1/\v0.1<(l.length:Int)); .cn E1 (let E2:=decide (4*(v0.2.length+1)<=140737488355328); .br (dA (l.getD v0.1.toNat 0) (17:Int)==(0:Int)) (.cn E1 (.cn E2 (.nx ((((Els.Nil (Els.ints i64 l)\/rE (1:Nat))/\rE (l:List Int))/\True/\rE ((wrap i64 (v0.1+1)):Int)/\True)/\rE ((v0.2++[wrap u32 (iand i64 (l.getD v0.1.toNat 0) 4294967295)]):List Int)/\True) (Sum.inl (wrap i64 (v0.1+1),v0.2++[wrap u32 (iand i64 (l.getD v0.1.toNat 0) 4294967295)]))))) (.cn E1 (.an (Qh (l.getD v0.1.toNat 0)) (.lv (Zfo (l.getD v0.1.toNat 0)) λ(x0:Q0m)=> .lv (Q1q x0) λ(x1:Int×Bool)=> .cn E2 (.nx ((((Els.Nil (Els.ints i64 l)\/rE (1:Nat))/\rE (l:List Int))/\True/\rE ((wrap i64 (v0.1+1)):Int)/\True)/\rE ((v0.2++[x1.1]):List Int)/\True) (Sum.inl (wrap i64 (v0.1+1),v0.2++[x1.1])))))))) (.lf (Sum.inr v0.2))
def Qnw l:=(Qi9 l).m
abbrev Qlz l:=(Qi9 l).p
def Zct:LInv:={
 α:=(Int)×(List Int)
 F:=λst a=>([(0,(lk st 0)),(3, .all 0),(4, .int i64 a.1)],[⟨false,25,1, .ints u32 a.2⟩])
 a0:=λst=>((lk st 4).toInt,(Q7d st.rows (rN st 3)))
 ex0:=λst=>[]++[(rX st 3 0)]}
def Z5u:List (Nat×LInv):=[(3,Zct)]
def Zhy:Q0e:=mT 138 [] true [.one (.ints .i64)] [] (λa r=>Qi9 (argL .i64 a 0)) (λX=> .all 0) (λX=>[⟨false,25,1, .ints .u32 X⟩])
theorem Zck:Q06 pG Zhy:=oT (.cons Qkg (.cons Zd2 (.nil))) Tryz.func138 Tryz.call138 [.row 25 1 (.ints .u32)] Z5u 3
def Qjy(pc:Int):Tree Q05:=
.lf ({X:={a0:=0,a1:=0,a2:=0,a3:=0,a4:=0,a5:=0,a6:=0,a7:=0,a8:=0,a9:=0,a10:=0,a11:=0,a12:=0,a13:=0,a14:=0,a15:=0},Pc:=pc,B5:={a0:=1,a1:=0,a2:=0,a3:=0,a4:=0,a5:=0,a6:=0,a7:=0}})
def Qq5 pc:=(Qjy pc).m
def Ze0:Q0e:=mS 127 [] true [.one (.int .u32)] [] (λa r=>Qjy (argI a 0)) (λX=> .agg (Q05.cells X)) (λX=>[])
theorem Zai:Q06 pG Ze0:=oS (.nil) Tryz.func127 Tryz.call127 [] [] 2
def Qee(pages:Int):Tree (List Int):=
.br (decide (pages<1)) (.lf ([])) (.br (decide (pages>32)) (.lf ([])) (.cn (bT 0 1&&bS 1 1&&List.all [D.int u32 0] D.plain&&decide (0<=wrap i64 (pages*32)/\wrap i64 (pages*32)<=wrap i64 (pages*32)/\wrap i64 (pages*32)<=9223372036854775807/\(↑4:Int)*wrap i64 (pages*32)<=140737488355328)) (.lf (List.replicate (dB (wrap i64 (pages*32))) 0))))
def Qu6 pages:=(Qee pages).m
abbrev Qfx pages:=(Qee pages).p
def Zmd:Q0e:=mT 128 [] true [.one (.int .i64)] [] (λa r=>Qee (argI a 0)) (λX=> .all 0) (λX=>[⟨false,25,1, .ints .u32 X⟩])
theorem Zhh:Q06 pG Zmd:=oT (.nil) Tryz.func128 Tryz.call128 [.row 25 1 (.ints .u32)] [] 2
def Q8s(pages blocks:Int)(image:List Int):Tree (Q00×Bool):=
let T1:Tree ((Q00×Bool)):= .lf ({B1:={X:={a0:=0,a1:=0,a2:=0,a3:=0,a4:=0,a5:=0,a6:=0,a7:=0,a8:=0,a9:=0,a10:=0,a11:=0,a12:=0,a13:=0,a14:=0,a15:=0},Pc:=0,B5:={a0:=0,a1:=0,a2:=0,a3:=0,a4:=0,a5:=0,a6:=0,a7:=0}},Mem:=[],A4:={D3:=[]},B0:={D2:=false,C8:=0,D5:=false},B2:={Blocks:=0,C2:=0,Frame:=0,C0:=0,D8:=0,B7:=0,B3:=0,C4:=[]},C6:={Frame:=0,E0:=0,C7:=false,B9:=0,B8:=false,F1:=0},A2:={D0:=0,C3:=0},A1:=0,A7:=false,A9:=false},false); .br (decide (pages<1)) T1 (.br (decide (pages>32)) T1 (.br (decide (blocks<0)) T1 (.br (decide (blocks>64)) T1 (.br (decide ((image.length:Int)>wrap i64 (pages*32))) T1 (.lv (Qq5 0) λ(x0:Q05)=> .an (Qfx pages) (.lv (Qu6 pages) λ(x1:List Int)=> .lf ({B1:=x0,Mem:=cW (Min.min (image.length) (x1.length)) image++cX (Min.min (image.length) (x1.length)) x1,A4:={D3:=[]},B0:={D2:=false,C8:=0,D5:=false},B2:={Blocks:=wrap u32 blocks,C2:=0,Frame:=0,C0:=0,D8:=0,B7:=0,B3:=0,C4:=[]},C6:={Frame:=0,E0:=0,C7:=false,B9:=0,B8:=false,F1:=0},A2:={D0:=0,C3:=0},A1:=0,A7:=false,A9:=false},true)))))))
def Q20 pages blocks image:=(Q8s pages blocks image).m
abbrev Q9n pages blocks image:=(Q8s pages blocks image).p
def Zmn:Q0e:=mT 37 [] true [.one (.int .i64), .one (.int .i64), .one (.ints .u32)] [] (λa r=>Q8s (argI a 0) (argI a 1) (argL .u32 a 2)) (λX=> .tup [.agg (Q00.cellsW (X.1) (.all 0)), .bool (X.2)]) (λX=>[⟨false,25,1, .ints .u32 (X.1).Mem⟩])
theorem Z2l:Q06 pG Zmn:=oT (.cons Zai (.cons Zhh (.nil))) Tryz.func37 Tryz.call37 [.row 25 1 (.ints .u32)] [] 2
def Qiv(a b:List Int)(z:(Int)):Prop:=0<=z/\z<=a.length/\a.length=b.length
def Q50(a b:List Int)(z:(Int)):Nat:=(a.length-z).toNat
def Q8d(a b:List Int):Tree Bool:=
.br ((a.length:Int) !=(b.length:Int)) (.lf false) (.lp inferInstance (Q50 a b 0+1) ((((Els.Nil (Els.ints u32 a)\/rE (1:Nat))/\rE (a:List Int))/\((Els.Nil (Els.ints u32 b)\/rE (1:Nat))/\rE (b:List Int))/\rE (0:Int)/\True)/\True) 0 λ(v0:Int)=> .br (decide (v0<(a.length:Int))) (.cn (bS 1 1&&bT 0 1&&decide (0<=v0/\v0<(a.length:Int))) (.cn (bS 1 1&&bT 0 1&&decide (0<=v0/\v0<(b.length:Int))) (.br (a.getD v0.toNat 0 !=b.getD v0.toNat 0) (.lf (Sum.inr false)) (.nx ((((Els.Nil (Els.ints u32 a)\/rE (1:Nat))/\rE (a:List Int))/\((Els.Nil (Els.ints u32 b)\/rE (1:Nat))/\rE (b:List Int))/\rE ((wrap i64 (v0+1)):Int)/\True)/\True) (Sum.inl (wrap i64 (v0+1))))))) (.lf (Sum.inr true)))
def Qf7 a b:=(Q8d a b).m
def Q9(a b:List Int):Prop:=
a.length<=1000000000000
theorem Qub(a b:List Int)(hw:Q9 a b):(Q8d a b).p:=by
 simp only[Q9]at hw
 unfold Tree.p Q8d
 repeat'(first|refine w_lp (inv:=Qiv a b) (μ:=Q50 a b) ?_ (cK _) (λ_ _=> ?_)|exact trivial|refine w_br (λ_=> ?_) (λ_=> ?_)|refine w_cn ?_ ?_|refine w_an ?_ ?_|refine w_lv (λ_ _=> ?_)|refine w_nx ?_|refine w_lf ?_|refine And.intro ?_ ?_)
 all_goals((try simp only[Qiv,Q50]at*);exact fin0)
def Qwt:LInv:={
 α:=(Int)
 F:=λst a=>([(0,(lk st 0)),(1,(lk st 1)),(5, .int i64 a)],[])
 a0:=λst=>(lk st 5).toInt
 ex0:=λst=>[]++[]}
def Qri:List (Nat×LInv):=[(4,Qwt)]
def Qz3:Q0e:=mkP 49 [] true [.one (.ints .u32), .one (.ints .u32)] [] (λa r=>Q9 (argL .u32 a 0) (argL .u32 a 1)) (λa r=>Qf7 (argL .u32 a 0) (argL .u32 a 1)) (λX=> .bool X) (λX=>[])
theorem Qvu:Q06 pG Qz3:=Q0p drawn Q0l (.nil) Tryz.func49 Tryz.call49 (λa r=>Q8d (argL .u32 a 0) (argL .u32 a 1)) [] Qri 3 (hp:=λa r h=>Qub (argL .u32 a 0) (argL .u32 a 1) h)
def Qi5(a b:Q00):Tree Bool:=
.br (eqs [D.int u32 a.B1.X.a0,D.int u32 a.B1.X.a1,D.int u32 a.B1.X.a2,D.int u32 a.B1.X.a3,D.int u32 a.B1.X.a4,D.int u32 a.B1.X.a5,D.int u32 a.B1.X.a6,D.int u32 a.B1.X.a7,D.int u32 a.B1.X.a8,D.int u32 a.B1.X.a9,D.int u32 a.B1.X.a10,D.int u32 a.B1.X.a11,D.int u32 a.B1.X.a12,D.int u32 a.B1.X.a13,D.int u32 a.B1.X.a14,D.int u32 a.B1.X.a15,D.int u32 a.B1.Pc,D.int u32 a.B1.B5.a0,D.int u32 a.B1.B5.a1,D.int u32 a.B1.B5.a2,D.int u32 a.B1.B5.a3,D.int u32 a.B1.B5.a4,D.int u32 a.B1.B5.a5,D.int u32 a.B1.B5.a6,D.int u32 a.B1.B5.a7] [D.int u32 b.B1.X.a0,D.int u32 b.B1.X.a1,D.int u32 b.B1.X.a2,D.int u32 b.B1.X.a3,D.int u32 b.B1.X.a4,D.int u32 b.B1.X.a5,D.int u32 b.B1.X.a6,D.int u32 b.B1.X.a7,D.int u32 b.B1.X.a8,D.int u32 b.B1.X.a9,D.int u32 b.B1.X.a10,D.int u32 b.B1.X.a11,D.int u32 b.B1.X.a12,D.int u32 b.B1.X.a13,D.int u32 b.B1.X.a14,D.int u32 b.B1.X.a15,D.int u32 b.B1.Pc,D.int u32 b.B1.B5.a0,D.int u32 b.B1.B5.a1,D.int u32 b.B1.B5.a2,D.int u32 b.B1.B5.a3,D.int u32 b.B1.B5.a4,D.int u32 b.B1.B5.a5,D.int u32 b.B1.B5.a6,D.int u32 b.B1.B5.a7]) (.an (Q9 a.Mem b.Mem) (.lv (Qf7 a.Mem b.Mem) λ(x0:Bool)=> .br x0 (.br (eqs [D.str a.A4.D3] [D.str b.A4.D3]) (.br (eqs [D.bool a.B0.D2,D.int u32 a.B0.C8,D.bool a.B0.D5] [D.bool b.B0.D2,D.int u32 b.B0.C8,D.bool b.B0.D5]) (.br (eqs [D.int u32 a.B2.Blocks,D.int u32 a.B2.C2,D.int u32 a.B2.Frame,D.int i64 a.B2.C0,D.int i64 a.B2.D8,D.int u32 a.B2.B7,D.int u32 a.B2.B3,D.str a.B2.C4] [D.int u32 b.B2.Blocks,D.int u32 b.B2.C2,D.int u32 b.B2.Frame,D.int i64 b.B2.C0,D.int i64 b.B2.D8,D.int u32 b.B2.B7,D.int u32 b.B2.B3,D.str b.B2.C4]) (.br (eqs [D.int u32 a.C6.Frame,D.int u32 a.C6.E0,D.bool a.C6.C7,D.int u32 a.C6.B9,D.bool a.C6.B8,D.int u32 a.C6.F1] [D.int u32 b.C6.Frame,D.int u32 b.C6.E0,D.bool b.C6.C7,D.int u32 b.C6.B9,D.bool b.C6.B8,D.int u32 b.C6.F1]) (.br (eqs [D.int u32 a.A2.D0,D.int u32 a.A2.C3] [D.int u32 b.A2.D0,D.int u32 b.A2.C3]) (.br (a.A1==b.A1) (.br (a.A7==b.A7) (.lf (a.A9==b.A9)) (.lf false)) (.lf false)) (.lf false)) (.lf false)) (.lf false)) (.lf false)) (.lf false)) (.lf false))) (.lf false)
def Zfj a b:=(Qi5 a b).m
abbrev Qsq a b:=(Qi5 a b).p
def Zhc:Q0e:=mT 19 [] true [.agg Q00.sig, .agg Q00.sig] [] (λa r=>Qi5 (Q00.of (aC a 0)) (Q00.of (aC a 1))) (λX=> .bool X) (λX=>[])
theorem Zgc:Q06 pG Zhc:=oT (.cons Qvu (.nil)) Tryz.func19 Tryz.call19 [] [] 2
def Q2e(m:Q00):Tree Bool:=
.an (Qbx m) (.lv (Q2h m) λ(x0:Bool)=> .br (!x0) (.lf false) (.an (Qap m) (.lv (Q0s m) λ(x1:Q00)=> .an (Qk7 x1.B1 x1.Mem) (.lv (Q57 x1.B1 x1.Mem) λ(x2:Q05×List Int×Q18)=> .br (x2.2.2.B6==1) (.lf (x2.2.2.D1==2)) (.lf false)))))
def Q2 m:=(Q2e m).m
abbrev Q1r m:=(Q2e m).p
def Qqe:Q0e:=mT 30 [] true [.agg Q00.sig] [] (λa r=>Q2e (Q00.of (aC a 0))) (λX=> .bool X) (λX=>[])
theorem Qfz:Q06 pG Qqe:=oT (.cons Qof (.cons Qn5 (.cons Z2 (.nil)))) Tryz.func30 Tryz.call30 [] [] 2
