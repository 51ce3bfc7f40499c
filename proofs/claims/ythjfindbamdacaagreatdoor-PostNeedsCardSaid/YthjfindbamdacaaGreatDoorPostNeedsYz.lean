import Derived.Test.YthjfindbamdacaaGreatDoorPostNeedsFh
import Derived.Test.YthjfindbamdacaaGreatDoorPostNeedsYx
open List renaming take->cW,drop->cX,length->dG,set->dC,getD->aK
open Int renaming toNat->dB,tmod->dA
open UInt8 renaming toNat->eQ
open Nat renaming blt->bJ,beq->bT,lt_succ_self->cL
set_option maxRecDepth 100000
set_option linter.all false
namespace Go.Proofs.YthjfindbamdacaaGreatDoor
open Go Go.GD Go.IntKind
noncomputable section
def Q3c(m:Q00):Tree Bool:=
.an (Q4h m) (.lv (Q10 m) λ(x0:Bool)=>.br x0 (.br (!m.A6) (.an (Qaz m) (.lv (Q4p m) λ(x1:Bool)=>.br (!x1) (.lf (decide (m.A3<1152921504606846976))) (.lf false))) (.lf false)) (.lf false))
def Q17 m:=(Q3c m).m
abbrev Qm m:=(Q3c m).p
def Z41:Q0a:=mT 61 [] true [.agg Q00.sig] [] (λa r=>Q3c (Q00.of (aC a 0))) (λX=>.bool X) (λX=>[])
theorem Z05:Q04 pG Z41:=oT (.cons Qdz (.cons Qnw (.nil))) Tryz.func61 Tryz.call61 [] [] 2
def Qh1(m:Q00)(z:(Int)):Nat:=(5-z).toNat
def Q7d(m:Q00):Tree Q00:=
let E1:=({B2:=m.B2,Mem:=m.Mem,A2:=m.A2,A9:=m.A9,A7:=m.A7,C2:=m.C2,A0:=m.A0,A3:=m.A3,A4:=false,A6:=m.A6}:Q00);.br (iand u32 m.B2.B3.a0 (2:Int)==(0:Int)) (.lf (E1)) (.an (Qb9 E1) (.lv (Q5p E1) λ(x0:Int)=>.lp inferInstance (Qh1 m 0+1) ((rZ/\rZ/\rE (x0:Int)/\rE (0:Int)/\True)/\(rE m.B2.X.a0/\rE m.B2.X.a1/\rE m.B2.X.a2/\rE m.B2.X.a3/\rE m.B2.X.a4/\rE m.B2.X.a5/\rE m.B2.X.a6/\rE m.B2.X.a7/\rE m.B2.X.a8/\rE m.B2.X.a9/\rE m.B2.X.a10/\rE m.B2.X.a11/\rE m.B2.X.a12/\rE m.B2.X.a13/\rE m.B2.X.a14/\rE m.B2.X.a15/\rE m.B2.Pc/\rE m.B2.B3.a0/\rE m.B2.B3.a1/\rE m.B2.B3.a2/\rE m.B2.B3.a3/\rE m.B2.B3.a4/\rE m.B2.B3.a5/\rE m.B2.B3.a6/\rE m.B2.B3.a7/\((Els.Nil (Els.ints u32 m.Mem)\/rE (1:Nat))/\rE m.Mem)/\rE m.A2.C9/\rE m.A9.D4/\rE m.A9.C6/\rE m.A9.D3/\rE m.A7.Blocks/\rE m.A7.B8/\rE m.A7.Frame/\rE m.A7.B7/\rE m.A7.D6/\rE m.A7.B4/\rE m.A7.B1/\rE m.A7.C0/\rE m.C2.Frame/\rE m.C2.D8/\rE m.C2.C3/\rE m.C2.B6/\rE m.C2.B5/\rE m.C2.E0/\rE m.A0.C4/\rE m.A0.B9/\rE m.A3/\rE (false:Bool)/\rE m.A6/\True)/\(mE zM True True)/\True) 0 λ(v0:Int)=>.br (decide (v0<5)) (.cn (decide (0<=v0)) (.br (iand u32 x0 (ishl u32 1 v0) !=0) (.lv (Q2z m.B2 (wrap i64 (16+v0)) 0) λ(x1:Q01)=>.lf (Sum.inr {B2:=x1,Mem:=m.Mem,A2:=m.A2,A9:=m.A9,A7:=m.A7,C2:=m.C2,A0:=m.A0,A3:=m.A3,A4:=false,A6:=m.A6})) (.nx ((rZ/\rZ/\rE (x0:Int)/\rE ((wrap i64 (v0+1)):Int)/\True)/\(rE m.B2.X.a0/\rE m.B2.X.a1/\rE m.B2.X.a2/\rE m.B2.X.a3/\rE m.B2.X.a4/\rE m.B2.X.a5/\rE m.B2.X.a6/\rE m.B2.X.a7/\rE m.B2.X.a8/\rE m.B2.X.a9/\rE m.B2.X.a10/\rE m.B2.X.a11/\rE m.B2.X.a12/\rE m.B2.X.a13/\rE m.B2.X.a14/\rE m.B2.X.a15/\rE m.B2.Pc/\rE m.B2.B3.a0/\rE m.B2.B3.a1/\rE m.B2.B3.a2/\rE m.B2.B3.a3/\rE m.B2.B3.a4/\rE m.B2.B3.a5/\rE m.B2.B3.a6/\rE m.B2.B3.a7/\((Els.Nil (Els.ints u32 m.Mem)\/rE (1:Nat))/\rE m.Mem)/\rE m.A2.C9/\rE m.A9.D4/\rE m.A9.C6/\rE m.A9.D3/\rE m.A7.Blocks/\rE m.A7.B8/\rE m.A7.Frame/\rE m.A7.B7/\rE m.A7.D6/\rE m.A7.B4/\rE m.A7.B1/\rE m.A7.C0/\rE m.C2.Frame/\rE m.C2.D8/\rE m.C2.C3/\rE m.C2.B6/\rE m.C2.B5/\rE m.C2.E0/\rE m.A0.C4/\rE m.A0.B9/\rE m.A3/\rE (false:Bool)/\rE m.A6/\True)/\(mE zM True True)/\True) (Sum.inl (wrap i64 (v0+1)))))) (.lf (Sum.inr E1))))
def Q1a m:=(Q7d m).m
abbrev Qk m:=(Q7d m).p
def Qxn:LInv:={
 α:=(Int)
 F:=λst a=>([(1,.ptr 0 0 0),(2,.ptr 1 0 0),(3,(lk st 3)),(15,.int i64 a)],[⟨true,42,49,.gen [mB (cT st 1)]⟩,⟨true,42,49,.gen [mB (cT st 2)]⟩])
 a0:=λst=>(lk st 15).toInt
 ex0:=λst=>[]++[(rX st 1 0),(rX st 2 1)]}
def Qsz:List (Nat×LInv):=[(6,Qxn)]
def Z0t:Q0a:=Q0a.fz<|mkP 62 [] false [.agg Q00.sig] [] (λa r=>Qk (Q00.of (aC a 0))) (λa r=>Q1a (Q00.of (aC a 0))) (λX=>.agg (Q00.cells X)) (λX=>[])
theorem Qx7:Q04 pG Z0t:=fz_ok<|Q0i drawn Q0h (.cons Qif (.cons Qd (.nil))) Tryz.func62 Tryz.call62 (λa r=>Q7d (Q00.of (aC a 0))) [.sl (.ints .u32) false] Qsz 3 (λ_ _ _=>by kernel_rfl) (λ_ _=>rfl) (λ_ _ h=>h) (λh=>by cases h)
def Q9b(c:Q0e)(port:Int):Tree (Q0e×Int):=
.br (port==0) (.br (decide (c.C9=[])) (.lf (c,4294967295)) (.cn (decide ((0:Int)<=(0:Int)/\0<(c.C9.length:Int))) (.cn (decide ((0:Int)<=(1:Int)/\1<=(c.C9.length:Int)/\(c.C9.length:Int)<=(c.C9.length:Int))) (.lf ({C9:=cW (dB (c.C9.length:Int)-dB 1) (cX (dB 1) c.C9)},wrap u32 (↑(eQ (c.C9.getD (dB 0) (0:UInt8))):Int)))))) (.br (port==1) (.lf (c,wrap u32 (c.C9.length:Int))) (.lf (c,0)))
def Qoq c port:=(Q9b c port).m
theorem Z2x(c:Q0e)(port:Int):(Q9b c port).p:=by
 unfold Tree.p Q9b
 repeat'(first|exact trivial|refine w_br (λ_=>?_) (λ_=>?_)|refine w_cn ?_ ?_|refine w_an ?_ ?_|refine w_lv (λ_ _=>?_)|refine w_nx ?_|refine w_lf ?_|refine And.intro ?_ ?_)
 all_goals(exact fin0)
def Zca:Q0a:=mS 122 [] true [.agg Q0e.sig,.one (.int .i64)] [] (λa r=>Q9b (Q0e.of (aC a 0)) (argI a 1)) (λX=>.tup [.agg (Q0e.cells (X.1)),.int .u32 (X.2)]) (λX=>[])
theorem Z72:Q04 pG Zca:=oS (.nil) Tryz.func122 Tryz.call122 [] [] 2 (λ_ _ _=>by kernel_rfl) (λa r=>Z2x (Q0e.of (aC a 0)) (argI a 1)) (λ_ X=>by kernel_rfl)
def Qo4(t:Q0l):Tree Int:=
.br t.D3 (.lf 1) (.lf 0)
def Qyd t:=(Qo4 t).m
def Zld:Q0a:=mS 123 [] true [.agg Q0l.sig] [] (λa r=>Qo4 (Q0l.of (aC a 0))) (λX=>.int .u32 X) (λX=>[])
theorem Zga:Q04 pG Zld:=oS (.nil) Tryz.func123 Tryz.call123 [] [] 2
def Qt5(d0:Q0d)(port:Int):Tree Int:=
.br (port==4) (.lf d0.B8) (.br (port==5) (.lf d0.Frame) (.br (port==6) (.lf (wrap u32 d0.B7)) (.lf 0)))
def Quu d0 port:=(Qt5 d0 port).m
def yw:Q0a:=mS 124 [] true [.agg Q0d.sig,.one (.int .i64)] [] (λa r=>Qt5 (Q0d.of (aC a 0)) (argI a 1)) (λX=>.int .u32 X) (λX=>[])
theorem Zk9:Q04 pG yw:=oS (.nil) Tryz.func124 Tryz.call124 [] [] 2
def Qsn(n:Q0w)(port:Int):Tree Int:=
.br (port==7) (.lf n.Frame) (.br (port==8) (.lf n.E0) (.br (port==9) (.br n.C3 (.br n.B5 (.lf (wrap u32 (wrap u32 ((0:Int)+(1:Int))+2))) (.lf (wrap u32 ((0:Int)+(1:Int))))) (.br n.B5 (.lf (wrap u32 ((0:Int)+(2:Int)))) (.lf 0))) (.lf 0)))
def Z12 n port:=(Qsn n port).m
def qN:Q0a:=mS 125 [] true [.agg Q0w.sig,.one (.int .i64)] [] (λa r=>Qsn (Q0w.of (aC a 0)) (argI a 1)) (λX=>.int .u32 X) (λX=>[])
theorem vw:Q04 pG qN:=oS (.nil) Tryz.func125 Tryz.call125 [] [] 2
def Qbf(b:Q06)(port:Int):Tree Int:=
.br (port==10) (.lf b.C4) (.br (port==11) (.an (Qdd b) (.lv (Qbs b) λ(x0:Int)=>.lf (wrap u32 x0))) (.lf 0))
def Qoe b port:=(Qbf b port).m
abbrev Qpt b port:=(Qbf b port).p
def Zcz:Q0a:=mT 126 [] true [.agg Q06.sig,.one (.int .i64)] [] (λa r=>Qbf (Q06.of (aC a 0)) (argI a 1)) (λX=>.int .u32 X) (λX=>[])
theorem Z80:Q04 pG Zcz:=oT (.cons Qly (.nil)) Tryz.func126 Tryz.call126 [] [] 2
def Q3p(m:Q00)(port clock:Int):Tree (Q00×Int):=
let T1:Tree ((Q00×Int)):=.lv (Qoq m.A2 port) λ(x0:Q0e×Int)=>.lf ({B2:=m.B2,Mem:=m.Mem,A2:=x0.1,A9:=m.A9,A7:=m.A7,C2:=m.C2,A0:=m.A0,A3:=m.A3,A4:=m.A4,A6:=m.A6},x0.2);.br (port==0) T1 (.br (port==1) T1 (.br (port==2) (.lf (m,clock)) (.br (port==3) (.lv (Qyd m.A9) λ(x2:Int)=>.lf (m,x2)) (.br (port==4) (.lv (Quu m.A7 port) λ(x3:Int)=>.lf (m,x3)) (.br (port==5) (.lv (Quu m.A7 port) λ(x4:Int)=>.lf (m,x4)) (.br (port==6) (.lv (Quu m.A7 port) λ(x5:Int)=>.lf (m,x5)) (.br (port==7) (.lv (Z12 m.C2 port) λ(x6:Int)=>.lf (m,x6)) (.br (port==8) (.lv (Z12 m.C2 port) λ(x7:Int)=>.lf (m,x7)) (.br (port==9) (.lv (Z12 m.C2 port) λ(x8:Int)=>.lf (m,x8)) (let T2:Tree ((Q00×Int)):=.an (Qpt m.A0 port) (.lv (Qoe m.A0 port) λ(x9:Int)=>.lf (m,x9));.br (port==10) T2 (.br (port==11) T2 (.lf (m,0)))))))))))))
def Q0r m port clock:=(Q3p m port clock).m
abbrev Qfj m port clock:=(Q3p m port clock).p
def Qrc:Q0a:=Q0a.fz<|mkP 64 [] false [.agg Q00.sig,.one (.int .i64),.one (.int .u32)] [] (λa r=>Qfj (Q00.of (aC a 0)) (argI a 1) (argI a 2)) (λa r=>Q0r (Q00.of (aC a 0)) (argI a 1) (argI a 2)) (λX=>.tup [.agg (Q00.cells (X.1)),.int .u32 (X.2)]) (λX=>[])
theorem Qqa:Q04 pG Qrc:=fz_ok<|Q0i drawn Q0h (.cons Z72 (.cons Zga (.cons Zk9 (.cons vw (.cons Z80 (.nil)))))) Tryz.func64 Tryz.call64 (λa r=>Q3p (Q00.of (aC a 0)) (argI a 1) (argI a 2)) [.sl (.ints .u32) false] [] 2 (λ_ _ _=>by kernel_rfl) (λ_ _=>rfl) (λ_ _ h=>h) (λh=>by cases h)
def Qko(t:Q0l)(deadline:Int):Tree Q0l:=
.lf ({D4:=deadline !=0,C6:=deadline,D3:=false})
def Qi2 t deadline:=(Qko t deadline).m
def Zh2:Q0a:=mS 127 [] true [.agg Q0l.sig,.one (.int .u32)] [] (λa r=>Qko (Q0l.of (aC a 0)) (argI a 1)) (λX=>.agg (Q0l.cells X)) (λX=>[])
theorem Zc0:Q04 pG Zh2:=oS (.nil) Tryz.func127 Tryz.call127 [] [] 2
def Qa5(m:List Int)(frame:Int):Tree Bool:=
.lv (Q0u m) λ(x0:Int)=>.lf (decide (wrap u64 frame<wrap u64 x0))
def Q5j m frame:=(Qa5 m frame).m
def Z8j:Q0a:=mS 134 [] true [.one (.ints .u32),.one (.int .u32)] [] (λa r=>Qa5 (argL .u32 a 0) (argI a 1)) (λX=>.bool X) (λX=>[])
theorem Z4b:Q04 pG Z8j:=oS (.cons Q2b (.nil)) Tryz.func134 Tryz.call134 [] [] 2
def Q82(m:List Int)(frame:Int):Tree Bool:=
.br (decide (frame>=0)) (.lv (Q0u m) λ(x0:Int)=>.lf (decide (frame<x0))) (.lf false)
def Q57 m frame:=(Q82 m frame).m
def Qy:Q0a:=mS 60 [] true [.one (.ints .u32),.one (.int .i64)] [] (λa r=>Q82 (argL .u32 a 0) (argI a 1)) (λX=>.bool X) (λX=>[])
theorem Qkf:Q04 pG Qy:=oS (.cons Q2b (.nil)) Tryz.func60 Tryz.call60 [] [] 2
def Qlv(words:List Int)(z:(Int)×(List Int)):Prop:=0<=z.1/\z.1<=words.length/\(z.2.length:Int)=4*z.1
def Q7h(words:List Int)(z:(Int)×(List Int)):Nat:=(words.length-z.1).toNat
def Q51(words:List Int):Tree (List UInt8):=
.cn (bJ 0 1&&bT 1 1&&List.all [D.int u8 0] D.plain&&decide ((0:Int)<=(0:Int)/\0<=wrap i64 (4*(words.length:Int))/\wrap i64 (4*(words.length:Int))<=9223372036854775807/\(↑1:Int)*wrap i64 (4*(words.length:Int))<=140737488355328)) (.lp inferInstance (Q7h words (0,[])+1) ((True/\((Els.Nil (Els.ints u32 words)\/rE (1:Nat))/\rE (words:List Int))/\rE ((words.length:Int):Int)/\rE (0:Int)/\True)/\rE ([]:List Int)/\True) (0,[]) λ(v0:Int×List Int)=>.br (decide (v0.1<(words.length:Int))) (.cn (bT 1 1&&bJ 0 1&&decide (0<=v0.1/\v0.1<(words.length:Int))) (.cn (decide (1*(v0.2.length+4)<=140737488355328)) (let E1:=words.getD v0.1.toNat 0;.nx ((True/\((Els.Nil (Els.ints u32 words)\/rE (1:Nat))/\rE (words:List Int))/\rE ((words.length:Int):Int)/\rE ((wrap i64 (v0.1+1)):Int)/\True)/\rE ((v0.2++[wrap u8 (words.getD v0.1.toNat 0),wrap u8 (ishr u32 (words.getD v0.1.toNat 0) 8),wrap u8 (ishr u32 (words.getD v0.1.toNat 0) 16),wrap u8 (ishr u32 (words.getD v0.1.toNat 0) 24)]):List Int)/\True) (Sum.inl (wrap i64 (v0.1+1),v0.2++[wrap u8 E1,wrap u8 (ishr u32 E1 8),wrap u8 (ishr u32 E1 16),wrap u8 (ishr u32 E1 24)]))))) (.lf (Sum.inr (bytesOf v0.2))))
def Z08 words:=(Q51 words).m
def Qcj(words:List Int):Prop:=
words.length<=1000000000000
theorem Z1a(words:List Int)(hw:Qcj words):(Q51 words).p:=by
 simp only[Qcj]at hw
 unfold Tree.p Q51
 repeat'(first|refine w_lp (inv:=Qlv words) (μ:=Q7h words) ?_ (cL _) (λ_ _=>?_)|exact trivial|refine w_br (λ_=>?_) (λ_=>?_)|refine w_cn ?_ ?_|refine w_an ?_ ?_|refine w_lv (λ_ _=>?_)|refine w_nx ?_|refine w_lf ?_|refine And.intro ?_ ?_)
 all_goals((try simp only[Qlv,Q7h]at*);exact fin0)
def Z4c:LInv:={
 α:=(Int)×(List Int)
 F:=λst a=>([(3,.all 0),(10,(lk st 10)),(11,(lk st 11)),(12,.int i64 a.1)],[⟨false,5,1,.ints u8 a.2⟩])
 a0:=λst=>((lk st 12).toInt,(Q5v st.rows (rN st 3)))
 ex0:=λst=>[]++[(rX st 3 0)]}
def Qxj:List (Nat×LInv):=[(3,Z4c)]
def Z6y:Q0a:=mkP 66 [] true [.one (.ints .u32)] [] (λa r=>Qcj (argL .u32 a 0)) (λa r=>Z08 (argL .u32 a 0)) (λX=>.str X) (λX=>[])
theorem Z2r:Q04 pG Z6y:=Q0i drawn Q0h (.nil) Tryz.func66 Tryz.call66 (λa r=>Q51 (argL .u32 a 0)) [] Qxj 3 (hp:=λa r h=>Z1a (argL .u32 a 0) h)
def Q53(m:List Int)(frame:Int):Tree ((List UInt8)×Bool):=
.lv (Q57 m frame) λ(x0:Bool)=>.br (!x0) (.lf ([],false)) (.cn (bT 1 1&&bJ 0 1&&decide (0<=wrap i64 (frame*32)/\wrap i64 (frame*32)<=wrap i64 (wrap i64 (frame*32)+32)/\wrap i64 (wrap i64 (frame*32)+32)<=(m.length:Int))) (let E1:=cW (dB (wrap i64 (wrap i64 (frame*32)+32))-dB (wrap i64 (frame*32))) (cX (dB (wrap i64 (frame*32))) m);.an (Qcj E1) (.lv (Z08 E1) λ(x1:List UInt8)=>.lf (x1,true))))
def Q12 m frame:=(Q53 m frame).m
abbrev Q4o m frame:=(Q53 m frame).p
def Z6z:Q0a:=mT 23 [] true [.one (.ints .u32),.one (.int .i64)] [] (λa r=>Q53 (argL .u32 a 0) (argI a 1)) (λX=>.tup [.str (X.1),.bool (X.2)]) (λX=>[])
theorem Qe1:Q04 pG Z6z:=oT (.cons Qkf (.cons Z2r (.nil))) Tryz.func23 Tryz.call23 [] [] 2
def Qpp(d0:Q0d)(at0:Int):Tree (Q0b×Bool):=
.br (d0.B7 !=1) (.lf ({C1:=0,At:=0,B8:=0,C8:=[]},false)) (.br (d0.D6==1) (.lf ({C1:=3,At:=at0,B8:=d0.B4,C8:=[]},true)) (.br (d0.D6==2) (.lf ({C1:=4,At:=at0,B8:=d0.B4,C8:=d0.C0},true)) (.lf ({C1:=0,At:=0,B8:=0,C8:=[]},false))))
def Qie d0 at0:=(Qpp d0 at0).m
def Z3a:Q0a:=mS 254 [] true [.agg Q0d.sig,.one (.int .u64)] [] (λa r=>Qpp (Q0d.of (aC a 0)) (argI a 1)) (λX=>.tup [.agg (Q0b.cells (X.1)),.bool (X.2)]) (λX=>[])
theorem Z0b:Q04 pG Z3a:=oS (.nil) Tryz.func254 Tryz.call254 [] [] 2
def Q9g(d0:Q0d)(m:List Int)(cmd at0:Int):Tree (Q0d×(List Q0b)):=
.br (d0.B7 !=0) (.lf (d0,[])) (let T1:Tree ((Q0d×(List Q0b))):=.lf ({Blocks:=d0.Blocks,B8:=d0.B8,Frame:=d0.Frame,B7:=3,D6:=d0.D6,B4:=d0.B4,B1:=d0.B1,C0:=d0.C0},[]);.br (decide (d0.B8>=d0.Blocks)) T1 (.lv (Q5j m d0.Frame) λ(x0:Bool)=>.br (!x0) T1 (.br (cmd==2) (.an (Q4o m (wrap i64 d0.Frame)) (.lv (Q12 m (wrap i64 d0.Frame)) λ(x1:List UInt8×Bool)=>let E2:=({Blocks:=d0.Blocks,B8:=d0.B8,Frame:=d0.Frame,B7:=1,D6:=cmd,B4:=d0.B8,B1:=d0.Frame,C0:=x1.1}:Q0d);.lv (Qie E2 at0) λ(x2:Q0b×Bool)=>.lf (E2,[x2.1]))) (let E3:=({Blocks:=d0.Blocks,B8:=d0.B8,Frame:=d0.Frame,B7:=1,D6:=cmd,B4:=d0.B8,B1:=d0.Frame,C0:=[]}:Q0d);.lv (Qie E3 at0) λ(x3:Q0b×Bool)=>.lf (E3,[x3.1])))))
def Qg6 d0 m cmd at0:=(Q9g d0 m cmd at0).m
abbrev Qpg d0 m cmd at0:=(Q9g d0 m cmd at0).p
def Zbw:Q0a:=mT 192 [] true [.agg Q0d.sig,.one (.ints .u32),.one (.int .i64),.one (.int .u64)] [] (λa r=>Q9g (Q0d.of (aC a 0)) (argL .u32 a 1) (argI a 2) (argI a 3)) (λX=>.tup [.agg (Q0d.cells (X.1)),.sl 4 (.recs .apiOutput (X.2)) true]) (λX=>[])
theorem Z7f:Q04 pG Zbw:=oT (.cons Z4b (.cons Qe1 (.cons Z0b (.nil)))) Tryz.func192 Tryz.call192 [.sl (.recs .apiOutput) true] [] 2
def Qcu(d0:Q0d)(m:List Int)(port v at0:Int):Tree (Q0d×(List Q0b)):=
.br (port==4) (.lf ({Blocks:=d0.Blocks,B8:=v,Frame:=d0.Frame,B7:=d0.B7,D6:=d0.D6,B4:=d0.B4,B1:=d0.B1,C0:=d0.C0},[])) (.br (port==5) (.lf ({Blocks:=d0.Blocks,B8:=d0.B8,Frame:=v,B7:=d0.B7,D6:=d0.D6,B4:=d0.B4,B1:=d0.B1,C0:=d0.C0},[])) (.br (port==6) (let T1:Tree ((Q0d×(List Q0b))):=.an (Qpg d0 m (wrap i64 v) at0) (.lv (Qg6 d0 m (wrap i64 v) at0) λ(x0:Q0d×List Q0b)=>.lf (x0.1,x0.2));.br (v==1) T1 (.br (v==2) T1 (.br (v==0) (.lv (Q97 d0) λ(x2:Bool)=>.br x2 (.lf ({Blocks:=d0.Blocks,B8:=d0.B8,Frame:=d0.Frame,B7:=0,D6:=d0.D6,B4:=d0.B4,B1:=d0.B1,C0:=d0.C0},[])) (.lf (d0,[]))) (.lf (d0,[]))))) (.lf (d0,[]))))
def Q7v d0 m port v at0:=(Qcu d0 m port v at0).m
abbrev Qvs d0 m port v at0:=(Qcu d0 m port v at0).p
def Zko:Q0a:=mT 128 [] true [.agg Q0d.sig,.one (.ints .u32),.one (.int .i64),.one (.int .u32),.one (.int .u64)] [] (λa r=>Qcu (Q0d.of (aC a 0)) (argL .u32 a 1) (argI a 2) (argI a 3) (argI a 4)) (λX=>.tup [.agg (Q0d.cells (X.1)),.sl 4 (.recs .apiOutput (X.2)) true]) (λX=>[])
theorem Zf7:Q04 pG Zko:=oT (.cons Z7f (.cons Qmk (.nil))) Tryz.func128 Tryz.call128 [.sl (.recs .apiOutput) true] [] 2
def Qbl(m:List Int)(frame:Int):Tree Bool:=
.lv (Q0u m) λ(x0:Int)=>.lf (decide (wrap u64 frame<wrap u64 x0))
def Q61 m frame:=(Qbl m frame).m
def Zc8:Q0a:=mS 135 [] true [.one (.ints .u32),.one (.int .u32)] [] (λa r=>Qbl (argL .u32 a 0) (argI a 1)) (λX=>.bool X) (λX=>[])
theorem Qrl:Q04 pG Zc8:=oS (.cons Q2b (.nil)) Tryz.func135 Tryz.call135 [] [] 2
def Qdo(n:Q0w)(m:List Int)(at0:Int):Tree (List Q0b):=
.br (decide (n.D8<1)) (.lf ([])) (.br (decide (n.D8>128)) (.lf ([])) (.lv (Q61 m n.Frame) λ(x0:Bool)=>.br (!x0) (.lf ([])) (.an (Q4o m (wrap i64 n.Frame)) (.lv (Q12 m (wrap i64 n.Frame)) λ(x1:List UInt8×Bool)=>.cn (decide ((0:Int)<=(0:Int)/\0<=n.D8/\n.D8<=(x1.1.length:Int))) (.lf ([{C1:=2,At:=at0,B8:=0,C8:=cW (dB n.D8-dB 0) (cX (dB 0) x1.1)}]))))))
def Qom n m at0:=(Qdo n m at0).m
abbrev Qw5 n m at0:=(Qdo n m at0).p
def Zkk:Q0a:=mT 193 [] true [.agg Q0w.sig,.one (.ints .u32),.one (.int .u64)] [] (λa r=>Qdo (Q0w.of (aC a 0)) (argL .u32 a 1) (argI a 2)) (λX=>.sl 4 (.recs .apiOutput X) true) (λX=>[])
theorem Zfx:Q04 pG Zkk:=oT (.cons Qrl (.cons Qe1 (.nil))) Tryz.func193 Tryz.call193 [.sl (.recs .apiOutput) true] [] 2
def Qh(n:Q0w)(m:List Int)(port v at0:Int):Tree (Q0w×(List Q0b)):=
.br (port==7) (.lf ({Frame:=v,D8:=n.D8,C3:=n.C3,B6:=n.B6,B5:=n.B5,E0:=n.E0},[])) (.br (port==8) (.lf ({Frame:=n.Frame,D8:=v,C3:=n.C3,B6:=n.B6,B5:=n.B5,E0:=n.E0},[])) (.br (port==9) (.br (v==1) (.an (Qw5 n m at0) (.lv (Qom n m at0) λ(x0:List Q0b)=>.lf (n,x0))) (.br (v==2) (.lv (Q61 m n.Frame) λ(x1:Bool)=>.br x1 (.br (!n.C3) (.br (!n.B5) (.lf ({Frame:=n.Frame,D8:=n.D8,C3:=true,B6:=n.Frame,B5:=n.B5,E0:=n.E0},[])) (.lf (n,[]))) (.lf (n,[]))) (.lf (n,[]))) (.br (v==0) (.lf ({Frame:=n.Frame,D8:=n.D8,C3:=n.C3,B6:=n.B6,B5:=false,E0:=0},[])) (.lf (n,[]))))) (.lf (n,[]))))
def Qbb n m port v at0:=(Qh n m port v at0).m
abbrev Qzt n m port v at0:=(Qh n m port v at0).p
def qx:Q0a:=mT 129 [] true [.agg Q0w.sig,.one (.ints .u32),.one (.int .i64),.one (.int .u32),.one (.int .u64)] [] (λa r=>Qh (Q0w.of (aC a 0)) (argL .u32 a 1) (argI a 2) (argI a 3) (argI a 4)) (λX=>.tup [.agg (Q0w.cells (X.1)),.sl 4 (.recs .apiOutput (X.2)) true]) (λX=>[])
theorem Zk2:Q04 pG qx:=oT (.cons Zfx (.cons Qrl (.nil))) Tryz.func129 Tryz.call129 [.sl (.recs .apiOutput) true] [] 2
def Qah(m:List Int)(frame:Int)(s:List UInt8)(z:(Int)×(List Int)):Nat:=(32-z.1).toNat
def Q3t(m:List Int)(frame:Int)(s:List UInt8):Tree ((List Int)×Bool):=
.an (Q07 m) (.lv (Q02 m) λ(x0:List Int)=>.lv (Q57 m frame) λ(x1:Bool)=>.br (!x1) (.lf (x0,false)) (.br ((s.length:Int) !=(128:Int)) (.lf (x0,false)) (.lp inferInstance (Qah m frame s (0,x0)+1) ((rE (s:List UInt8)/\True/\rE ((wrap i64 (frame*32)):Int)/\rE (0:Int)/\True)/\rE (x0:List Int)/\True) (0,x0) λ(v0:Int×List Int)=>.br (decide (v0.1<32)) (.cn (decide (0<=wrap i64 (4*v0.1)/\wrap i64 (4*v0.1)<=wrap i64 (wrap i64 (4*v0.1)+4)/\wrap i64 (wrap i64 (4*v0.1)+4)<=(s.length:Int))) (let E1:=cW (dB (wrap i64 (wrap i64 (4*v0.1)+4))-dB (wrap i64 (4*v0.1))) (cX (dB (wrap i64 (4*v0.1))) s);.cn (decide ((0:Int)<=(0:Int)/\0<(↑(dG E1):Int))) (.cn (decide ((0:Int)<=(1:Int)/\1<(↑(dG E1):Int))) (.cn (decide ((0:Int)<=(2:Int)/\2<(↑(dG E1):Int))) (.cn (decide ((0:Int)<=(3:Int)/\3<(↑(dG E1):Int))) (.cn (bT 1 1&&bJ 0 1&&decide (0<=wrap i64 (wrap i64 (frame*32)+v0.1)/\wrap i64 (wrap i64 (frame*32)+v0.1)<(v0.2.length:Int))) (.nx ((rE (s:List UInt8)/\True/\rE ((wrap i64 (frame*32)):Int)/\rE ((wrap i64 (v0.1+1)):Int)/\True)/\rE ((dC v0.2 (dB (wrap i64 (wrap i64 (frame*32)+v0.1))) (ior u32 (ior u32 (ior u32 (wrap u32 (↑(eQ (aK (cW (dB (wrap i64 (wrap i64 (4*v0.1)+4))-dB (wrap i64 (4*v0.1))) (cX (dB (wrap i64 (4*v0.1))) s)) (dB 0) (0:UInt8))):Int)) (ishl u32 (wrap u32 (↑(eQ (aK (cW (dB (wrap i64 (wrap i64 (4*v0.1)+4))-dB (wrap i64 (4*v0.1))) (cX (dB (wrap i64 (4*v0.1))) s)) (dB 1) (0:UInt8))):Int)) 8)) (ishl u32 (wrap u32 (↑(eQ (aK (cW (dB (wrap i64 (wrap i64 (4*v0.1)+4))-dB (wrap i64 (4*v0.1))) (cX (dB (wrap i64 (4*v0.1))) s)) (dB 2) (0:UInt8))):Int)) 16)) (ishl u32 (wrap u32 (↑(eQ (aK (cW (dB (wrap i64 (wrap i64 (4*v0.1)+4))-dB (wrap i64 (4*v0.1))) (cX (dB (wrap i64 (4*v0.1))) s)) (dB 3) (0:UInt8))):Int)) 24))):List Int)/\True) (Sum.inl (wrap i64 (v0.1+1),dC v0.2 (dB (wrap i64 (wrap i64 (frame*32)+v0.1))) (ior u32 (ior u32 (ior u32 (wrap u32 (↑(eQ (aK E1 (dB 0) (0:UInt8))):Int)) (ishl u32 (wrap u32 (↑(eQ (aK E1 (dB 1) (0:UInt8))):Int)) 8)) (ishl u32 (wrap u32 (↑(eQ (aK E1 (dB 2) (0:UInt8))):Int)) 16)) (ishl u32 (wrap u32 (↑(eQ (aK E1 (dB 3) (0:UInt8))):Int)) 24))))))))))) (.lf (Sum.inr (v0.2,true))))))
def Q0k m frame s:=(Q3t m frame s).m
abbrev Q3l m frame s:=(Q3t m frame s).p
def Qtn:LInv:={
 α:=(Int)×(List Int)
 F:=λst a=>([(2,(lk st 2)),(8,.all 0),(9,(lk st 9)),(26,.int i64 a.1)],[⟨false,23,1,.ints u32 a.2⟩])
 a0:=λst=>((lk st 26).toInt,(Q5v st.rows (rN st 8)))
 ex0:=λst=>[]++[(rX st 8 0)]}
def Qq2:List (Nat×LInv):=[(6,Qtn)]
def Qxp:Q0a:=mT 21 [] true [.one (.ints .u32),.one (.int .i64),.one (.str)] [] (λa r=>Q3t (argL .u32 a 0) (argI a 1) (argS a 2)) (λX=>.tup [.all 0,.bool (X.2)]) (λX=>[⟨false,23,1,.ints .u32 (X.1)⟩])
theorem Qdc:Q04 pG Qxp:=oT (.cons Q1h (.cons Qkf (.nil))) Tryz.func21 Tryz.call21 [.row 23 1 (.ints .u32)] Qq2 3
def strings_Repeat(s:List UInt8)(count:Int):(List UInt8):=
Lib.repeatL s count.toNat
def Qc9(s:List UInt8)(count:Int):Prop:=
0<=count/\count<=9223372036854775807/\s.length*count.toNat<=140737488355328
def Qgq(s:List UInt8)(count:Int):List D:=[.str s,.int .i64 count]
def Qgi(s:List UInt8)(count:Int):List Row:=[]
def Qc7(X:List UInt8):D:=.str X
def Qci(X:List UInt8):List Row:=[]
def Qiv:List PT:=[.one (.str),.one (.int .i64)]
def Qi4:List RT:=[]
def Qs(args:List D)(rows:List Row):(List UInt8):=strings_Repeat (argS args 0) (argI args 1)
def Qrw(args:List D)(rows:List Row):Prop:=Qc9 (argS args 0) (argI args 1)
def Qxm:Q0a:=mkP 194 [] true Qiv Qi4 Qrw Qs Qc7 Qci
theorem Qp8(s:List UInt8)(count:Int)(hw:Qc9 s count):Q40 pG 194 (Qgq s count) (Qgi s count) (Qc7 (strings_Repeat s count)) (Qci (strings_Repeat s count)):=by
 exact xd Tryz.strings_Repeat hw.1 hw.2.1 hw.2.2
set_option maxRecDepth 100000 in
theorem Qr1(args:List D)(rows:List Row):Qmp Qiv args 0=Qgq (argS args 0) (argI args 1):=by kernel_rfl
set_option maxRecDepth 100000 in
theorem Qp9(args:List D)(rows:List Row):Qaw Qi4 rows 0=Qgi (argS args 0) (argI args 1):=by kernel_rfl
set_option maxRecDepth 100000 in
theorem Qu9(X:List UInt8):(ffB (Qc7 X)&&ffBR (Qci X))=true:=by kernel_rfl
theorem Qum:Q04 pG Qxm:=Qzh Tryz.call194 (λargs rows hp=>by rw[Qr1 args rows,Qp9 args rows];exact Qp8 (argS args 0) (argI args 1) hp) (λ_ X=>Qu9 X)
def Q34(b:Q06)(m:List Int)(port v:Int):Tree (Q06×(List Int)):=
let T1:Tree ((Q06×(List Int))):=.an (Q07 m) (.lv (Q02 m) λ(x0:List Int)=>.lf (b,x0));.br (decide (v>=32)) T1 (.cn (decide (0<=v)) (.br (port==10) (.lv (Q0u m) λ(x1:Int)=>.br (decide (wrap i64 v<x1)) (.br (iand u32 b.B9 (ishl u32 1 v)==0) (.an (Qc9 [(0:UInt8)] 128) (.lv (strings_Repeat [(0:UInt8)] 128) λ(x2:List UInt8)=>.an (Q3l m (wrap i64 v) x2) (.lv (Q0k m (wrap i64 v) x2) λ(x3:List Int×Bool)=>.lf ({C4:=b.C4,B9:=ior u32 b.B9 (ishl u32 1 v)},x3.1)))) T1) T1) (.br (port==11) (.an (Q07 m) (.lv (Q02 m) λ(x6:List Int)=>.lf ({C4:=b.C4,B9:=Q7j u32 b.B9 (ishl u32 1 v)},x6))) T1)))
def Q35 b m port v:=(Q34 b m port v).m
abbrev Qn b m port v:=(Q34 b m port v).p
def Z96:Q0a:=mT 130 [] true [.agg Q06.sig,.one (.ints .u32),.one (.int .i64),.one (.int .u32)] [] (λa r=>Q34 (Q06.of (aC a 0)) (argL .u32 a 1) (argI a 2) (argI a 3)) (λX=>.tup [.agg (Q06.cells (X.1)),.all 0]) (λX=>[⟨false,23,1,.ints .u32 (X.2)⟩])
theorem Z2z:Q04 pG Z96:=oT (.cons Q1h (.cons Q2b (.cons Qdc (.cons Qum (.nil))))) Tryz.func130 Tryz.call130 [.row 23 1 (.ints .u32)] [] 2
def Q36(m:Q00)(port v at0:Int):Tree (Q00×(List Q0b)):=
.br (port==0) (.lf (m,[{C1:=1,At:=at0,B8:=0,C8:=[(λ(n:Int)=>UInt8.ofNat n.toNat) (wrap u8 v)]}])) (.br (port==3) (.lv (Qi2 m.A9 v) λ(x0:Q0l)=>.lf ({B2:=m.B2,Mem:=m.Mem,A2:=m.A2,A9:=x0,A7:=m.A7,C2:=m.C2,A0:=m.A0,A3:=m.A3,A4:=m.A4,A6:=m.A6},[])) (let T1:Tree ((Q00×(List Q0b))):=.an (Qvs m.A7 m.Mem port v at0) (.lv (Q7v m.A7 m.Mem port v at0) λ(x1:Q0d×List Q0b)=>.lf ({B2:=m.B2,Mem:=m.Mem,A2:=m.A2,A9:=m.A9,A7:=x1.1,C2:=m.C2,A0:=m.A0,A3:=m.A3,A4:=m.A4,A6:=m.A6},x1.2));.br (port==4) T1 (.br (port==5) T1 (.br (port==6) T1 (let T2:Tree ((Q00×(List Q0b))):=.an (Qzt m.C2 m.Mem port v at0) (.lv (Qbb m.C2 m.Mem port v at0) λ(x4:Q0w×List Q0b)=>.lf ({B2:=m.B2,Mem:=m.Mem,A2:=m.A2,A9:=m.A9,A7:=m.A7,C2:=x4.1,A0:=m.A0,A3:=m.A3,A4:=m.A4,A6:=m.A6},x4.2));.br (port==7) T2 (.br (port==8) T2 (.br (port==9) T2 (let T3:Tree ((Q00×(List Q0b))):=.an (Qn m.A0 m.Mem port v) (.lv (Q35 m.A0 m.Mem port v) λ(x7:Q06×List Int)=>.lf ({B2:=m.B2,Mem:=x7.2,A2:=m.A2,A9:=m.A9,A7:=m.A7,C2:=m.C2,A0:=x7.1,A3:=m.A3,A4:=m.A4,A6:=m.A6},[]));.br (port==10) T3 (.br (port==11) T3 (.lf (m,[])))))))))))
def Q0q m port v at0:=(Q36 m port v at0).m
abbrev Qea m port v at0:=(Q36 m port v at0).p
def Qqv:Q0a:=Q0a.fz<|mkP 65 [] false [.agg Q00.sig,.one (.int .i64),.one (.int .u32),.one (.int .u64)] [] (λa r=>Qea (Q00.of (aC a 0)) (argI a 1) (argI a 2) (argI a 3)) (λa r=>Q0q (Q00.of (aC a 0)) (argI a 1) (argI a 2) (argI a 3)) (λX=>.tup [.agg (Q00.cells (X.1)),.sl 4 (.recs .apiOutput (X.2)) true]) (λX=>[])
theorem Qp4:Q04 pG Qqv:=fz_ok<|Q0i drawn Q0h (.cons Zc0 (.cons Zf7 (.cons Zk2 (.cons Z2z (.nil))))) Tryz.func65 Tryz.call65 (λa r=>Q36 (Q00.of (aC a 0)) (argI a 1) (argI a 2) (argI a 3)) [.sl (.ints .u32) false,.sl (.recs .apiOutput) true] [] 2 (λ_ _ _=>by kernel_rfl) (λ_ _=>rfl) (λ_ _ h=>h) (λh=>by cases h)
def Q58(m:Q00)(clock:Int):Tree (Q00×(List Q0b)):=
.an (Q07 m.Mem) (.lv (Q02 m.Mem) λ(x0:List Int)=>let E1:=({B2:=m.B2,Mem:=x0,A2:=m.A2,A9:=m.A9,A7:=m.A7,C2:=m.C2,A0:=m.A0,A3:=m.A3,A4:=m.A4,A6:=m.A6}:Q00);.an (Qm E1) (.lv (Q17 E1) λ(x1:Bool)=>.br (!x1) (.lf (E1,[])) (.an (Qk E1) (.lv (Q1a E1) λ(x2:Q00)=>.an (Qvw x2.B2 x2.Mem) (.lv (Q2j x2.B2 x2.Mem) λ(x3:Q01×List Int×Q1b)=>let E2:=({B2:=x3.1,Mem:=x3.2.1,A2:=x2.A2,A9:=x2.A9,A7:=x2.A7,C2:=x2.C2,A0:=x2.A0,A3:=x2.A3,A4:=x2.A4,A6:=x2.A6}:Q00);.br (x3.2.2.C1==1) (.an (Qfj E2 x3.2.2.C5 clock) (.lv (Q0r E2 x3.2.2.C5 clock) λ(x4:Q00×Int)=>.br (x3.2.2.D7 !=0) (.cn (bJ 0 1&&decide (0<=x3.2.2.D7/\x3.2.2.D7<(↑16:Int))) (.lf ({B2:={X:=A16.of 0 (dC (A16.l x4.1.B2.X) x3.2.2.D7.toNat x4.2),Pc:=x4.1.B2.Pc,B3:=x4.1.B2.B3},Mem:=x4.1.Mem,A2:=x4.1.A2,A9:=x4.1.A9,A7:=x4.1.A7,C2:=x4.1.C2,A0:=x4.1.A0,A3:=wrap u64 (x4.1.A3+1),A4:=x4.1.A4,A6:=x4.1.A6},[]))) (.lf ({B2:=x4.1.B2,Mem:=x4.1.Mem,A2:=x4.1.A2,A9:=x4.1.A9,A7:=x4.1.A7,C2:=x4.1.C2,A0:=x4.1.A0,A3:=wrap u64 (x4.1.A3+1),A4:=x4.1.A4,A6:=x4.1.A6},[])))) (.br (x3.2.2.C1==2) (.an (Qea E2 x3.2.2.C5 x3.2.2.Value m.A3) (.lv (Q0q E2 x3.2.2.C5 x3.2.2.Value m.A3) λ(x5:Q00×List Q0b)=>.lf ({B2:=x5.1.B2,Mem:=x5.1.Mem,A2:=x5.1.A2,A9:=x5.1.A9,A7:=x5.1.A7,C2:=x5.1.C2,A0:=x5.1.A0,A3:=wrap u64 (x5.1.A3+1),A4:=x5.1.A4,A6:=x5.1.A6},x5.2))) (.br (x3.2.2.C1==3) (.lf ({B2:=x3.1,Mem:=x3.2.1,A2:=x2.A2,A9:=x2.A9,A7:=x2.A7,C2:=x2.C2,A0:=x2.A0,A3:=wrap u64 (x2.A3+1),A4:=true,A6:=x2.A6},[])) (.br (x3.2.2.C1==4) (.lf ({B2:=x3.1,Mem:=x3.2.1,A2:=x2.A2,A9:=x2.A9,A7:=x2.A7,C2:=x2.C2,A0:=x2.A0,A3:=wrap u64 (x2.A3+1),A4:=x2.A4,A6:=true},[])) (.lf ({B2:=x3.1,Mem:=x3.2.1,A2:=x2.A2,A9:=x2.A9,A7:=x2.A7,C2:=x2.C2,A0:=x2.A0,A3:=wrap u64 (x2.A3+1),A4:=x2.A4,A6:=x2.A6},[]))))))))))
def Q11 m clock:=(Q58 m clock).m
abbrev Q89 m clock:=(Q58 m clock).p
def Z36:Q0a:=Q0a.fz<|mkP 22 [] false [.agg Q00.sig,.one (.int .u32)] [] (λa r=>Q89 (Q00.of (aC a 0)) (argI a 1)) (λa r=>Q11 (Q00.of (aC a 0)) (argI a 1)) (λX=>.tup [.agg (Q00.cells (X.1)),.sl 4 (.recs .apiOutput (X.2)) false]) (λX=>[])
theorem Qnn:Q04 pG Z36:=fz_ok<|Q0i drawn Q0h (.cons Q1h (.cons Z05 (.cons Qx7 (.cons Zfy (.cons Qqa (.cons Qp4 (.nil))))))) Tryz.func22 Tryz.call22 (λa r=>Q58 (Q00.of (aC a 0)) (argI a 1)) [.sl (.ints .u32) false,.sl (.recs .apiOutput) false] [] 2 (λ_ _ _=>by kernel_rfl) (λ_ _=>rfl) (λ_ _ h=>h) (λh=>by cases h)
end
noncomputable section
def Z29(op:Int):Tree Int:=
let T1:Tree (Int):=.br (op==49) (.lf 3) (let T2:Tree (Int):=.br (op==24) (.lf 6) (.br (op==48) (.lf 7) (.br (op==58) (.lf 8) (.br (op==59) (.lf 8) (.br (op==60) (.lf 9) (.br (op==61) (.lf 9) (.br (op==56) (.lf 1) (.br (op==57) (.lf 1) (.br (decide (op>=62)) (.br (decide (op<=64)) (.lf 1) (.lf 0)) (.lf 0)))))))));.br (decide (op>=17)) (.br (decide (op<=19)) (.lf 4) (.br (decide (op>=20)) (.br (decide (op<=22)) (.lf 5) T2) T2)) (.br (decide (op>=20)) (.br (decide (op<=22)) (.lf 5) T2) T2));let T3:Tree (Int):=.br (op==16) (.lf 3) (.br (op==23) (.lf 3) (.br (decide (op>=32)) (.br (decide (op<=36)) (.lf 3) (.br (decide (op>=40)) (.br (decide (op<=45)) (.lf 3) T1) T1)) (.br (decide (op>=40)) (.br (decide (op<=45)) (.lf 3) T1) T1)));.br (decide (op>=1)) (.br (decide (op<=13)) (.lf 2) T3) T3
def Q2q op:=(Z29 op).m
def Zg1:Q0a:=mS 154 [] true [.one (.int .i64)] [] (λa r=>Z29 (argI a 0)) (λX=>.int .i64 X) (λX=>[])
theorem Qem:Q04 pG Zg1:=oS (.nil) Tryz.func154 Tryz.call154 [] [] 2
def Qcm(r:Int):Tree Bool:=
.br (decide (r>=0)) (.lf (decide (r<=15))) (.lf false)
def Q7z r:=(Qcm r).m
def Z2a:Q0a:=mS 236 [] true [.one (.int .i64)] [] (λa r=>Qcm (argI a 0)) (λX=>.bool X) (λX=>[])
theorem Qxo:Q04 pG Z2a:=oS (.nil) Tryz.func236 Tryz.call236 [] [] 2
def Qla(f:Int):Tree (Int×Int):=
.br (f==3) (.lf ((-32768),32767)) (.br (f==7) (.lf ((-32768),32767)) (.br (f==4) (.lf (0,65535)) (.br (f==6) (.lf (0,65535)) (.br (f==5) (.lf (0,31)) (.br (f==8) (.lf (0,7)) (.br (f==9) (.lf (0,11)) (.lf (0,0))))))))
def Ql5 f:=(Qla f).m
def Z9s:Q0a:=mS 155 [] true [.one (.int .i64)] [] (λa r=>Qla (argI a 0)) (λX=>.tup [.int .i64 (X.1),.int .i64 (X.2)]) (λX=>[])
theorem Qpz:Q04 pG Z9s:=oS (.nil) Tryz.func155 Tryz.call155 [] [] 2
def Qer(i:Q0f):Tree Bool:=
.lv (Q2q i.Op) λ(x0:Int)=>.br (x0==0) (.lf false) (.lv (Q7z i.A) λ(x1:Bool)=>.br (!x1) (.lf false) (.lv (Q7z i.B) λ(x2:Bool)=>.br (!x2) (.lf false) (.lv (Q7z i.C) λ(x3:Bool)=>.br (!x3) (.lf false) (.lv (Ql5 x0) λ(x4:Int×Int)=>.br (decide (wrap i64 i.Imm<x4.1)) (.lf false) (.br (decide (wrap i64 i.Imm>x4.2)) (.lf false) (let T1:Tree (Bool):=.br (x0==1) (.br (i.A !=0) (.lf false) (.br (i.B==0) (.lf true) (.br (decide (x0>=2)) (.lf (decide (x0<=5))) (.lf false)))) (.br (i.B==0) (.lf true) (.br (decide (x0>=2)) (.lf (decide (x0<=5))) (.lf false)));.br (x0 !=2) (.br (i.C !=0) (.lf false) T1) T1))))))
def Q8n i:=(Qer i).m
def Zdv:Q0a:=mS 153 [] true [.agg Q0f.sig] [] (λa r=>Qer (Q0f.of (aC a 0))) (λX=>.bool X) (λX=>[])
theorem Qrg:Q04 pG Zdv:=oS (.cons Qem (.cons Qxo (.cons Qpz (.nil)))) Tryz.func153 Tryz.call153 [] [] 2
def Qfo(i:Q0f):Tree (Int×Bool):=
.lv (Q8n i) λ(x0:Bool)=>.br (!x0) (.lf (0,false)) (.lf (ior u32 (ior u32 (ior u32 (ior u32 (ishl u32 (wrap u32 i.Op) 24) (ishl u32 (wrap u32 i.A) 20)) (ishl u32 (wrap u32 i.B) 16)) (iand u32 (wrap u32 i.Imm) 65535)) (wrap u32 i.C),true))
def Q1n i:=(Qfo i).m
def Z7m:Q0a:=mS 96 [] true [.agg Q0f.sig] [] (λa r=>Qfo (Q0f.of (aC a 0))) (λX=>.tup [.int .u32 (X.1),.bool (X.2)]) (λX=>[])
theorem Qj4:Q04 pG Z7m:=oS (.cons Qrg (.nil)) Tryz.func96 Tryz.call96 [] [] 2
def Z5x:Tree (List Int):=
.lf ([1,2,3,4,5,6,7,8,9,10,11,12,13,16,16,17,18,19,20,21,22,23,24,24,32,32,33,34,35,35,36,40,41,42,43,44,45,48,49,56,57,58,59,60,60,61,61,62,63,64])
def Z9b:(List Int):=(Z5x).m
def Zl2:Q0a:=mS 156 [] true [] [] (λa r=>Z5x) (λX=>.sl 1 (.ints .i64 X) true) (λX=>[])
theorem Zgv:Q04 pG Zl2:=oS (.nil) Tryz.func156 Tryz.call156 [.sl (.ints .i64) true] [] 2
def Z28(seed:Int):Tree (Int×Int):=
let E1:=wrap u64 (ixor u64 (wrap u64 (seed+11400714819323198485)) (ishr u64 (wrap u64 (seed+11400714819323198485)) 30)*13787848793156543929);let E2:=wrap u64 (ixor u64 E1 (ishr u64 E1 27)*10723151780598845931);.lf (ixor u64 E2 (ishr u64 E2 31),wrap u64 (seed+11400714819323198485))
def Zd4 seed:=(Z28 seed).m
def Zgx:Q0a:=mS 116 [] true [.one (.int .u64)] [] (λa r=>Z28 (argI a 0)) (λX=>.tup [.int .u64 (X.1),.int .u64 (X.2)]) (λX=>[])
theorem Zc1:Q04 pG Zgx:=oS (.nil) Tryz.func116 Tryz.call116 [] [] 2
def Z4p(n k:Int):Tree Int:=
.lv (Zd4 (ixor u64 (wrap u64 n) (wrap u64 (wrap u64 k*11400714819323198485)))) λ(x0:Int×Int)=>.lf (wrap i64 (ishr u64 x0.1 1))
def Qyp n k:=(Z4p n k).m
def Zka:Q0a:=mS 58 [] true [.one (.int .i64),.one (.int .i64)] [] (λa r=>Z4p (argI a 0) (argI a 1)) (λX=>.int .i64 X) (λX=>[])
theorem Qqt:Q04 pG Zka:=oS (.cons Zc1 (.nil)) Tryz.func58 Tryz.call58 [] [] 2
def Qmc(n k:Int):Tree Int:=
.cn (decide (k≠0)) (.br (decide (dA n k<0)) (.lf (wrap i64 (dA n k+k))) (.lf (dA n k)))
def Q7f n k:=(Qmc n k).m
abbrev Q4d n k:=(Qmc n k).p
def Zaj:Q0a:=mT 15 [] true [.one (.int .i64),.one (.int .i64)] [] (λa r=>Qmc (argI a 0) (argI a 1)) (λX=>.int .i64 X) (λX=>[])
theorem Qkz:Q04 pG Zaj:=oT (.nil) Tryz.func15 Tryz.call15 [] [] 2
def Qlf(n:Int):Tree Q0f:=
.lv Z9b λ(x0:List Int)=>.lv (Qyp n 1) λ(x1:Int)=>.an (Q4d x1 (x0.length:Int)) (.lv (Q7f x1 (x0.length:Int)) λ(x2:Int)=>.cn (bT 1 1&&bJ 0 1&&decide (0<=x2/\x2<(x0.length:Int))) (.an (Q4d (ishr i64 x1 8) 6) (.lv (Q7f (ishr i64 x1 8) 6) λ(x3:Int)=>.an (Q4d (ishr i64 x1 12) 6) (.lv (Q7f (ishr i64 x1 12) 6) λ(x4:Int)=>.an (Q4d (ishr i64 x1 16) 6) (.lv (Q7f (ishr i64 x1 16) 6) λ(x5:Int)=>.an (Q4d (ishr i64 x1 20) 24) (.lv (Q7f (ishr i64 x1 20) 24) λ(x6:Int)=>.br (decide (x0.getD x2.toNat (0:Int)<=(13:Int))) (.lf ({Op:=x0.getD x2.toNat 0,A:=x3,B:=x4,C:=x5,Imm:=0})) (let E4:=({Op:=x0.getD x2.toNat 0,A:=x3,B:=x4,C:=0,Imm:=wrap i32 (wrap i64 (wrap i64 (8*x6)-32))}:Q0f);let T1:Tree (Q0f):=.br (x0.getD x2.toNat (0:Int)==(49:Int)) (.lf (E4)) (.br (x0.getD x2.toNat (0:Int)==(24:Int)) (.lf ({Op:=x0.getD x2.toNat 0,A:=x3,B:=0,C:=0,Imm:=wrap i32 (wrap i64 (x6*iand i64 (ishr i64 x1 40) 1))})) (let T2:Tree (Q0f):=let E6:=({Op:=x0.getD x2.toNat 0,A:=x3,B:=0,C:=0,Imm:=wrap i32 (dA x6 8)}:Q0f);.br (x0.getD x2.toNat (0:Int)==(58:Int)) (.lf (E6)) (.br (x0.getD x2.toNat (0:Int)==(59:Int)) (.lf (E6)) (let E5:=({Op:=x0.getD x2.toNat 0,A:=x3,B:=0,C:=0,Imm:=wrap i32 (dA x6 12)}:Q0f);.br (x0.getD x2.toNat (0:Int)==(60:Int)) (.lf (E5)) (.br (x0.getD x2.toNat (0:Int)==(61:Int)) (.lf (E5)) (.lf ({Op:=x0.getD x2.toNat 0,A:=0,B:=0,C:=0,Imm:=0})))));.br (decide (x0.getD x2.toNat (0:Int)>=(17:Int))) (.br (decide (x0.getD x2.toNat (0:Int)<=(22:Int))) (.lf ({Op:=x0.getD x2.toNat 0,A:=x3,B:=x4,C:=0,Imm:=wrap i32 x6})) T2) T2));let T3:Tree (Q0f):=.br (x0.getD x2.toNat (0:Int)==(16:Int)) (.lf (E4)) (.br (x0.getD x2.toNat (0:Int)==(23:Int)) (.lf (E4)) (.br (decide (x0.getD x2.toNat (0:Int)>=(32:Int))) (.br (decide (x0.getD x2.toNat (0:Int)<=(36:Int))) (.lf (E4)) T1) T1));.br (decide (x0.getD x2.toNat (0:Int)>=(40:Int))) (.br (decide (x0.getD x2.toNat (0:Int)<=(48:Int))) (.br (x0.getD x2.toNat (0:Int)==(48:Int)) (.lf ({Op:=x0.getD x2.toNat 0,A:=x3,B:=0,C:=0,Imm:=wrap i32 (wrap i64 (x6-12))})) (.lf ({Op:=x0.getD x2.toNat 0,A:=x3,B:=x4,C:=0,Imm:=wrap i32 (wrap i64 (x6-12))}))) T3) T3)))))))
def Zbq n:=(Qlf n).m
abbrev Qfq n:=(Qlf n).p
def Zfv:Q0a:=mT 98 [] true [.one (.int .i64)] [] (λa r=>Qlf (argI a 0)) (λX=>.agg (Q0f.cells X)) (λX=>[])
theorem Zbo:Q04 pG Zfv:=oT (.cons Zgv (.cons Qqt (.cons Qkz (.nil)))) Tryz.func98 Tryz.call98 [] [] 2
def Qpl(l:List Int)(z:(Int)×(List Int)):Prop:=0<=z.1/\z.1<=l.length/\(z.2.length:Int)=z.1
def Qcl(l:List Int)(z:(Int)×(List Int)):Nat:=(l.length-z.1).toNat
def Qhf(l:List Int):Tree (List Int):=
.lp inferInstance (Qcl l (0,[])+1) ((((Els.Nil (Els.ints i64 l)\/rE (1:Nat))/\rE (l:List Int))/\True/\rE (0:Int)/\True)/\rE ([]:List Int)/\True) (0,[]) λ(v0:Int×List Int)=>.br (decide (v0.1<(l.length:Int))) (let E1:=bT 1 1&&bJ 0 1&&decide (0<=v0.1/\v0.1<(l.length:Int));.cn E1 (let E2:=decide (4*(v0.2.length+1)<=140737488355328);.br (dA (l.getD v0.1.toNat 0) (17:Int)==(0:Int)) (.cn E1 (.cn E2 (.nx ((((Els.Nil (Els.ints i64 l)\/rE (1:Nat))/\rE (l:List Int))/\True/\rE ((wrap i64 (v0.1+1)):Int)/\True)/\rE ((v0.2++[wrap u32 (iand i64 (l.getD v0.1.toNat 0) 4294967295)]):List Int)/\True) (Sum.inl (wrap i64 (v0.1+1),v0.2++[wrap u32 (iand i64 (l.getD v0.1.toNat 0) 4294967295)]))))) (.cn E1 (.an (Qfq (l.getD v0.1.toNat 0)) (.lv (Zbq (l.getD v0.1.toNat 0)) λ(x0:Q0f)=>.lv (Q1n x0) λ(x1:Int×Bool)=>.cn E2 (.nx ((((Els.Nil (Els.ints i64 l)\/rE (1:Nat))/\rE (l:List Int))/\True/\rE ((wrap i64 (v0.1+1)):Int)/\True)/\rE ((v0.2++[x1.1]):List Int)/\True) (Sum.inl (wrap i64 (v0.1+1),v0.2++[x1.1])))))))) (.lf (Sum.inr v0.2))
def Qnz l:=(Qhf l).m
abbrev Ql4 l:=(Qhf l).p
def Zdn:LInv:={
 α:=(Int)×(List Int)
 F:=λst a=>([(0,(lk st 0)),(3,.all 0),(4,.int i64 a.1)],[⟨false,23,1,.ints u32 a.2⟩])
 a0:=λst=>((lk st 4).toInt,(Q5v st.rows (rN st 3)))
 ex0:=λst=>[]++[(rX st 3 0)]}
def Z2y:List (Nat×LInv):=[(3,Zdn)]
def Zgb:Q0a:=mT 50 [] true [.one (.ints .i64)] [] (λa r=>Qhf (argL .i64 a 0)) (λX=>.all 0) (λX=>[⟨false,23,1,.ints .u32 X⟩])
theorem Zcs:Q04 pG Zgb:=oT (.cons Qj4 (.cons Zbo (.nil))) Tryz.func50 Tryz.call50 [.row 23 1 (.ints .u32)] Z2y 3
def Qii(pc:Int):Tree Q01:=
.lf ({X:={a0:=0,a1:=0,a2:=0,a3:=0,a4:=0,a5:=0,a6:=0,a7:=0,a8:=0,a9:=0,a10:=0,a11:=0,a12:=0,a13:=0,a14:=0,a15:=0},Pc:=pc,B3:={a0:=1,a1:=0,a2:=0,a3:=0,a4:=0,a5:=0,a6:=0,a7:=0}})
def Qo8 pc:=(Qii pc).m
def Zb7:Q0a:=mS 99 [] true [.one (.int .u32)] [] (λa r=>Qii (argI a 0)) (λX=>.agg (Q01.cells X)) (λX=>[])
theorem Z8v:Q04 pG Zb7:=oS (.nil) Tryz.func99 Tryz.call99 [] [] 2
def Qjo(pages:Int):Tree (List Int):=
.br (decide (pages<1)) (.lf ([])) (.br (decide (pages>32)) (.lf ([])) (.cn (bJ 0 1&&bT 1 1&&List.all [D.int u32 0] D.plain&&decide (0<=wrap i64 (pages*32)/\wrap i64 (pages*32)<=wrap i64 (pages*32)/\wrap i64 (pages*32)<=9223372036854775807/\(↑4:Int)*wrap i64 (pages*32)<=140737488355328)) (.lf (List.replicate (dB (wrap i64 (pages*32))) 0))))
def Qt3 pages:=(Qjo pages).m
abbrev Qiw pages:=(Qjo pages).p
def Zl9:Q0a:=mT 100 [] true [.one (.int .i64)] [] (λa r=>Qjo (argI a 0)) (λX=>.all 0) (λX=>[⟨false,23,1,.ints .u32 X⟩])
theorem Zh7:Q04 pG Zl9:=oT (.nil) Tryz.func100 Tryz.call100 [.row 23 1 (.ints .u32)] [] 2
def Qbk(pages blocks:Int)(image:List Int):Tree (Q00×Bool):=
let T1:Tree ((Q00×Bool)):=.lf ({B2:={X:={a0:=0,a1:=0,a2:=0,a3:=0,a4:=0,a5:=0,a6:=0,a7:=0,a8:=0,a9:=0,a10:=0,a11:=0,a12:=0,a13:=0,a14:=0,a15:=0},Pc:=0,B3:={a0:=0,a1:=0,a2:=0,a3:=0,a4:=0,a5:=0,a6:=0,a7:=0}},Mem:=[],A2:={C9:=[]},A9:={D4:=false,C6:=0,D3:=false},A7:={Blocks:=0,B8:=0,Frame:=0,B7:=0,D6:=0,B4:=0,B1:=0,C0:=[]},C2:={Frame:=0,D8:=0,C3:=false,B6:=0,B5:=false,E0:=0},A0:={C4:=0,B9:=0},A3:=0,A4:=false,A6:=false},false);.br (decide (pages<1)) T1 (.br (decide (pages>32)) T1 (.br (decide (blocks<0)) T1 (.br (decide (blocks>64)) T1 (.br (decide ((image.length:Int)>wrap i64 (pages*32))) T1 (.lv (Qo8 0) λ(x0:Q01)=>.an (Qiw pages) (.lv (Qt3 pages) λ(x1:List Int)=>.lf ({B2:=x0,Mem:=cW (Min.min (image.length) (x1.length)) image++cX (Min.min (image.length) (x1.length)) x1,A2:={C9:=[]},A9:={D4:=false,C6:=0,D3:=false},A7:={Blocks:=wrap u32 blocks,B8:=0,Frame:=0,B7:=0,D6:=0,B4:=0,B1:=0,C0:=[]},C2:={Frame:=0,D8:=0,C3:=false,B6:=0,B5:=false,E0:=0},A0:={C4:=0,B9:=0},A3:=0,A4:=false,A6:=false},true)))))))
def Q1y pages blocks image:=(Qbk pages blocks image).m
abbrev Qew pages blocks image:=(Qbk pages blocks image).p
def Zks:Q0a:=mT 51 [] true [.one (.int .i64),.one (.int .i64),.one (.ints .u32)] [] (λa r=>Qbk (argI a 0) (argI a 1) (argL .u32 a 2)) (λX=>.tup [.agg (Q00.cellsW (X.1) (.all 0)),.bool (X.2)]) (λX=>[⟨false,23,1,.ints .u32 (X.1).Mem⟩])
theorem Zfl:Q04 pG Zks:=oT (.cons Z8v (.cons Zh7 (.nil))) Tryz.func51 Tryz.call51 [.row 23 1 (.ints .u32)] [] 2
def Qg7(a b:List Int)(z:(Int)):Prop:=0<=z/\z<=a.length/\a.length=b.length
def Q5(a b:List Int)(z:(Int)):Nat:=(a.length-z).toNat
def Q86(a b:List Int):Tree Bool:=
.br ((a.length:Int) !=(b.length:Int)) (.lf false) (.lp inferInstance (Q5 a b 0+1) ((((Els.Nil (Els.ints u32 a)\/rE (1:Nat))/\rE (a:List Int))/\((Els.Nil (Els.ints u32 b)\/rE (1:Nat))/\rE (b:List Int))/\rE (0:Int)/\True)/\True) 0 λ(v0:Int)=>.br (decide (v0<(a.length:Int))) (.cn (bT 1 1&&bJ 0 1&&decide (0<=v0/\v0<(a.length:Int))) (.cn (bT 1 1&&bJ 0 1&&decide (0<=v0/\v0<(b.length:Int))) (.br (a.getD v0.toNat 0 !=b.getD v0.toNat 0) (.lf (Sum.inr false)) (.nx ((((Els.Nil (Els.ints u32 a)\/rE (1:Nat))/\rE (a:List Int))/\((Els.Nil (Els.ints u32 b)\/rE (1:Nat))/\rE (b:List Int))/\rE ((wrap i64 (v0+1)):Int)/\True)/\True) (Sum.inl (wrap i64 (v0+1))))))) (.lf (Sum.inr true)))
def Qe2 a b:=(Q86 a b).m
def Q8r(a b:List Int):Prop:=
a.length<=1000000000000
theorem Qtj(a b:List Int)(hw:Q8r a b):(Q86 a b).p:=by
 simp only[Q8r]at hw
 unfold Tree.p Q86
 repeat'(first|refine w_lp (inv:=Qg7 a b) (μ:=Q5 a b) ?_ (cL _) (λ_ _=>?_)|exact trivial|refine w_br (λ_=>?_) (λ_=>?_)|refine w_cn ?_ ?_|refine w_an ?_ ?_|refine w_lv (λ_ _=>?_)|refine w_nx ?_|refine w_lf ?_|refine And.intro ?_ ?_)
 all_goals((try simp only[Qg7,Q5]at*);exact fin0)
def Qut:LInv:={
 α:=(Int)
 F:=λst a=>([(0,(lk st 0)),(1,(lk st 1)),(5,.int i64 a)],[])
 a0:=λst=>(lk st 5).toInt
 ex0:=λst=>[]++[]}
def Qqj:List (Nat×LInv):=[(4,Qut)]
def Qxk:Q0a:=mkP 67 [] true [.one (.ints .u32),.one (.ints .u32)] [] (λa r=>Q8r (argL .u32 a 0) (argL .u32 a 1)) (λa r=>Qe2 (argL .u32 a 0) (argL .u32 a 1)) (λX=>.bool X) (λX=>[])
theorem Qv1:Q04 pG Qxk:=Q0i drawn Q0h (.nil) Tryz.func67 Tryz.call67 (λa r=>Q86 (argL .u32 a 0) (argL .u32 a 1)) [] Qqj 3 (hp:=λa r h=>Qtj (argL .u32 a 0) (argL .u32 a 1) h)
def Qh0(a b:Q00):Tree Bool:=
.br (eqs [D.int u32 a.B2.X.a0,D.int u32 a.B2.X.a1,D.int u32 a.B2.X.a2,D.int u32 a.B2.X.a3,D.int u32 a.B2.X.a4,D.int u32 a.B2.X.a5,D.int u32 a.B2.X.a6,D.int u32 a.B2.X.a7,D.int u32 a.B2.X.a8,D.int u32 a.B2.X.a9,D.int u32 a.B2.X.a10,D.int u32 a.B2.X.a11,D.int u32 a.B2.X.a12,D.int u32 a.B2.X.a13,D.int u32 a.B2.X.a14,D.int u32 a.B2.X.a15,D.int u32 a.B2.Pc,D.int u32 a.B2.B3.a0,D.int u32 a.B2.B3.a1,D.int u32 a.B2.B3.a2,D.int u32 a.B2.B3.a3,D.int u32 a.B2.B3.a4,D.int u32 a.B2.B3.a5,D.int u32 a.B2.B3.a6,D.int u32 a.B2.B3.a7] [D.int u32 b.B2.X.a0,D.int u32 b.B2.X.a1,D.int u32 b.B2.X.a2,D.int u32 b.B2.X.a3,D.int u32 b.B2.X.a4,D.int u32 b.B2.X.a5,D.int u32 b.B2.X.a6,D.int u32 b.B2.X.a7,D.int u32 b.B2.X.a8,D.int u32 b.B2.X.a9,D.int u32 b.B2.X.a10,D.int u32 b.B2.X.a11,D.int u32 b.B2.X.a12,D.int u32 b.B2.X.a13,D.int u32 b.B2.X.a14,D.int u32 b.B2.X.a15,D.int u32 b.B2.Pc,D.int u32 b.B2.B3.a0,D.int u32 b.B2.B3.a1,D.int u32 b.B2.B3.a2,D.int u32 b.B2.B3.a3,D.int u32 b.B2.B3.a4,D.int u32 b.B2.B3.a5,D.int u32 b.B2.B3.a6,D.int u32 b.B2.B3.a7]) (.an (Q8r a.Mem b.Mem) (.lv (Qe2 a.Mem b.Mem) λ(x0:Bool)=>.br x0 (.br (eqs [D.str a.A2.C9] [D.str b.A2.C9]) (.br (eqs [D.bool a.A9.D4,D.int u32 a.A9.C6,D.bool a.A9.D3] [D.bool b.A9.D4,D.int u32 b.A9.C6,D.bool b.A9.D3]) (.br (eqs [D.int u32 a.A7.Blocks,D.int u32 a.A7.B8,D.int u32 a.A7.Frame,D.int i64 a.A7.B7,D.int i64 a.A7.D6,D.int u32 a.A7.B4,D.int u32 a.A7.B1,D.str a.A7.C0] [D.int u32 b.A7.Blocks,D.int u32 b.A7.B8,D.int u32 b.A7.Frame,D.int i64 b.A7.B7,D.int i64 b.A7.D6,D.int u32 b.A7.B4,D.int u32 b.A7.B1,D.str b.A7.C0]) (.br (eqs [D.int u32 a.C2.Frame,D.int u32 a.C2.D8,D.bool a.C2.C3,D.int u32 a.C2.B6,D.bool a.C2.B5,D.int u32 a.C2.E0] [D.int u32 b.C2.Frame,D.int u32 b.C2.D8,D.bool b.C2.C3,D.int u32 b.C2.B6,D.bool b.C2.B5,D.int u32 b.C2.E0]) (.br (eqs [D.int u32 a.A0.C4,D.int u32 a.A0.B9] [D.int u32 b.A0.C4,D.int u32 b.A0.B9]) (.br (a.A3==b.A3) (.br (a.A4==b.A4) (.lf (a.A6==b.A6)) (.lf false)) (.lf false)) (.lf false)) (.lf false)) (.lf false)) (.lf false)) (.lf false)) (.lf false))) (.lf false)
def Ze2 a b:=(Qh0 a b).m
abbrev Qr3 a b:=(Qh0 a b).p
def Zfg:Q0a:=mT 24 [] true [.agg Q00.sig,.agg Q00.sig] [] (λa r=>Qh0 (Q00.of (aC a 0)) (Q00.of (aC a 1))) (λX=>.bool X) (λX=>[])
theorem Zcu:Q04 pG Zfg:=oT (.cons Qv1 (.nil)) Tryz.func24 Tryz.call24 [] [] 2
