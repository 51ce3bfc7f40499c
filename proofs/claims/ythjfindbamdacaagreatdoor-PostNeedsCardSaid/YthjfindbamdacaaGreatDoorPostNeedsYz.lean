import Derived.Test.YthjfindbamdacaaGreatDoorPostNeedsFh
import Derived.Test.YthjfindbamdacaaGreatDoorPostNeedsYx
open List renaming take->cW,drop->cX,length->dG,set->dC,getD->aK
open Int renaming toNat->dB,tmod->dA
open UInt8 renaming toNat->eQ
open Nat renaming blt->bJ,beq->bT,lt_succ_self->cL
set_option maxRecDepth 100000
set_option linter.all false
namespace Go.Proofs.YthjfindbamdacaaGreatDoor
open Go Go.GD Go.IntKind
noncomputable section
def Q3c(m:Q00):Tree Bool:=
.an (Q4l m) (.lv (Q10 m) λ(x0:Bool)=>.br x0 (.br (!m.A6) (.an (Qb2 m) (.lv (Q4k m) λ(x1:Bool)=>.br (!x1) (.lf (decide (m.A3<1152921504606846976))) (.lf false))) (.lf false)) (.lf false))
def Q17 m:=(Q3c m).m
abbrev Qly m:=(Q3c m).p
def Z3j:Q0a:=mT 61 [] true [.agg Q00.sig] [] (λa r=>Q3c (Q00.of (aC a 0))) (λX=>.bool X) (λX=>[])
theorem Qz0:Q04 pG Z3j:=oT (.cons Qe2 (.cons Qn5 (.nil))) Tryz.func61 Tryz.call61 [] [] 2
def Qgo(m:Q00)(z:(Int)):Nat:=(5-z).toNat
def Q7g(m:Q00):Tree Q00:=
let E1:=({B2:=m.B2,Mem:=m.Mem,A2:=m.A2,A9:=m.A9,A7:=m.A7,C1:=m.C1,A0:=m.A0,A3:=m.A3,A4:=false,A6:=m.A6}:Q00);.br (iand u32 m.B2.B3.a0 (2:Int)==(0:Int)) (.lf (E1)) (.an (Qba E1) (.lv (Q5o E1) λ(x0:Int)=>.lp inferInstance (Qgo m 0+1) ((rZ/\rZ/\rE (x0:Int)/\rE (0:Int)/\True)/\(rE m.B2.X.a0/\rE m.B2.X.a1/\rE m.B2.X.a2/\rE m.B2.X.a3/\rE m.B2.X.a4/\rE m.B2.X.a5/\rE m.B2.X.a6/\rE m.B2.X.a7/\rE m.B2.X.a8/\rE m.B2.X.a9/\rE m.B2.X.a10/\rE m.B2.X.a11/\rE m.B2.X.a12/\rE m.B2.X.a13/\rE m.B2.X.a14/\rE m.B2.X.a15/\rE m.B2.Pc/\rE m.B2.B3.a0/\rE m.B2.B3.a1/\rE m.B2.B3.a2/\rE m.B2.B3.a3/\rE m.B2.B3.a4/\rE m.B2.B3.a5/\rE m.B2.B3.a6/\rE m.B2.B3.a7/\((Els.Nil (Els.ints u32 m.Mem)\/rE (1:Nat))/\rE m.Mem)/\rE m.A2.C9/\rE m.A9.D4/\rE m.A9.C6/\rE m.A9.D2/\rE m.A7.Blocks/\rE m.A7.B8/\rE m.A7.Frame/\rE m.A7.B7/\rE m.A7.D6/\rE m.A7.B4/\rE m.A7.B1/\rE m.A7.C0/\rE m.C1.Frame/\rE m.C1.D8/\rE m.C1.C3/\rE m.C1.B6/\rE m.C1.B5/\rE m.C1.E0/\rE m.A0.C4/\rE m.A0.B9/\rE m.A3/\rE (false:Bool)/\rE m.A6/\True)/\(mE zM True True)/\True) 0 λ(v0:Int)=>.br (decide (v0<5)) (.cn (decide (0<=v0)) (.br (iand u32 x0 (ishl u32 1 v0) !=0) (.lv (Q2z m.B2 (wrap i64 (16+v0)) 0) λ(x1:Q01)=>.lf (Sum.inr {B2:=x1,Mem:=m.Mem,A2:=m.A2,A9:=m.A9,A7:=m.A7,C1:=m.C1,A0:=m.A0,A3:=m.A3,A4:=false,A6:=m.A6})) (.nx ((rZ/\rZ/\rE (x0:Int)/\rE ((wrap i64 (v0+1)):Int)/\True)/\(rE m.B2.X.a0/\rE m.B2.X.a1/\rE m.B2.X.a2/\rE m.B2.X.a3/\rE m.B2.X.a4/\rE m.B2.X.a5/\rE m.B2.X.a6/\rE m.B2.X.a7/\rE m.B2.X.a8/\rE m.B2.X.a9/\rE m.B2.X.a10/\rE m.B2.X.a11/\rE m.B2.X.a12/\rE m.B2.X.a13/\rE m.B2.X.a14/\rE m.B2.X.a15/\rE m.B2.Pc/\rE m.B2.B3.a0/\rE m.B2.B3.a1/\rE m.B2.B3.a2/\rE m.B2.B3.a3/\rE m.B2.B3.a4/\rE m.B2.B3.a5/\rE m.B2.B3.a6/\rE m.B2.B3.a7/\((Els.Nil (Els.ints u32 m.Mem)\/rE (1:Nat))/\rE m.Mem)/\rE m.A2.C9/\rE m.A9.D4/\rE m.A9.C6/\rE m.A9.D2/\rE m.A7.Blocks/\rE m.A7.B8/\rE m.A7.Frame/\rE m.A7.B7/\rE m.A7.D6/\rE m.A7.B4/\rE m.A7.B1/\rE m.A7.C0/\rE m.C1.Frame/\rE m.C1.D8/\rE m.C1.C3/\rE m.C1.B6/\rE m.C1.B5/\rE m.C1.E0/\rE m.A0.C4/\rE m.A0.B9/\rE m.A3/\rE (false:Bool)/\rE m.A6/\True)/\(mE zM True True)/\True) (Sum.inl (wrap i64 (v0+1)))))) (.lf (Sum.inr E1))))
def Q1a m:=(Q7g m).m
abbrev Qjo m:=(Q7g m).p
def Qxz:LInv:={
 α:=(Int)
 F:=λst a=>([(1,.ptr 0 0 0),(2,.ptr 1 0 0),(3,(lk st 3)),(15,.int i64 a)],[⟨true,42,49,.gen [mB (cT st 1)]⟩,⟨true,42,49,.gen [mB (cT st 2)]⟩])
 a0:=λst=>(lk st 15).toInt
 ex0:=λst=>[]++[(rX st 1 0),(rX st 2 1)]}
def Qrr:List (Nat×LInv):=[(6,Qxz)]
def Qzw:Q0a:=Q0a.fz<|mkP 62 [] false [.agg Q00.sig] [] (λa r=>Qjo (Q00.of (aC a 0))) (λa r=>Q1a (Q00.of (aC a 0))) (λX=>.agg (Q00.cells X)) (λX=>[])
theorem Qy5:Q04 pG Qzw:=fz_ok<|Q0i drawn Q0h (.cons Qio (.cons Qdl (.nil))) Tryz.func62 Tryz.call62 (λa r=>Q7g (Q00.of (aC a 0))) [.sl (.ints .u32) false] Qrr 3 (λ_ _ _=>by kernel_rfl) (λ_ _=>rfl) (λ_ _ h=>h) (λh=>by cases h)
def Q99(c:Q0e)(port:Int):Tree (Q0e×Int):=
.br (port==0) (.br (decide (c.C9=[])) (.lf (c,4294967295)) (.cn (decide ((0:Int)<=(0:Int)/\0<(c.C9.length:Int))) (.cn (decide ((0:Int)<=(1:Int)/\1<=(c.C9.length:Int)/\(c.C9.length:Int)<=(c.C9.length:Int))) (.lf ({C9:=cW (dB (c.C9.length:Int)-dB 1) (cX (dB 1) c.C9)},wrap u32 (↑(eQ (c.C9.getD (dB 0) (0:UInt8))):Int)))))) (.br (port==1) (.lf (c,wrap u32 (c.C9.length:Int))) (.lf (c,0)))
def Qoa c port:=(Q99 c port).m
theorem Z37(c:Q0e)(port:Int):(Q99 c port).p:=by
 unfold Tree.p Q99
 repeat'(first|exact trivial|refine w_br (λ_=>?_) (λ_=>?_)|refine w_cn ?_ ?_|refine w_an ?_ ?_|refine w_lv (λ_ _=>?_)|refine w_nx ?_|refine w_lf ?_|refine And.intro ?_ ?_)
 all_goals(exact fin0)
def Zaq:Q0a:=mS 122 [] true [.agg Q0e.sig,.one (.int .i64)] [] (λa r=>Q99 (Q0e.of (aC a 0)) (argI a 1)) (λX=>.tup [.agg (Q0e.cells (X.1)),.int .u32 (X.2)]) (λX=>[])
theorem Z70:Q04 pG Zaq:=oS (.nil) Tryz.func122 Tryz.call122 [] [] 2 (λ_ _ _=>by kernel_rfl) (λa r=>Z37 (Q0e.of (aC a 0)) (argI a 1)) (λ_ X=>by kernel_rfl)
def Qoy(t:Q0l):Tree Int:=
.br t.D2 (.lf 1) (.lf 0)
def Qyo t:=(Qoy t).m
def Zjv:Q0a:=mS 123 [] true [.agg Q0l.sig] [] (λa r=>Qoy (Q0l.of (aC a 0))) (λX=>.int .u32 X) (λX=>[])
theorem Zgk:Q04 pG Zjv:=oS (.nil) Tryz.func123 Tryz.call123 [] [] 2
def Qsq(d0:Q0d)(port:Int):Tree Int:=
.br (port==4) (.lf d0.B8) (.br (port==5) (.lf d0.Frame) (.br (port==6) (.lf (wrap u32 d0.B7)) (.lf 0)))
def Qtl d0 port:=(Qsq d0 port).m
def yw:Q0a:=mS 124 [] true [.agg Q0d.sig,.one (.int .i64)] [] (λa r=>Qsq (Q0d.of (aC a 0)) (argI a 1)) (λX=>.int .u32 X) (λX=>[])
theorem Zlp:Q04 pG yw:=oS (.nil) Tryz.func124 Tryz.call124 [] [] 2
def Qs3(n:Q0w)(port:Int):Tree Int:=
.br (port==7) (.lf n.Frame) (.br (port==8) (.lf n.E0) (.br (port==9) (.br n.C3 (.br n.B5 (.lf (wrap u32 (wrap u32 ((0:Int)+(1:Int))+2))) (.lf (wrap u32 ((0:Int)+(1:Int))))) (.br n.B5 (.lf (wrap u32 ((0:Int)+(2:Int)))) (.lf 0))) (.lf 0)))
def Qzc n port:=(Qs3 n port).m
def qN:Q0a:=mS 125 [] true [.agg Q0w.sig,.one (.int .i64)] [] (λa r=>Qs3 (Q0w.of (aC a 0)) (argI a 1)) (λX=>.int .u32 X) (λX=>[])
theorem vw:Q04 pG qN:=oS (.nil) Tryz.func125 Tryz.call125 [] [] 2
def Qbk(b:Q06)(port:Int):Tree Int:=
.br (port==10) (.lf b.C4) (.br (port==11) (.an (Qdq b) (.lv (Qce b) λ(x0:Int)=>.lf (wrap u32 x0))) (.lf 0))
def Qog b port:=(Qbk b port).m
abbrev Qpi b port:=(Qbk b port).p
def Zaj:Q0a:=mT 126 [] true [.agg Q06.sig,.one (.int .i64)] [] (λa r=>Qbk (Q06.of (aC a 0)) (argI a 1)) (λX=>.int .u32 X) (λX=>[])
theorem Z9q:Q04 pG Zaj:=oT (.cons Qll (.nil)) Tryz.func126 Tryz.call126 [] [] 2
def Q3e(m:Q00)(port clock:Int):Tree (Q00×Int):=
let T1:Tree ((Q00×Int)):=.lv (Qoa m.A2 port) λ(x0:Q0e×Int)=>.lf ({B2:=m.B2,Mem:=m.Mem,A2:=x0.1,A9:=m.A9,A7:=m.A7,C1:=m.C1,A0:=m.A0,A3:=m.A3,A4:=m.A4,A6:=m.A6},x0.2);.br (port==0) T1 (.br (port==1) T1 (.br (port==2) (.lf (m,clock)) (.br (port==3) (.lv (Qyo m.A9) λ(x2:Int)=>.lf (m,x2)) (.br (port==4) (.lv (Qtl m.A7 port) λ(x3:Int)=>.lf (m,x3)) (.br (port==5) (.lv (Qtl m.A7 port) λ(x4:Int)=>.lf (m,x4)) (.br (port==6) (.lv (Qtl m.A7 port) λ(x5:Int)=>.lf (m,x5)) (.br (port==7) (.lv (Qzc m.C1 port) λ(x6:Int)=>.lf (m,x6)) (.br (port==8) (.lv (Qzc m.C1 port) λ(x7:Int)=>.lf (m,x7)) (.br (port==9) (.lv (Qzc m.C1 port) λ(x8:Int)=>.lf (m,x8)) (let T2:Tree ((Q00×Int)):=.an (Qpi m.A0 port) (.lv (Qog m.A0 port) λ(x9:Int)=>.lf (m,x9));.br (port==10) T2 (.br (port==11) T2 (.lf (m,0)))))))))))))
def Q0q m port clock:=(Q3e m port clock).m
abbrev Qfj m port clock:=(Q3e m port clock).p
def Qt:Q0a:=Q0a.fz<|mkP 64 [] false [.agg Q00.sig,.one (.int .i64),.one (.int .u32)] [] (λa r=>Qfj (Q00.of (aC a 0)) (argI a 1) (argI a 2)) (λa r=>Q0q (Q00.of (aC a 0)) (argI a 1) (argI a 2)) (λX=>.tup [.agg (Q00.cells (X.1)),.int .u32 (X.2)]) (λX=>[])
theorem Qqm:Q04 pG Qt:=fz_ok<|Q0i drawn Q0h (.cons Z70 (.cons Zgk (.cons Zlp (.cons vw (.cons Z9q (.nil)))))) Tryz.func64 Tryz.call64 (λa r=>Q3e (Q00.of (aC a 0)) (argI a 1) (argI a 2)) [.sl (.ints .u32) false] [] 2 (λ_ _ _=>by kernel_rfl) (λ_ _=>rfl) (λ_ _ h=>h) (λh=>by cases h)
def Qlf(t:Q0l)(deadline:Int):Tree Q0l:=
.lf ({D4:=deadline !=0,C6:=deadline,D2:=false})
def Qgs t deadline:=(Qlf t deadline).m
def Zep:Q0a:=mS 127 [] true [.agg Q0l.sig,.one (.int .u32)] [] (λa r=>Qlf (Q0l.of (aC a 0)) (argI a 1)) (λX=>.agg (Q0l.cells X)) (λX=>[])
theorem Zdl:Q04 pG Zep:=oS (.nil) Tryz.func127 Tryz.call127 [] [] 2
def Qa6(m:List Int)(frame:Int):Tree Bool:=
.lv (Q0u m) λ(x0:Int)=>.lf (decide (wrap u64 frame<wrap u64 x0))
def Q5j m frame:=(Qa6 m frame).m
def Z7t:Q0a:=mS 134 [] true [.one (.ints .u32),.one (.int .u32)] [] (λa r=>Qa6 (argL .u32 a 0) (argI a 1)) (λX=>.bool X) (λX=>[])
theorem Z3m:Q04 pG Z7t:=oS (.cons Q2a (.nil)) Tryz.func134 Tryz.call134 [] [] 2
def Q80(m:List Int)(frame:Int):Tree Bool:=
.br (decide (frame>=0)) (.lv (Q0u m) λ(x0:Int)=>.lf (decide (frame<x0))) (.lf false)
def Q55 m frame:=(Q80 m frame).m
def Qx9:Q0a:=mS 60 [] true [.one (.ints .u32),.one (.int .i64)] [] (λa r=>Q80 (argL .u32 a 0) (argI a 1)) (λX=>.bool X) (λX=>[])
theorem Qkf:Q04 pG Qx9:=oS (.cons Q2a (.nil)) Tryz.func60 Tryz.call60 [] [] 2
def Qm3(words:List Int)(z:(Int)×(List Int)):Prop:=0<=z.1/\z.1<=words.length/\(z.2.length:Int)=4*z.1
def Q72(words:List Int)(z:(Int)×(List Int)):Nat:=(words.length-z.1).toNat
def Q50(words:List Int):Tree (List UInt8):=
.cn (bJ 0 1&&bT 1 1&&List.all [D.int u8 0] D.plain&&decide ((0:Int)<=(0:Int)/\0<=wrap i64 (4*(words.length:Int))/\wrap i64 (4*(words.length:Int))<=9223372036854775807/\(↑1:Int)*wrap i64 (4*(words.length:Int))<=140737488355328)) (.lp inferInstance (Q72 words (0,[])+1) ((True/\((Els.Nil (Els.ints u32 words)\/rE (1:Nat))/\rE (words:List Int))/\rE ((words.length:Int):Int)/\rE (0:Int)/\True)/\rE ([]:List Int)/\True) (0,[]) λ(v0:Int×List Int)=>.br (decide (v0.1<(words.length:Int))) (.cn (bT 1 1&&bJ 0 1&&decide (0<=v0.1/\v0.1<(words.length:Int))) (.cn (decide (1*(v0.2.length+4)<=140737488355328)) (let E1:=words.getD v0.1.toNat 0;.nx ((True/\((Els.Nil (Els.ints u32 words)\/rE (1:Nat))/\rE (words:List Int))/\rE ((words.length:Int):Int)/\rE ((wrap i64 (v0.1+1)):Int)/\True)/\rE ((v0.2++[wrap u8 (words.getD v0.1.toNat 0),wrap u8 (ishr u32 (words.getD v0.1.toNat 0) 8),wrap u8 (ishr u32 (words.getD v0.1.toNat 0) 16),wrap u8 (ishr u32 (words.getD v0.1.toNat 0) 24)]):List Int)/\True) (Sum.inl (wrap i64 (v0.1+1),v0.2++[wrap u8 E1,wrap u8 (ishr u32 E1 8),wrap u8 (ishr u32 E1 16),wrap u8 (ishr u32 E1 24)]))))) (.lf (Sum.inr (bytesOf v0.2))))
def Z1x words:=(Q50 words).m
def Qbu(words:List Int):Prop:=
words.length<=1000000000000
theorem Z13(words:List Int)(hw:Qbu words):(Q50 words).p:=by
 simp only[Qbu]at hw
 unfold Tree.p Q50
 repeat'(first|refine w_lp (inv:=Qm3 words) (μ:=Q72 words) ?_ (cL _) (λ_ _=>?_)|exact trivial|refine w_br (λ_=>?_) (λ_=>?_)|refine w_cn ?_ ?_|refine w_an ?_ ?_|refine w_lv (λ_ _=>?_)|refine w_nx ?_|refine w_lf ?_|refine And.intro ?_ ?_)
 all_goals((try simp only[Qm3,Q72]at*);exact fin0)
def Z3r:LInv:={
 α:=(Int)×(List Int)
 F:=λst a=>([(3,.all 0),(10,(lk st 10)),(11,(lk st 11)),(12,.int i64 a.1)],[⟨false,5,1,.ints u8 a.2⟩])
 a0:=λst=>((lk st 12).toInt,(Q5t st.rows (rN st 3)))
 ex0:=λst=>[]++[(rX st 3 0)]}
def Qxr:List (Nat×LInv):=[(3,Z3r)]
def Z7b:Q0a:=mkP 66 [] true [.one (.ints .u32)] [] (λa r=>Qbu (argL .u32 a 0)) (λa r=>Z1x (argL .u32 a 0)) (λX=>.str X) (λX=>[])
theorem Z3n:Q04 pG Z7b:=Q0i drawn Q0h (.nil) Tryz.func66 Tryz.call66 (λa r=>Q50 (argL .u32 a 0)) [] Qxr 3 (hp:=λa r h=>Z13 (argL .u32 a 0) h)
def Q51(m:List Int)(frame:Int):Tree ((List UInt8)×Bool):=
.lv (Q55 m frame) λ(x0:Bool)=>.br (!x0) (.lf ([],false)) (.cn (bT 1 1&&bJ 0 1&&decide (0<=wrap i64 (frame*32)/\wrap i64 (frame*32)<=wrap i64 (wrap i64 (frame*32)+32)/\wrap i64 (wrap i64 (frame*32)+32)<=(m.length:Int))) (let E1:=cW (dB (wrap i64 (wrap i64 (frame*32)+32))-dB (wrap i64 (frame*32))) (cX (dB (wrap i64 (frame*32))) m);.an (Qbu E1) (.lv (Z1x E1) λ(x1:List UInt8)=>.lf (x1,true))))
def Q12 m frame:=(Q51 m frame).m
abbrev Q4g m frame:=(Q51 m frame).p
def Z6x:Q0a:=mT 23 [] true [.one (.ints .u32),.one (.int .i64)] [] (λa r=>Q51 (argL .u32 a 0) (argI a 1)) (λX=>.tup [.str (X.1),.bool (X.2)]) (λX=>[])
theorem Qdv:Q04 pG Z6x:=oT (.cons Qkf (.cons Z3n (.nil))) Tryz.func23 Tryz.call23 [] [] 2
def Qpu(d0:Q0d)(at0:Int):Tree (Q0b×Bool):=
.br (d0.B7 !=1) (.lf ({C2:=0,At:=0,B8:=0,C8:=[]},false)) (.br (d0.D6==1) (.lf ({C2:=3,At:=at0,B8:=d0.B4,C8:=[]},true)) (.br (d0.D6==2) (.lf ({C2:=4,At:=at0,B8:=d0.B4,C8:=d0.C0},true)) (.lf ({C2:=0,At:=0,B8:=0,C8:=[]},false))))
def Qil d0 at0:=(Qpu d0 at0).m
def Z47:Q0a:=mS 254 [] true [.agg Q0d.sig,.one (.int .u64)] [] (λa r=>Qpu (Q0d.of (aC a 0)) (argI a 1)) (λX=>.tup [.agg (Q0b.cells (X.1)),.bool (X.2)]) (λX=>[])
theorem Z2a:Q04 pG Z47:=oS (.nil) Tryz.func254 Tryz.call254 [] [] 2
def Q96(d0:Q0d)(m:List Int)(cmd at0:Int):Tree (Q0d×(List Q0b)):=
.br (d0.B7 !=0) (.lf (d0,[])) (let T1:Tree ((Q0d×(List Q0b))):=.lf ({Blocks:=d0.Blocks,B8:=d0.B8,Frame:=d0.Frame,B7:=3,D6:=d0.D6,B4:=d0.B4,B1:=d0.B1,C0:=d0.C0},[]);.br (decide (d0.B8>=d0.Blocks)) T1 (.lv (Q5j m d0.Frame) λ(x0:Bool)=>.br (!x0) T1 (.br (cmd==2) (.an (Q4g m (wrap i64 d0.Frame)) (.lv (Q12 m (wrap i64 d0.Frame)) λ(x1:List UInt8×Bool)=>let E2:=({Blocks:=d0.Blocks,B8:=d0.B8,Frame:=d0.Frame,B7:=1,D6:=cmd,B4:=d0.B8,B1:=d0.Frame,C0:=x1.1}:Q0d);.lv (Qil E2 at0) λ(x2:Q0b×Bool)=>.lf (E2,[x2.1]))) (let E3:=({Blocks:=d0.Blocks,B8:=d0.B8,Frame:=d0.Frame,B7:=1,D6:=cmd,B4:=d0.B8,B1:=d0.Frame,C0:=[]}:Q0d);.lv (Qil E3 at0) λ(x3:Q0b×Bool)=>.lf (E3,[x3.1])))))
def Qfz d0 m cmd at0:=(Q96 d0 m cmd at0).m
abbrev Qpq d0 m cmd at0:=(Q96 d0 m cmd at0).p
def Zdz:Q0a:=mT 192 [] true [.agg Q0d.sig,.one (.ints .u32),.one (.int .i64),.one (.int .u64)] [] (λa r=>Q96 (Q0d.of (aC a 0)) (argL .u32 a 1) (argI a 2) (argI a 3)) (λX=>.tup [.agg (Q0d.cells (X.1)),.sl 4 (.recs .apiOutput (X.2)) true]) (λX=>[])
theorem Z9g:Q04 pG Zdz:=oT (.cons Z3m (.cons Qdv (.cons Z2a (.nil)))) Tryz.func192 Tryz.call192 [.sl (.recs .apiOutput) true] [] 2
def Qd8(d0:Q0d)(m:List Int)(port v at0:Int):Tree (Q0d×(List Q0b)):=
.br (port==4) (.lf ({Blocks:=d0.Blocks,B8:=v,Frame:=d0.Frame,B7:=d0.B7,D6:=d0.D6,B4:=d0.B4,B1:=d0.B1,C0:=d0.C0},[])) (.br (port==5) (.lf ({Blocks:=d0.Blocks,B8:=d0.B8,Frame:=v,B7:=d0.B7,D6:=d0.D6,B4:=d0.B4,B1:=d0.B1,C0:=d0.C0},[])) (.br (port==6) (let T1:Tree ((Q0d×(List Q0b))):=.an (Qpq d0 m (wrap i64 v) at0) (.lv (Qfz d0 m (wrap i64 v) at0) λ(x0:Q0d×List Q0b)=>.lf (x0.1,x0.2));.br (v==1) T1 (.br (v==2) T1 (.br (v==0) (.lv (Q8y d0) λ(x2:Bool)=>.br x2 (.lf ({Blocks:=d0.Blocks,B8:=d0.B8,Frame:=d0.Frame,B7:=0,D6:=d0.D6,B4:=d0.B4,B1:=d0.B1,C0:=d0.C0},[])) (.lf (d0,[]))) (.lf (d0,[]))))) (.lf (d0,[]))))
def Q7v d0 m port v at0:=(Qd8 d0 m port v at0).m
abbrev Qwq d0 m port v at0:=(Qd8 d0 m port v at0).p
def Zl8:Q0a:=mT 128 [] true [.agg Q0d.sig,.one (.ints .u32),.one (.int .i64),.one (.int .u32),.one (.int .u64)] [] (λa r=>Qd8 (Q0d.of (aC a 0)) (argL .u32 a 1) (argI a 2) (argI a 3) (argI a 4)) (λX=>.tup [.agg (Q0d.cells (X.1)),.sl 4 (.recs .apiOutput (X.2)) true]) (λX=>[])
theorem Zg6:Q04 pG Zl8:=oT (.cons Z9g (.cons Qnw (.nil))) Tryz.func128 Tryz.call128 [.sl (.recs .apiOutput) true] [] 2
def Qbj(m:List Int)(frame:Int):Tree Bool:=
.lv (Q0u m) λ(x0:Int)=>.lf (decide (wrap u64 frame<wrap u64 x0))
def Q6 m frame:=(Qbj m frame).m
def Zd2:Q0a:=mS 135 [] true [.one (.ints .u32),.one (.int .u32)] [] (λa r=>Qbj (argL .u32 a 0) (argI a 1)) (λX=>.bool X) (λX=>[])
theorem Qr4:Q04 pG Zd2:=oS (.cons Q2a (.nil)) Tryz.func135 Tryz.call135 [] [] 2
def Qdb(n:Q0w)(m:List Int)(at0:Int):Tree (List Q0b):=
.br (decide (n.D8<1)) (.lf ([])) (.br (decide (n.D8>128)) (.lf ([])) (.lv (Q6 m n.Frame) λ(x0:Bool)=>.br (!x0) (.lf ([])) (.an (Q4g m (wrap i64 n.Frame)) (.lv (Q12 m (wrap i64 n.Frame)) λ(x1:List UInt8×Bool)=>.cn (decide ((0:Int)<=(0:Int)/\0<=n.D8/\n.D8<=(x1.1.length:Int))) (.lf ([{C2:=2,At:=at0,B8:=0,C8:=cW (dB n.D8-dB 0) (cX (dB 0) x1.1)}]))))))
def Qoh n m at0:=(Qdb n m at0).m
abbrev Qw9 n m at0:=(Qdb n m at0).p
def Zk0:Q0a:=mT 193 [] true [.agg Q0w.sig,.one (.ints .u32),.one (.int .u64)] [] (λa r=>Qdb (Q0w.of (aC a 0)) (argL .u32 a 1) (argI a 2)) (λX=>.sl 4 (.recs .apiOutput X) true) (λX=>[])
theorem Zex:Q04 pG Zk0:=oT (.cons Qr4 (.cons Qdv (.nil))) Tryz.func193 Tryz.call193 [.sl (.recs .apiOutput) true] [] 2
def Qh4(n:Q0w)(m:List Int)(port v at0:Int):Tree (Q0w×(List Q0b)):=
.br (port==7) (.lf ({Frame:=v,D8:=n.D8,C3:=n.C3,B6:=n.B6,B5:=n.B5,E0:=n.E0},[])) (.br (port==8) (.lf ({Frame:=n.Frame,D8:=v,C3:=n.C3,B6:=n.B6,B5:=n.B5,E0:=n.E0},[])) (.br (port==9) (.br (v==1) (.an (Qw9 n m at0) (.lv (Qoh n m at0) λ(x0:List Q0b)=>.lf (n,x0))) (.br (v==2) (.lv (Q6 m n.Frame) λ(x1:Bool)=>.br x1 (.br (!n.C3) (.br (!n.B5) (.lf ({Frame:=n.Frame,D8:=n.D8,C3:=true,B6:=n.Frame,B5:=n.B5,E0:=n.E0},[])) (.lf (n,[]))) (.lf (n,[]))) (.lf (n,[]))) (.br (v==0) (.lf ({Frame:=n.Frame,D8:=n.D8,C3:=n.C3,B6:=n.B6,B5:=false,E0:=0},[])) (.lf (n,[]))))) (.lf (n,[]))))
def Qbe n m port v at0:=(Qh4 n m port v at0).m
abbrev Z0b n m port v at0:=(Qh4 n m port v at0).p
def qx:Q0a:=mT 129 [] true [.agg Q0w.sig,.one (.ints .u32),.one (.int .i64),.one (.int .u32),.one (.int .u64)] [] (λa r=>Qh4 (Q0w.of (aC a 0)) (argL .u32 a 1) (argI a 2) (argI a 3) (argI a 4)) (λX=>.tup [.agg (Q0w.cells (X.1)),.sl 4 (.recs .apiOutput (X.2)) true]) (λX=>[])
theorem Zlw:Q04 pG qx:=oT (.cons Zex (.cons Qr4 (.nil))) Tryz.func129 Tryz.call129 [.sl (.recs .apiOutput) true] [] 2
def Qai(m:List Int)(frame:Int)(s:List UInt8)(z:(Int)×(List Int)):Nat:=(32-z.1).toNat
def Q3r(m:List Int)(frame:Int)(s:List UInt8):Tree ((List Int)×Bool):=
.an (Q07 m) (.lv (Q02 m) λ(x0:List Int)=>.lv (Q55 m frame) λ(x1:Bool)=>.br (!x1) (.lf (x0,false)) (.br ((s.length:Int) !=(128:Int)) (.lf (x0,false)) (.lp inferInstance (Qai m frame s (0,x0)+1) ((rE (s:List UInt8)/\True/\rE ((wrap i64 (frame*32)):Int)/\rE (0:Int)/\True)/\rE (x0:List Int)/\True) (0,x0) λ(v0:Int×List Int)=>.br (decide (v0.1<32)) (.cn (decide (0<=wrap i64 (4*v0.1)/\wrap i64 (4*v0.1)<=wrap i64 (wrap i64 (4*v0.1)+4)/\wrap i64 (wrap i64 (4*v0.1)+4)<=(s.length:Int))) (let E1:=cW (dB (wrap i64 (wrap i64 (4*v0.1)+4))-dB (wrap i64 (4*v0.1))) (cX (dB (wrap i64 (4*v0.1))) s);.cn (decide ((0:Int)<=(0:Int)/\0<(↑(dG E1):Int))) (.cn (decide ((0:Int)<=(1:Int)/\1<(↑(dG E1):Int))) (.cn (decide ((0:Int)<=(2:Int)/\2<(↑(dG E1):Int))) (.cn (decide ((0:Int)<=(3:Int)/\3<(↑(dG E1):Int))) (.cn (bT 1 1&&bJ 0 1&&decide (0<=wrap i64 (wrap i64 (frame*32)+v0.1)/\wrap i64 (wrap i64 (frame*32)+v0.1)<(v0.2.length:Int))) (.nx ((rE (s:List UInt8)/\True/\rE ((wrap i64 (frame*32)):Int)/\rE ((wrap i64 (v0.1+1)):Int)/\True)/\rE ((dC v0.2 (dB (wrap i64 (wrap i64 (frame*32)+v0.1))) (ior u32 (ior u32 (ior u32 (wrap u32 (↑(eQ (aK (cW (dB (wrap i64 (wrap i64 (4*v0.1)+4))-dB (wrap i64 (4*v0.1))) (cX (dB (wrap i64 (4*v0.1))) s)) (dB 0) (0:UInt8))):Int)) (ishl u32 (wrap u32 (↑(eQ (aK (cW (dB (wrap i64 (wrap i64 (4*v0.1)+4))-dB (wrap i64 (4*v0.1))) (cX (dB (wrap i64 (4*v0.1))) s)) (dB 1) (0:UInt8))):Int)) 8)) (ishl u32 (wrap u32 (↑(eQ (aK (cW (dB (wrap i64 (wrap i64 (4*v0.1)+4))-dB (wrap i64 (4*v0.1))) (cX (dB (wrap i64 (4*v0.1))) s)) (dB 2) (0:UInt8))):Int)) 16)) (ishl u32 (wrap u32 (↑(eQ (aK (cW (dB (wrap i64 (wrap i64 (4*v0.1)+4))-dB (wrap i64 (4*v0.1))) (cX (dB (wrap i64 (4*v0.1))) s)) (dB 3) (0:UInt8))):Int)) 24))):List Int)/\True) (Sum.inl (wrap i64 (v0.1+1),dC v0.2 (dB (wrap i64 (wrap i64 (frame*32)+v0.1))) (ior u32 (ior u32 (ior u32 (wrap u32 (↑(eQ (aK E1 (dB 0) (0:UInt8))):Int)) (ishl u32 (wrap u32 (↑(eQ (aK E1 (dB 1) (0:UInt8))):Int)) 8)) (ishl u32 (wrap u32 (↑(eQ (aK E1 (dB 2) (0:UInt8))):Int)) 16)) (ishl u32 (wrap u32 (↑(eQ (aK E1 (dB 3) (0:UInt8))):Int)) 24))))))))))) (.lf (Sum.inr (v0.2,true))))))
def Q0k m frame s:=(Q3r m frame s).m
abbrev Q3n m frame s:=(Q3r m frame s).p
def Qu:LInv:={
 α:=(Int)×(List Int)
 F:=λst a=>([(2,(lk st 2)),(8,.all 0),(9,(lk st 9)),(26,.int i64 a.1)],[⟨false,23,1,.ints u32 a.2⟩])
 a0:=λst=>((lk st 26).toInt,(Q5t st.rows (rN st 8)))
 ex0:=λst=>[]++[(rX st 8 0)]}
def Qqd:List (Nat×LInv):=[(6,Qu)]
def Qxd:Q0a:=mT 21 [] true [.one (.ints .u32),.one (.int .i64),.one (.str)] [] (λa r=>Q3r (argL .u32 a 0) (argI a 1) (argS a 2)) (λX=>.tup [.all 0,.bool (X.2)]) (λX=>[⟨false,23,1,.ints .u32 (X.1)⟩])
theorem Qdo:Q04 pG Qxd:=oT (.cons Q1h (.cons Qkf (.nil))) Tryz.func21 Tryz.call21 [.row 23 1 (.ints .u32)] Qqd 3
def strings_Repeat(s:List UInt8)(count:Int):(List UInt8):=
Lib.repeatL s count.toNat
def Qcd(s:List UInt8)(count:Int):Prop:=
0<=count/\count<=9223372036854775807/\s.length*count.toNat<=140737488355328
def Qh6(s:List UInt8)(count:Int):List D:=[.str s,.int .i64 count]
def Qhh(s:List UInt8)(count:Int):List Row:=[]
def Qci(X:List UInt8):D:=.str X
def Qby(X:List UInt8):List Row:=[]
def Qin:List PT:=[.one (.str),.one (.int .i64)]
def Qgf:List RT:=[]
def Qra(args:List D)(rows:List Row):(List UInt8):=strings_Repeat (argS args 0) (argI args 1)
def Qt3(args:List D)(rows:List Row):Prop:=Qcd (argS args 0) (argI args 1)
def Qy0:Q0a:=mkP 194 [] true Qin Qgf Qt3 Qra Qci Qby
theorem Qp8(s:List UInt8)(count:Int)(hw:Qcd s count):Q4 pG 194 (Qh6 s count) (Qhh s count) (Qci (strings_Repeat s count)) (Qby (strings_Repeat s count)):=by
 exact xd Tryz.strings_Repeat hw.1 hw.2.1 hw.2.2
set_option maxRecDepth 100000 in
theorem Qqa(args:List D)(rows:List Row):Qms Qin args 0=Qh6 (argS args 0) (argI args 1):=by kernel_rfl
set_option maxRecDepth 100000 in
theorem Qp2(args:List D)(rows:List Row):Qaw Qgf rows 0=Qhh (argS args 0) (argI args 1):=by kernel_rfl
set_option maxRecDepth 100000 in
theorem Qvm(X:List UInt8):(ffB (Qci X)&&ffBR (Qby X))=true:=by kernel_rfl
theorem Qvc:Q04 pG Qy0:=Z1r Tryz.call194 (λargs rows hp=>by rw[Qqa args rows,Qp2 args rows];exact Qp8 (argS args 0) (argI args 1) hp) (λ_ X=>Qvm X)
def Q32(b:Q06)(m:List Int)(port v:Int):Tree (Q06×(List Int)):=
let T1:Tree ((Q06×(List Int))):=.an (Q07 m) (.lv (Q02 m) λ(x0:List Int)=>.lf (b,x0));.br (decide (v>=32)) T1 (.cn (decide (0<=v)) (.br (port==10) (.lv (Q0u m) λ(x1:Int)=>.br (decide (wrap i64 v<x1)) (.br (iand u32 b.B9 (ishl u32 1 v)==0) (.an (Qcd [(0:UInt8)] 128) (.lv (strings_Repeat [(0:UInt8)] 128) λ(x2:List UInt8)=>.an (Q3n m (wrap i64 v) x2) (.lv (Q0k m (wrap i64 v) x2) λ(x3:List Int×Bool)=>.lf ({C4:=b.C4,B9:=ior u32 b.B9 (ishl u32 1 v)},x3.1)))) T1) T1) (.br (port==11) (.an (Q07 m) (.lv (Q02 m) λ(x6:List Int)=>.lf ({C4:=b.C4,B9:=Q7k u32 b.B9 (ishl u32 1 v)},x6))) T1)))
def Q36 b m port v:=(Q32 b m port v).m
abbrev Qmm b m port v:=(Q32 b m port v).p
def Z8i:Q0a:=mT 130 [] true [.agg Q06.sig,.one (.ints .u32),.one (.int .i64),.one (.int .u32)] [] (λa r=>Q32 (Q06.of (aC a 0)) (argL .u32 a 1) (argI a 2) (argI a 3)) (λX=>.tup [.agg (Q06.cells (X.1)),.all 0]) (λX=>[⟨false,23,1,.ints .u32 (X.2)⟩])
theorem Z39:Q04 pG Z8i:=oT (.cons Q1h (.cons Q2a (.cons Qdo (.cons Qvc (.nil))))) Tryz.func130 Tryz.call130 [.row 23 1 (.ints .u32)] [] 2
def Q37(m:Q00)(port v at0:Int):Tree (Q00×(List Q0b)):=
.br (port==0) (.lf (m,[{C2:=1,At:=at0,B8:=0,C8:=[(λ(n:Int)=>UInt8.ofNat n.toNat) (wrap u8 v)]}])) (.br (port==3) (.lv (Qgs m.A9 v) λ(x0:Q0l)=>.lf ({B2:=m.B2,Mem:=m.Mem,A2:=m.A2,A9:=x0,A7:=m.A7,C1:=m.C1,A0:=m.A0,A3:=m.A3,A4:=m.A4,A6:=m.A6},[])) (let T1:Tree ((Q00×(List Q0b))):=.an (Qwq m.A7 m.Mem port v at0) (.lv (Q7v m.A7 m.Mem port v at0) λ(x1:Q0d×List Q0b)=>.lf ({B2:=m.B2,Mem:=m.Mem,A2:=m.A2,A9:=m.A9,A7:=x1.1,C1:=m.C1,A0:=m.A0,A3:=m.A3,A4:=m.A4,A6:=m.A6},x1.2));.br (port==4) T1 (.br (port==5) T1 (.br (port==6) T1 (let T2:Tree ((Q00×(List Q0b))):=.an (Z0b m.C1 m.Mem port v at0) (.lv (Qbe m.C1 m.Mem port v at0) λ(x4:Q0w×List Q0b)=>.lf ({B2:=m.B2,Mem:=m.Mem,A2:=m.A2,A9:=m.A9,A7:=m.A7,C1:=x4.1,A0:=m.A0,A3:=m.A3,A4:=m.A4,A6:=m.A6},x4.2));.br (port==7) T2 (.br (port==8) T2 (.br (port==9) T2 (let T3:Tree ((Q00×(List Q0b))):=.an (Qmm m.A0 m.Mem port v) (.lv (Q36 m.A0 m.Mem port v) λ(x7:Q06×List Int)=>.lf ({B2:=m.B2,Mem:=x7.2,A2:=m.A2,A9:=m.A9,A7:=m.A7,C1:=m.C1,A0:=x7.1,A3:=m.A3,A4:=m.A4,A6:=m.A6},[]));.br (port==10) T3 (.br (port==11) T3 (.lf (m,[])))))))))))
def Q0r m port v at0:=(Q37 m port v at0).m
abbrev Qeu m port v at0:=(Q37 m port v at0).p
def Qr1:Q0a:=Q0a.fz<|mkP 65 [] false [.agg Q00.sig,.one (.int .i64),.one (.int .u32),.one (.int .u64)] [] (λa r=>Qeu (Q00.of (aC a 0)) (argI a 1) (argI a 2) (argI a 3)) (λa r=>Q0r (Q00.of (aC a 0)) (argI a 1) (argI a 2) (argI a 3)) (λX=>.tup [.agg (Q00.cells (X.1)),.sl 4 (.recs .apiOutput (X.2)) true]) (λX=>[])
theorem Qp1:Q04 pG Qr1:=fz_ok<|Q0i drawn Q0h (.cons Zdl (.cons Zg6 (.cons Zlw (.cons Z39 (.nil))))) Tryz.func65 Tryz.call65 (λa r=>Q37 (Q00.of (aC a 0)) (argI a 1) (argI a 2) (argI a 3)) [.sl (.ints .u32) false,.sl (.recs .apiOutput) true] [] 2 (λ_ _ _=>by kernel_rfl) (λ_ _=>rfl) (λ_ _ h=>h) (λh=>by cases h)
def Q56(m:Q00)(clock:Int):Tree (Q00×(List Q0b)):=
.an (Q07 m.Mem) (.lv (Q02 m.Mem) λ(x0:List Int)=>let E1:=({B2:=m.B2,Mem:=x0,A2:=m.A2,A9:=m.A9,A7:=m.A7,C1:=m.C1,A0:=m.A0,A3:=m.A3,A4:=m.A4,A6:=m.A6}:Q00);.an (Qly E1) (.lv (Q17 E1) λ(x1:Bool)=>.br (!x1) (.lf (E1,[])) (.an (Qjo E1) (.lv (Q1a E1) λ(x2:Q00)=>.an (Qw5 x2.B2 x2.Mem) (.lv (Q2i x2.B2 x2.Mem) λ(x3:Q01×List Int×Q1b)=>let E2:=({B2:=x3.1,Mem:=x3.2.1,A2:=x2.A2,A9:=x2.A9,A7:=x2.A7,C1:=x2.C1,A0:=x2.A0,A3:=x2.A3,A4:=x2.A4,A6:=x2.A6}:Q00);.br (x3.2.2.C2==1) (.an (Qfj E2 x3.2.2.C5 clock) (.lv (Q0q E2 x3.2.2.C5 clock) λ(x4:Q00×Int)=>.br (x3.2.2.D7 !=0) (.cn (bJ 0 1&&decide (0<=x3.2.2.D7/\x3.2.2.D7<(↑16:Int))) (.lf ({B2:={X:=A16.of 0 (dC (A16.l x4.1.B2.X) x3.2.2.D7.toNat x4.2),Pc:=x4.1.B2.Pc,B3:=x4.1.B2.B3},Mem:=x4.1.Mem,A2:=x4.1.A2,A9:=x4.1.A9,A7:=x4.1.A7,C1:=x4.1.C1,A0:=x4.1.A0,A3:=wrap u64 (x4.1.A3+1),A4:=x4.1.A4,A6:=x4.1.A6},[]))) (.lf ({B2:=x4.1.B2,Mem:=x4.1.Mem,A2:=x4.1.A2,A9:=x4.1.A9,A7:=x4.1.A7,C1:=x4.1.C1,A0:=x4.1.A0,A3:=wrap u64 (x4.1.A3+1),A4:=x4.1.A4,A6:=x4.1.A6},[])))) (.br (x3.2.2.C2==2) (.an (Qeu E2 x3.2.2.C5 x3.2.2.Value m.A3) (.lv (Q0r E2 x3.2.2.C5 x3.2.2.Value m.A3) λ(x5:Q00×List Q0b)=>.lf ({B2:=x5.1.B2,Mem:=x5.1.Mem,A2:=x5.1.A2,A9:=x5.1.A9,A7:=x5.1.A7,C1:=x5.1.C1,A0:=x5.1.A0,A3:=wrap u64 (x5.1.A3+1),A4:=x5.1.A4,A6:=x5.1.A6},x5.2))) (.br (x3.2.2.C2==3) (.lf ({B2:=x3.1,Mem:=x3.2.1,A2:=x2.A2,A9:=x2.A9,A7:=x2.A7,C1:=x2.C1,A0:=x2.A0,A3:=wrap u64 (x2.A3+1),A4:=true,A6:=x2.A6},[])) (.br (x3.2.2.C2==4) (.lf ({B2:=x3.1,Mem:=x3.2.1,A2:=x2.A2,A9:=x2.A9,A7:=x2.A7,C1:=x2.C1,A0:=x2.A0,A3:=wrap u64 (x2.A3+1),A4:=x2.A4,A6:=true},[])) (.lf ({B2:=x3.1,Mem:=x3.2.1,A2:=x2.A2,A9:=x2.A9,A7:=x2.A7,C1:=x2.C1,A0:=x2.A0,A3:=wrap u64 (x2.A3+1),A4:=x2.A4,A6:=x2.A6},[]))))))))))
def Q11 m clock:=(Q56 m clock).m
abbrev Q88 m clock:=(Q56 m clock).p
def Z4:Q0a:=Q0a.fz<|mkP 22 [] false [.agg Q00.sig,.one (.int .u32)] [] (λa r=>Q88 (Q00.of (aC a 0)) (argI a 1)) (λa r=>Q11 (Q00.of (aC a 0)) (argI a 1)) (λX=>.tup [.agg (Q00.cells (X.1)),.sl 4 (.recs .apiOutput (X.2)) false]) (λX=>[])
theorem Qmx:Q04 pG Z4:=fz_ok<|Q0i drawn Q0h (.cons Q1h (.cons Qz0 (.cons Qy5 (.cons Zg3 (.cons Qqm (.cons Qp1 (.nil))))))) Tryz.func22 Tryz.call22 (λa r=>Q56 (Q00.of (aC a 0)) (argI a 1)) [.sl (.ints .u32) false,.sl (.recs .apiOutput) false] [] 2 (λ_ _ _=>by kernel_rfl) (λ_ _=>rfl) (λ_ _ h=>h) (λh=>by cases h)
end
noncomputable section
def Z15(op:Int):Tree Int:=
let T1:Tree (Int):=.br (op==49) (.lf 3) (let T2:Tree (Int):=.br (op==24) (.lf 6) (.br (op==48) (.lf 7) (.br (op==58) (.lf 8) (.br (op==59) (.lf 8) (.br (op==60) (.lf 9) (.br (op==61) (.lf 9) (.br (op==56) (.lf 1) (.br (op==57) (.lf 1) (.br (decide (op>=62)) (.br (decide (op<=64)) (.lf 1) (.lf 0)) (.lf 0)))))))));.br (decide (op>=17)) (.br (decide (op<=19)) (.lf 4) (.br (decide (op>=20)) (.br (decide (op<=22)) (.lf 5) T2) T2)) (.br (decide (op>=20)) (.br (decide (op<=22)) (.lf 5) T2) T2));let T3:Tree (Int):=.br (op==16) (.lf 3) (.br (op==23) (.lf 3) (.br (decide (op>=32)) (.br (decide (op<=36)) (.lf 3) (.br (decide (op>=40)) (.br (decide (op<=45)) (.lf 3) T1) T1)) (.br (decide (op>=40)) (.br (decide (op<=45)) (.lf 3) T1) T1)));.br (decide (op>=1)) (.br (decide (op<=13)) (.lf 2) T3) T3
def Q2l op:=(Z15 op).m
def Zfq:Q0a:=mS 154 [] true [.one (.int .i64)] [] (λa r=>Z15 (argI a 0)) (λX=>.int .i64 X) (λX=>[])
theorem Qek:Q04 pG Zfq:=oS (.nil) Tryz.func154 Tryz.call154 [] [] 2
def Qbx(r:Int):Tree Bool:=
.br (decide (r>=0)) (.lf (decide (r<=15))) (.lf false)
def Q7x r:=(Qbx r).m
def Z22:Q0a:=mS 236 [] true [.one (.int .i64)] [] (λa r=>Qbx (argI a 0)) (λX=>.bool X) (λX=>[])
theorem Qx5:Q04 pG Z22:=oS (.nil) Tryz.func236 Tryz.call236 [] [] 2
def Ql1(f:Int):Tree (Int×Int):=
.br (f==3) (.lf ((-32768),32767)) (.br (f==7) (.lf ((-32768),32767)) (.br (f==4) (.lf (0,65535)) (.br (f==6) (.lf (0,65535)) (.br (f==5) (.lf (0,31)) (.br (f==8) (.lf (0,7)) (.br (f==9) (.lf (0,11)) (.lf (0,0))))))))
def Qkx f:=(Ql1 f).m
def Za0:Q0a:=mS 155 [] true [.one (.int .i64)] [] (λa r=>Ql1 (argI a 0)) (λX=>.tup [.int .i64 (X.1),.int .i64 (X.2)]) (λX=>[])
theorem Qq1:Q04 pG Za0:=oS (.nil) Tryz.func155 Tryz.call155 [] [] 2
def Qe5(i:Q0f):Tree Bool:=
.lv (Q2l i.Op) λ(x0:Int)=>.br (x0==0) (.lf false) (.lv (Q7x i.A) λ(x1:Bool)=>.br (!x1) (.lf false) (.lv (Q7x i.B) λ(x2:Bool)=>.br (!x2) (.lf false) (.lv (Q7x i.C) λ(x3:Bool)=>.br (!x3) (.lf false) (.lv (Qkx x0) λ(x4:Int×Int)=>.br (decide (wrap i64 i.Imm<x4.1)) (.lf false) (.br (decide (wrap i64 i.Imm>x4.2)) (.lf false) (let T1:Tree (Bool):=.br (x0==1) (.br (i.A !=0) (.lf false) (.br (i.B==0) (.lf true) (.br (decide (x0>=2)) (.lf (decide (x0<=5))) (.lf false)))) (.br (i.B==0) (.lf true) (.br (decide (x0>=2)) (.lf (decide (x0<=5))) (.lf false)));.br (x0 !=2) (.br (i.C !=0) (.lf false) T1) T1))))))
def Q8e i:=(Qe5 i).m
def Zbl:Q0a:=mS 153 [] true [.agg Q0f.sig] [] (λa r=>Qe5 (Q0f.of (aC a 0))) (λX=>.bool X) (λX=>[])
theorem Qs8:Q04 pG Zbl:=oS (.cons Qek (.cons Qx5 (.cons Qq1 (.nil)))) Tryz.func153 Tryz.call153 [] [] 2
def Qfk(i:Q0f):Tree (Int×Bool):=
.lv (Q8e i) λ(x0:Bool)=>.br (!x0) (.lf (0,false)) (.lf (ior u32 (ior u32 (ior u32 (ior u32 (ishl u32 (wrap u32 i.Op) 24) (ishl u32 (wrap u32 i.A) 20)) (ishl u32 (wrap u32 i.B) 16)) (iand u32 (wrap u32 i.Imm) 65535)) (wrap u32 i.C),true))
def Q1o i:=(Qfk i).m
def Z82:Q0a:=mS 96 [] true [.agg Q0f.sig] [] (λa r=>Qfk (Q0f.of (aC a 0))) (λX=>.tup [.int .u32 (X.1),.bool (X.2)]) (λX=>[])
theorem Qjd:Q04 pG Z82:=oS (.cons Qs8 (.nil)) Tryz.func96 Tryz.call96 [] [] 2
def Z5o:Tree (List Int):=
.lf ([1,2,3,4,5,6,7,8,9,10,11,12,13,16,16,17,18,19,20,21,22,23,24,24,32,32,33,34,35,35,36,40,41,42,43,44,45,48,49,56,57,58,59,60,60,61,61,62,63,64])
def Z90:(List Int):=(Z5o).m
def Zlg:Q0a:=mS 156 [] true [] [] (λa r=>Z5o) (λX=>.sl 1 (.ints .i64 X) true) (λX=>[])
theorem Zgh:Q04 pG Zlg:=oS (.nil) Tryz.func156 Tryz.call156 [.sl (.ints .i64) true] [] 2
def Z0s(seed:Int):Tree (Int×Int):=
let E1:=wrap u64 (ixor u64 (wrap u64 (seed+11400714819323198485)) (ishr u64 (wrap u64 (seed+11400714819323198485)) 30)*13787848793156543929);let E2:=wrap u64 (ixor u64 E1 (ishr u64 E1 27)*10723151780598845931);.lf (ixor u64 E2 (ishr u64 E2 31),wrap u64 (seed+11400714819323198485))
def Zby seed:=(Z0s seed).m
def Zfd:Q0a:=mS 116 [] true [.one (.int .u64)] [] (λa r=>Z0s (argI a 0)) (λX=>.tup [.int .u64 (X.1),.int .u64 (X.2)]) (λX=>[])
theorem Zad:Q04 pG Zfd:=oS (.nil) Tryz.func116 Tryz.call116 [] [] 2
def Z4o(n k:Int):Tree Int:=
.lv (Zby (ixor u64 (wrap u64 n) (wrap u64 (wrap u64 k*11400714819323198485)))) λ(x0:Int×Int)=>.lf (wrap i64 (ishr u64 x0.1 1))
def Qyb n k:=(Z4o n k).m
def Zk9:Q0a:=mS 58 [] true [.one (.int .i64),.one (.int .i64)] [] (λa r=>Z4o (argI a 0) (argI a 1)) (λX=>.int .i64 X) (λX=>[])
theorem Qq3:Q04 pG Zk9:=oS (.cons Zad (.nil)) Tryz.func58 Tryz.call58 [] [] 2
def Qmq(n k:Int):Tree Int:=
.cn (decide (k≠0)) (.br (decide (dA n k<0)) (.lf (wrap i64 (dA n k+k))) (.lf (dA n k)))
def Q7i n k:=(Qmq n k).m
abbrev Q4d n k:=(Qmq n k).p
def Zd5:Q0a:=mT 15 [] true [.one (.int .i64),.one (.int .i64)] [] (λa r=>Qmq (argI a 0) (argI a 1)) (λX=>.int .i64 X) (λX=>[])
theorem Qkt:Q04 pG Zd5:=oT (.nil) Tryz.func15 Tryz.call15 [] [] 2
def Qkl(n:Int):Tree Q0f:=
.lv Z90 λ(x0:List Int)=>.lv (Qyb n 1) λ(x1:Int)=>.an (Q4d x1 (x0.length:Int)) (.lv (Q7i x1 (x0.length:Int)) λ(x2:Int)=>.cn (bT 1 1&&bJ 0 1&&decide (0<=x2/\x2<(x0.length:Int))) (.an (Q4d (ishr i64 x1 8) 6) (.lv (Q7i (ishr i64 x1 8) 6) λ(x3:Int)=>.an (Q4d (ishr i64 x1 12) 6) (.lv (Q7i (ishr i64 x1 12) 6) λ(x4:Int)=>.an (Q4d (ishr i64 x1 16) 6) (.lv (Q7i (ishr i64 x1 16) 6) λ(x5:Int)=>.an (Q4d (ishr i64 x1 20) 24) (.lv (Q7i (ishr i64 x1 20) 24) λ(x6:Int)=>.br (decide (x0.getD x2.toNat (0:Int)<=(13:Int))) (.lf ({Op:=x0.getD x2.toNat 0,A:=x3,B:=x4,C:=x5,Imm:=0})) (let E4:=({Op:=x0.getD x2.toNat 0,A:=x3,B:=x4,C:=0,Imm:=wrap i32 (wrap i64 (wrap i64 (8*x6)-32))}:Q0f);let T1:Tree (Q0f):=.br (x0.getD x2.toNat (0:Int)==(49:Int)) (.lf (E4)) (.br (x0.getD x2.toNat (0:Int)==(24:Int)) (.lf ({Op:=x0.getD x2.toNat 0,A:=x3,B:=0,C:=0,Imm:=wrap i32 (wrap i64 (x6*iand i64 (ishr i64 x1 40) 1))})) (let T2:Tree (Q0f):=let E6:=({Op:=x0.getD x2.toNat 0,A:=x3,B:=0,C:=0,Imm:=wrap i32 (dA x6 8)}:Q0f);.br (x0.getD x2.toNat (0:Int)==(58:Int)) (.lf (E6)) (.br (x0.getD x2.toNat (0:Int)==(59:Int)) (.lf (E6)) (let E5:=({Op:=x0.getD x2.toNat 0,A:=x3,B:=0,C:=0,Imm:=wrap i32 (dA x6 12)}:Q0f);.br (x0.getD x2.toNat (0:Int)==(60:Int)) (.lf (E5)) (.br (x0.getD x2.toNat (0:Int)==(61:Int)) (.lf (E5)) (.lf ({Op:=x0.getD x2.toNat 0,A:=0,B:=0,C:=0,Imm:=0})))));.br (decide (x0.getD x2.toNat (0:Int)>=(17:Int))) (.br (decide (x0.getD x2.toNat (0:Int)<=(22:Int))) (.lf ({Op:=x0.getD x2.toNat 0,A:=x3,B:=x4,C:=0,Imm:=wrap i32 x6})) T2) T2));let T3:Tree (Q0f):=.br (x0.getD x2.toNat (0:Int)==(16:Int)) (.lf (E4)) (.br (x0.getD x2.toNat (0:Int)==(23:Int)) (.lf (E4)) (.br (decide (x0.getD x2.toNat (0:Int)>=(32:Int))) (.br (decide (x0.getD x2.toNat (0:Int)<=(36:Int))) (.lf (E4)) T1) T1));.br (decide (x0.getD x2.toNat (0:Int)>=(40:Int))) (.br (decide (x0.getD x2.toNat (0:Int)<=(48:Int))) (.br (x0.getD x2.toNat (0:Int)==(48:Int)) (.lf ({Op:=x0.getD x2.toNat 0,A:=x3,B:=0,C:=0,Imm:=wrap i32 (wrap i64 (x6-12))})) (.lf ({Op:=x0.getD x2.toNat 0,A:=x3,B:=x4,C:=0,Imm:=wrap i32 (wrap i64 (x6-12))}))) T3) T3)))))))
def Zb1 n:=(Qkl n).m
abbrev Qfq n:=(Qkl n).p
def Zh9:Q0a:=mT 98 [] true [.one (.int .i64)] [] (λa r=>Qkl (argI a 0)) (λX=>.agg (Q0f.cells X)) (λX=>[])
theorem Zbe:Q04 pG Zh9:=oT (.cons Zgh (.cons Qq3 (.cons Qkt (.nil)))) Tryz.func98 Tryz.call98 [] [] 2
def Qpt(l:List Int)(z:(Int)×(List Int)):Prop:=0<=z.1/\z.1<=l.length/\(z.2.length:Int)=z.1
def Qbz(l:List Int)(z:(Int)×(List Int)):Nat:=(l.length-z.1).toNat
def Qha(l:List Int):Tree (List Int):=
.lp inferInstance (Qbz l (0,[])+1) ((((Els.Nil (Els.ints i64 l)\/rE (1:Nat))/\rE (l:List Int))/\True/\rE (0:Int)/\True)/\rE ([]:List Int)/\True) (0,[]) λ(v0:Int×List Int)=>.br (decide (v0.1<(l.length:Int))) (let E1:=bT 1 1&&bJ 0 1&&decide (0<=v0.1/\v0.1<(l.length:Int));.cn E1 (let E2:=decide (4*(v0.2.length+1)<=140737488355328);.br (dA (l.getD v0.1.toNat 0) (17:Int)==(0:Int)) (.cn E1 (.cn E2 (.nx ((((Els.Nil (Els.ints i64 l)\/rE (1:Nat))/\rE (l:List Int))/\True/\rE ((wrap i64 (v0.1+1)):Int)/\True)/\rE ((v0.2++[wrap u32 (iand i64 (l.getD v0.1.toNat 0) 4294967295)]):List Int)/\True) (Sum.inl (wrap i64 (v0.1+1),v0.2++[wrap u32 (iand i64 (l.getD v0.1.toNat 0) 4294967295)]))))) (.cn E1 (.an (Qfq (l.getD v0.1.toNat 0)) (.lv (Zb1 (l.getD v0.1.toNat 0)) λ(x0:Q0f)=>.lv (Q1o x0) λ(x1:Int×Bool)=>.cn E2 (.nx ((((Els.Nil (Els.ints i64 l)\/rE (1:Nat))/\rE (l:List Int))/\True/\rE ((wrap i64 (v0.1+1)):Int)/\True)/\rE ((v0.2++[x1.1]):List Int)/\True) (Sum.inl (wrap i64 (v0.1+1),v0.2++[x1.1])))))))) (.lf (Sum.inr v0.2))
def Qmj l:=(Qha l).m
abbrev Qkw l:=(Qha l).p
def Zej:LInv:={
 α:=(Int)×(List Int)
 F:=λst a=>([(0,(lk st 0)),(3,.all 0),(4,.int i64 a.1)],[⟨false,23,1,.ints u32 a.2⟩])
 a0:=λst=>((lk st 4).toInt,(Q5t st.rows (rN st 3)))
 ex0:=λst=>[]++[(rX st 3 0)]}
def Z30:List (Nat×LInv):=[(3,Zej)]
def Zfj:Q0a:=mT 50 [] true [.one (.ints .i64)] [] (λa r=>Qha (argL .i64 a 0)) (λX=>.all 0) (λX=>[⟨false,23,1,.ints .u32 X⟩])
theorem Zau:Q04 pG Zfj:=oT (.cons Qjd (.cons Zbe (.nil))) Tryz.func50 Tryz.call50 [.row 23 1 (.ints .u32)] Z30 3
def Qiy(pc:Int):Tree Q01:=
.lf ({X:={a0:=0,a1:=0,a2:=0,a3:=0,a4:=0,a5:=0,a6:=0,a7:=0,a8:=0,a9:=0,a10:=0,a11:=0,a12:=0,a13:=0,a14:=0,a15:=0},Pc:=pc,B3:={a0:=1,a1:=0,a2:=0,a3:=0,a4:=0,a5:=0,a6:=0,a7:=0}})
def Qo2 pc:=(Qiy pc).m
def Zcw:Q0a:=mS 99 [] true [.one (.int .u32)] [] (λa r=>Qiy (argI a 0)) (λX=>.agg (Q01.cells X)) (λX=>[])
theorem Z8m:Q04 pG Zcw:=oS (.nil) Tryz.func99 Tryz.call99 [] [] 2
def Qjq(pages:Int):Tree (List Int):=
.br (decide (pages<1)) (.lf ([])) (.br (decide (pages>32)) (.lf ([])) (.cn (bJ 0 1&&bT 1 1&&List.all [D.int u32 0] D.plain&&decide (0<=wrap i64 (pages*32)/\wrap i64 (pages*32)<=wrap i64 (pages*32)/\wrap i64 (pages*32)<=9223372036854775807/\(↑4:Int)*wrap i64 (pages*32)<=140737488355328)) (.lf (List.replicate (dB (wrap i64 (pages*32))) 0))))
def Qrq pages:=(Qjq pages).m
abbrev Qj0 pages:=(Qjq pages).p
def Zl9:Q0a:=mT 100 [] true [.one (.int .i64)] [] (λa r=>Qjq (argI a 0)) (λX=>.all 0) (λX=>[⟨false,23,1,.ints .u32 X⟩])
theorem Zhe:Q04 pG Zl9:=oT (.nil) Tryz.func100 Tryz.call100 [.row 23 1 (.ints .u32)] [] 2
def Qbf(pages blocks:Int)(image:List Int):Tree (Q00×Bool):=
let T1:Tree ((Q00×Bool)):=.lf ({B2:={X:={a0:=0,a1:=0,a2:=0,a3:=0,a4:=0,a5:=0,a6:=0,a7:=0,a8:=0,a9:=0,a10:=0,a11:=0,a12:=0,a13:=0,a14:=0,a15:=0},Pc:=0,B3:={a0:=0,a1:=0,a2:=0,a3:=0,a4:=0,a5:=0,a6:=0,a7:=0}},Mem:=[],A2:={C9:=[]},A9:={D4:=false,C6:=0,D2:=false},A7:={Blocks:=0,B8:=0,Frame:=0,B7:=0,D6:=0,B4:=0,B1:=0,C0:=[]},C1:={Frame:=0,D8:=0,C3:=false,B6:=0,B5:=false,E0:=0},A0:={C4:=0,B9:=0},A3:=0,A4:=false,A6:=false},false);.br (decide (pages<1)) T1 (.br (decide (pages>32)) T1 (.br (decide (blocks<0)) T1 (.br (decide (blocks>64)) T1 (.br (decide ((image.length:Int)>wrap i64 (pages*32))) T1 (.lv (Qo2 0) λ(x0:Q01)=>.an (Qj0 pages) (.lv (Qrq pages) λ(x1:List Int)=>.lf ({B2:=x0,Mem:=cW (Min.min (image.length) (x1.length)) image++cX (Min.min (image.length) (x1.length)) x1,A2:={C9:=[]},A9:={D4:=false,C6:=0,D2:=false},A7:={Blocks:=wrap u32 blocks,B8:=0,Frame:=0,B7:=0,D6:=0,B4:=0,B1:=0,C0:=[]},C1:={Frame:=0,D8:=0,C3:=false,B6:=0,B5:=false,E0:=0},A0:={C4:=0,B9:=0},A3:=0,A4:=false,A6:=false},true)))))))
def Q2 pages blocks image:=(Qbf pages blocks image).m
abbrev Qew pages blocks image:=(Qbf pages blocks image).p
def Zl3:Q0a:=mT 51 [] true [.one (.int .i64),.one (.int .i64),.one (.ints .u32)] [] (λa r=>Qbf (argI a 0) (argI a 1) (argL .u32 a 2)) (λX=>.tup [.agg (Q00.cellsW (X.1) (.all 0)),.bool (X.2)]) (λX=>[⟨false,23,1,.ints .u32 (X.1).Mem⟩])
theorem Zgj:Q04 pG Zl3:=oT (.cons Z8m (.cons Zhe (.nil))) Tryz.func51 Tryz.call51 [.row 23 1 (.ints .u32)] [] 2
def Qhm(a b:List Int)(z:(Int)):Prop:=0<=z/\z<=a.length/\a.length=b.length
def Q5(a b:List Int)(z:(Int)):Nat:=(a.length-z).toNat
def Q84(a b:List Int):Tree Bool:=
.br ((a.length:Int) !=(b.length:Int)) (.lf false) (.lp inferInstance (Q5 a b 0+1) ((((Els.Nil (Els.ints u32 a)\/rE (1:Nat))/\rE (a:List Int))/\((Els.Nil (Els.ints u32 b)\/rE (1:Nat))/\rE (b:List Int))/\rE (0:Int)/\True)/\True) 0 λ(v0:Int)=>.br (decide (v0<(a.length:Int))) (.cn (bT 1 1&&bJ 0 1&&decide (0<=v0/\v0<(a.length:Int))) (.cn (bT 1 1&&bJ 0 1&&decide (0<=v0/\v0<(b.length:Int))) (.br (a.getD v0.toNat 0 !=b.getD v0.toNat 0) (.lf (Sum.inr false)) (.nx ((((Els.Nil (Els.ints u32 a)\/rE (1:Nat))/\rE (a:List Int))/\((Els.Nil (Els.ints u32 b)\/rE (1:Nat))/\rE (b:List Int))/\rE ((wrap i64 (v0+1)):Int)/\True)/\True) (Sum.inl (wrap i64 (v0+1))))))) (.lf (Sum.inr true)))
def Qdz a b:=(Q84 a b).m
def Q8q(a b:List Int):Prop:=
a.length<=1000000000000
theorem Qt1(a b:List Int)(hw:Q8q a b):(Q84 a b).p:=by
 simp only[Q8q]at hw
 unfold Tree.p Q84
 repeat'(first|refine w_lp (inv:=Qhm a b) (μ:=Q5 a b) ?_ (cL _) (λ_ _=>?_)|exact trivial|refine w_br (λ_=>?_) (λ_=>?_)|refine w_cn ?_ ?_|refine w_an ?_ ?_|refine w_lv (λ_ _=>?_)|refine w_nx ?_|refine w_lf ?_|refine And.intro ?_ ?_)
 all_goals((try simp only[Qhm,Q5]at*);exact fin0)
def Qu5:LInv:={
 α:=(Int)
 F:=λst a=>([(0,(lk st 0)),(1,(lk st 1)),(5,.int i64 a)],[])
 a0:=λst=>(lk st 5).toInt
 ex0:=λst=>[]++[]}
def Qq8:List (Nat×LInv):=[(4,Qu5)]
def Qxs:Q0a:=mkP 67 [] true [.one (.ints .u32),.one (.ints .u32)] [] (λa r=>Q8q (argL .u32 a 0) (argL .u32 a 1)) (λa r=>Qdz (argL .u32 a 0) (argL .u32 a 1)) (λX=>.bool X) (λX=>[])
theorem Qvd:Q04 pG Qxs:=Q0i drawn Q0h (.nil) Tryz.func67 Tryz.call67 (λa r=>Q84 (argL .u32 a 0) (argL .u32 a 1)) [] Qq8 3 (hp:=λa r h=>Qt1 (argL .u32 a 0) (argL .u32 a 1) h)
def Qi3(a b:Q00):Tree Bool:=
.br (eqs [D.int u32 a.B2.X.a0,D.int u32 a.B2.X.a1,D.int u32 a.B2.X.a2,D.int u32 a.B2.X.a3,D.int u32 a.B2.X.a4,D.int u32 a.B2.X.a5,D.int u32 a.B2.X.a6,D.int u32 a.B2.X.a7,D.int u32 a.B2.X.a8,D.int u32 a.B2.X.a9,D.int u32 a.B2.X.a10,D.int u32 a.B2.X.a11,D.int u32 a.B2.X.a12,D.int u32 a.B2.X.a13,D.int u32 a.B2.X.a14,D.int u32 a.B2.X.a15,D.int u32 a.B2.Pc,D.int u32 a.B2.B3.a0,D.int u32 a.B2.B3.a1,D.int u32 a.B2.B3.a2,D.int u32 a.B2.B3.a3,D.int u32 a.B2.B3.a4,D.int u32 a.B2.B3.a5,D.int u32 a.B2.B3.a6,D.int u32 a.B2.B3.a7] [D.int u32 b.B2.X.a0,D.int u32 b.B2.X.a1,D.int u32 b.B2.X.a2,D.int u32 b.B2.X.a3,D.int u32 b.B2.X.a4,D.int u32 b.B2.X.a5,D.int u32 b.B2.X.a6,D.int u32 b.B2.X.a7,D.int u32 b.B2.X.a8,D.int u32 b.B2.X.a9,D.int u32 b.B2.X.a10,D.int u32 b.B2.X.a11,D.int u32 b.B2.X.a12,D.int u32 b.B2.X.a13,D.int u32 b.B2.X.a14,D.int u32 b.B2.X.a15,D.int u32 b.B2.Pc,D.int u32 b.B2.B3.a0,D.int u32 b.B2.B3.a1,D.int u32 b.B2.B3.a2,D.int u32 b.B2.B3.a3,D.int u32 b.B2.B3.a4,D.int u32 b.B2.B3.a5,D.int u32 b.B2.B3.a6,D.int u32 b.B2.B3.a7]) (.an (Q8q a.Mem b.Mem) (.lv (Qdz a.Mem b.Mem) λ(x0:Bool)=>.br x0 (.br (eqs [D.str a.A2.C9] [D.str b.A2.C9]) (.br (eqs [D.bool a.A9.D4,D.int u32 a.A9.C6,D.bool a.A9.D2] [D.bool b.A9.D4,D.int u32 b.A9.C6,D.bool b.A9.D2]) (.br (eqs [D.int u32 a.A7.Blocks,D.int u32 a.A7.B8,D.int u32 a.A7.Frame,D.int i64 a.A7.B7,D.int i64 a.A7.D6,D.int u32 a.A7.B4,D.int u32 a.A7.B1,D.str a.A7.C0] [D.int u32 b.A7.Blocks,D.int u32 b.A7.B8,D.int u32 b.A7.Frame,D.int i64 b.A7.B7,D.int i64 b.A7.D6,D.int u32 b.A7.B4,D.int u32 b.A7.B1,D.str b.A7.C0]) (.br (eqs [D.int u32 a.C1.Frame,D.int u32 a.C1.D8,D.bool a.C1.C3,D.int u32 a.C1.B6,D.bool a.C1.B5,D.int u32 a.C1.E0] [D.int u32 b.C1.Frame,D.int u32 b.C1.D8,D.bool b.C1.C3,D.int u32 b.C1.B6,D.bool b.C1.B5,D.int u32 b.C1.E0]) (.br (eqs [D.int u32 a.A0.C4,D.int u32 a.A0.B9] [D.int u32 b.A0.C4,D.int u32 b.A0.B9]) (.br (a.A3==b.A3) (.br (a.A4==b.A4) (.lf (a.A6==b.A6)) (.lf false)) (.lf false)) (.lf false)) (.lf false)) (.lf false)) (.lf false)) (.lf false)) (.lf false))) (.lf false)
def Zdj a b:=(Qi3 a b).m
abbrev Qre a b:=(Qi3 a b).p
def Zh8:Q0a:=mT 24 [] true [.agg Q00.sig,.agg Q00.sig] [] (λa r=>Qi3 (Q00.of (aC a 0)) (Q00.of (aC a 1))) (λX=>.bool X) (λX=>[])
theorem Ze:Q04 pG Zh8:=oT (.cons Qvd (.nil)) Tryz.func24 Tryz.call24 [] [] 2
