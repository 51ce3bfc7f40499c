import Derived.Test.YthjfindbamdacaaGreatDoorPostRunsFh
import Derived.Test.YthjfindbamdacaaGreatDoorPostRunsYx
open List renaming take->cW,drop->cX,length->dG,set->dC,getD->aK
open Int renaming toNat->dB,tmod->dA
open UInt8 renaming toNat->eQ
open Nat renaming blt->bJ,beq->bT,lt_succ_self->cL
set_option maxRecDepth 100000
set_option linter.all false
namespace Go.Proofs.YthjfindbamdacaaGreatDoor
open Go Go.GD Go.IntKind
noncomputable section
def Q3r(m:Q00):Tree Bool:=
.an (Q51 m) (.lv (Q10 m) λ(x0:Bool)=>.br x0 (.br (!m.A9) (.an (Qc1 m) (.lv (Q5 m) λ(x1:Bool)=>.br (!x1) (.lf (decide (m.A2<1152921504606846976))) (.lf false))) (.lf false)) (.lf false))
def Q14 m:=(Q3r m).m
abbrev Qn7 m:=(Q3r m).p
def Z4r:Q0b:=mT 61 [] true [.agg Q00.sig] [] (λa r=>Q3r (Q00.of (aC a 0))) (λX=>.bool X) (λX=>[])
theorem Z2c:Q04 pG Z4r:=oT (.cons Qbn (.cons Qoi (.nil))) Tryz.func61 Tryz.call61 [] [] 2
def Qhl(m:Q00)(z:(Int)):Nat:=(5-z).toNat
def Q7v(m:Q00):Tree Q00:=
let E1:=({A4:=m.A4,Mem:=m.Mem,A3:=m.A3,B2:=m.B2,B0:=m.B0,C2:=m.C2,A1:=m.A1,A2:=m.A2,A6:=false,A9:=m.A9}:Q00);.br (iand u32 m.A4.B3.a0 (2:Int)==(0:Int)) (.lf (E1)) (.an (Qc7 E1) (.lv (Q61 E1) λ(x0:Int)=>.lp inferInstance (Qhl m 0+1) ((rZ/\rZ/\rE (x0:Int)/\rE (0:Int)/\True)/\(rE m.A4.X.a0/\rE m.A4.X.a1/\rE m.A4.X.a2/\rE m.A4.X.a3/\rE m.A4.X.a4/\rE m.A4.X.a5/\rE m.A4.X.a6/\rE m.A4.X.a7/\rE m.A4.X.a8/\rE m.A4.X.a9/\rE m.A4.X.a10/\rE m.A4.X.a11/\rE m.A4.X.a12/\rE m.A4.X.a13/\rE m.A4.X.a14/\rE m.A4.X.a15/\rE m.A4.Pc/\rE m.A4.B3.a0/\rE m.A4.B3.a1/\rE m.A4.B3.a2/\rE m.A4.B3.a3/\rE m.A4.B3.a4/\rE m.A4.B3.a5/\rE m.A4.B3.a6/\rE m.A4.B3.a7/\((Els.Nil (Els.ints u32 m.Mem)\/rE (1:Nat))/\rE m.Mem)/\rE m.A3.D0/\rE m.B2.D4/\rE m.B2.C7/\rE m.B2.D2/\rE m.B0.Blocks/\rE m.B0.B8/\rE m.B0.Frame/\rE m.B0.B9/\rE m.B0.D5/\rE m.B0.B5/\rE m.B0.B1/\rE m.B0.C1/\rE m.C2.Frame/\rE m.C2.D7/\rE m.C2.C4/\rE m.C2.B6/\rE m.C2.B7/\rE m.C2.E0/\rE m.A1.C6/\rE m.A1.C0/\rE m.A2/\rE (false:Bool)/\rE m.A9/\True)/\(mE zM True True)/\True) 0 λ(v0:Int)=>.br (decide (v0<5)) (.cn (decide (0<=v0)) (.br (iand u32 x0 (ishl u32 1 v0) !=0) (.lv (Q3a m.A4 (wrap i64 (16+v0)) 0) λ(x1:Q02)=>.lf (Sum.inr {A4:=x1,Mem:=m.Mem,A3:=m.A3,B2:=m.B2,B0:=m.B0,C2:=m.C2,A1:=m.A1,A2:=m.A2,A6:=false,A9:=m.A9})) (.nx ((rZ/\rZ/\rE (x0:Int)/\rE ((wrap i64 (v0+1)):Int)/\True)/\(rE m.A4.X.a0/\rE m.A4.X.a1/\rE m.A4.X.a2/\rE m.A4.X.a3/\rE m.A4.X.a4/\rE m.A4.X.a5/\rE m.A4.X.a6/\rE m.A4.X.a7/\rE m.A4.X.a8/\rE m.A4.X.a9/\rE m.A4.X.a10/\rE m.A4.X.a11/\rE m.A4.X.a12/\rE m.A4.X.a13/\rE m.A4.X.a14/\rE m.A4.X.a15/\rE m.A4.Pc/\rE m.A4.B3.a0/\rE m.A4.B3.a1/\rE m.A4.B3.a2/\rE m.A4.B3.a3/\rE m.A4.B3.a4/\rE m.A4.B3.a5/\rE m.A4.B3.a6/\rE m.A4.B3.a7/\((Els.Nil (Els.ints u32 m.Mem)\/rE (1:Nat))/\rE m.Mem)/\rE m.A3.D0/\rE m.B2.D4/\rE m.B2.C7/\rE m.B2.D2/\rE m.B0.Blocks/\rE m.B0.B8/\rE m.B0.Frame/\rE m.B0.B9/\rE m.B0.D5/\rE m.B0.B5/\rE m.B0.B1/\rE m.B0.C1/\rE m.C2.Frame/\rE m.C2.D7/\rE m.C2.C4/\rE m.C2.B6/\rE m.C2.B7/\rE m.C2.E0/\rE m.A1.C6/\rE m.A1.C0/\rE m.A2/\rE (false:Bool)/\rE m.A9/\True)/\(mE zM True True)/\True) (Sum.inl (wrap i64 (v0+1)))))) (.lf (Sum.inr E1))))
def Q1e m:=(Q7v m).m
abbrev Ql5 m:=(Q7v m).p
def Qz5:LInv:={
 α:=(Int)
 F:=λst a=>([(1,.ptr 0 0 0),(2,.ptr 1 0 0),(3,(lk st 3)),(15,.int i64 a)],[⟨true,42,49,.gen [mB (cT st 1)]⟩,⟨true,42,49,.gen [mB (cT st 2)]⟩])
 a0:=λst=>(lk st 15).toInt
 ex0:=λst=>[]++[(rX st 1 0),(rX st 2 1)]}
def Qu4:List (Nat×LInv):=[(6,Qz5)]
def Z1:Q0b:=Q0b.fz<|mkP 62 [] false [.agg Q00.sig] [] (λa r=>Ql5 (Q00.of (aC a 0))) (λa r=>Q1e (Q00.of (aC a 0))) (λX=>.agg (Q00.cells X)) (λX=>[])
theorem Qyz:Q04 pG Z1:=fz_ok<|Q0o drawn Q0m (.cons Qjg (.cons Qe (.nil))) Tryz.func62 Tryz.call62 (λa r=>Q7v (Q00.of (aC a 0))) [.sl (.ints .u32) false] Qu4 3 (λ_ _ _=>by kernel_rfl) (λ_ _=>rfl) (λ_ _ h=>h) (λh=>by cases h)
def Q9z(c:Q0c)(port:Int):Tree (Q0c×Int):=
.br (port==0) (.br (decide (c.D0=[])) (.lf (c,4294967295)) (.cn (decide ((0:Int)<=(0:Int)/\0<(c.D0.length:Int))) (.cn (decide ((0:Int)<=(1:Int)/\1<=(c.D0.length:Int)/\(c.D0.length:Int)<=(c.D0.length:Int))) (.lf ({D0:=cW (dB (c.D0.length:Int)-dB 1) (cX (dB 1) c.D0)},wrap u32 (↑(eQ (c.D0.getD (dB 0) (0:UInt8))):Int)))))) (.br (port==1) (.lf (c,wrap u32 (c.D0.length:Int))) (.lf (c,0)))
def Qpc c port:=(Q9z c port).m
theorem Z46(c:Q0c)(port:Int):(Q9z c port).p:=by
 unfold Tree.p Q9z
 repeat'(first|exact trivial|refine w_br (λ_=>?_) (λ_=>?_)|refine w_cn ?_ ?_|refine w_an ?_ ?_|refine w_lv (λ_ _=>?_)|refine w_nx ?_|refine w_lf ?_|refine And.intro ?_ ?_)
 all_goals(exact fin0)
def Zc9:Q0b:=mS 122 [] true [.agg Q0c.sig,.one (.int .i64)] [] (λa r=>Q9z (Q0c.of (aC a 0)) (argI a 1)) (λX=>.tup [.agg (Q0c.cells (X.1)),.int .u32 (X.2)]) (λX=>[])
theorem Z9b:Q04 pG Zc9:=oS (.nil) Tryz.func122 Tryz.call122 [] [] 2 (λ_ _ _=>by kernel_rfl) (λa r=>Z46 (Q0c.of (aC a 0)) (argI a 1)) (λ_ X=>by kernel_rfl)
def Qpt(t:Q0n):Tree Int:=
.br t.D2 (.lf 1) (.lf 0)
def Z00 t:=(Qpt t).m
def Zn2:Q0b:=mS 123 [] true [.agg Q0n.sig] [] (λa r=>Qpt (Q0n.of (aC a 0))) (λX=>.int .u32 X) (λX=>[])
theorem Zgo:Q04 pG Zn2:=oS (.nil) Tryz.func123 Tryz.call123 [] [] 2
def Qtf(d0:Q0d)(port:Int):Tree Int:=
.br (port==4) (.lf d0.B8) (.br (port==5) (.lf d0.Frame) (.br (port==6) (.lf (wrap u32 d0.B9)) (.lf 0)))
def Qvt d0 port:=(Qtf d0 port).m
def yy:Q0b:=mS 124 [] true [.agg Q0d.sig,.one (.int .i64)] [] (λa r=>Qtf (Q0d.of (aC a 0)) (argI a 1)) (λX=>.int .u32 X) (λX=>[])
theorem Zlb:Q04 pG yy:=oS (.nil) Tryz.func124 Tryz.call124 [] [] 2
def Qu5(n:Q0u)(port:Int):Tree Int:=
.br (port==7) (.lf n.Frame) (.br (port==8) (.lf n.E0) (.br (port==9) (.br n.C4 (.br n.B7 (.lf (wrap u32 (wrap u32 ((0:Int)+(1:Int))+2))) (.lf (wrap u32 ((0:Int)+(1:Int))))) (.br n.B7 (.lf (wrap u32 ((0:Int)+(2:Int)))) (.lf 0))) (.lf 0)))
def Z2q n port:=(Qu5 n port).m
def yP:Q0b:=mS 125 [] true [.agg Q0u.sig,.one (.int .i64)] [] (λa r=>Qu5 (Q0u.of (aC a 0)) (argI a 1)) (λX=>.int .u32 X) (λX=>[])
theorem qz:Q04 pG yP:=oS (.nil) Tryz.func125 Tryz.call125 [] [] 2
def Qcl(b:Q06)(port:Int):Tree Int:=
.br (port==10) (.lf b.C6) (.br (port==11) (.an (Qeb b) (.lv (Qdm b) λ(x0:Int)=>.lf (wrap u32 x0))) (.lf 0))
def Qq0 b port:=(Qcl b port).m
abbrev Qqw b port:=(Qcl b port).p
def Zfa:Q0b:=mT 126 [] true [.agg Q06.sig,.one (.int .i64)] [] (λa r=>Qcl (Q06.of (aC a 0)) (argI a 1)) (λX=>.int .u32 X) (λX=>[])
theorem Z9n:Q04 pG Zfa:=oT (.cons Qmu (.nil)) Tryz.func126 Tryz.call126 [] [] 2
def Q40(m:Q00)(port clock:Int):Tree (Q00×Int):=
let T1:Tree ((Q00×Int)):=.lv (Qpc m.A3 port) λ(x0:Q0c×Int)=>.lf ({A4:=m.A4,Mem:=m.Mem,A3:=x0.1,B2:=m.B2,B0:=m.B0,C2:=m.C2,A1:=m.A1,A2:=m.A2,A6:=m.A6,A9:=m.A9},x0.2);.br (port==0) T1 (.br (port==1) T1 (.br (port==2) (.lf (m,clock)) (.br (port==3) (.lv (Z00 m.B2) λ(x2:Int)=>.lf (m,x2)) (.br (port==4) (.lv (Qvt m.B0 port) λ(x3:Int)=>.lf (m,x3)) (.br (port==5) (.lv (Qvt m.B0 port) λ(x4:Int)=>.lf (m,x4)) (.br (port==6) (.lv (Qvt m.B0 port) λ(x5:Int)=>.lf (m,x5)) (.br (port==7) (.lv (Z2q m.C2 port) λ(x6:Int)=>.lf (m,x6)) (.br (port==8) (.lv (Z2q m.C2 port) λ(x7:Int)=>.lf (m,x7)) (.br (port==9) (.lv (Z2q m.C2 port) λ(x8:Int)=>.lf (m,x8)) (let T2:Tree ((Q00×Int)):=.an (Qqw m.A1 port) (.lv (Qq0 m.A1 port) λ(x9:Int)=>.lf (m,x9));.br (port==10) T2 (.br (port==11) T2 (.lf (m,0)))))))))))))
def Q0w m port clock:=(Q40 m port clock).m
abbrev Qgd m port clock:=(Q40 m port clock).p
def Qu8:Q0b:=Q0b.fz<|mkP 64 [] false [.agg Q00.sig,.one (.int .i64),.one (.int .u32)] [] (λa r=>Qgd (Q00.of (aC a 0)) (argI a 1) (argI a 2)) (λa r=>Q0w (Q00.of (aC a 0)) (argI a 1) (argI a 2)) (λX=>.tup [.agg (Q00.cells (X.1)),.int .u32 (X.2)]) (λX=>[])
theorem Qrw:Q04 pG Qu8:=fz_ok<|Q0o drawn Q0m (.cons Z9b (.cons Zgo (.cons Zlb (.cons qz (.cons Z9n (.nil)))))) Tryz.func64 Tryz.call64 (λa r=>Q40 (Q00.of (aC a 0)) (argI a 1) (argI a 2)) [.sl (.ints .u32) false] [] 2 (λ_ _ _=>by kernel_rfl) (λ_ _=>rfl) (λ_ _ h=>h) (λh=>by cases h)
def Qml(t:Q0n)(deadline:Int):Tree Q0n:=
.lf ({D4:=deadline !=0,C7:=deadline,D2:=false})
def Qhj t deadline:=(Qml t deadline).m
def Zgk:Q0b:=mS 127 [] true [.agg Q0n.sig,.one (.int .u32)] [] (λa r=>Qml (Q0n.of (aC a 0)) (argI a 1)) (λX=>.agg (Q0n.cells X)) (λX=>[])
theorem Zdd:Q04 pG Zgk:=oS (.nil) Tryz.func127 Tryz.call127 [] [] 2
def Q8b(m:List Int)(frame:Int):Tree Bool:=
.lv (Q1 m) λ(x0:Int)=>.lf (decide (wrap u64 frame<wrap u64 x0))
def Q3w m frame:=(Q8b m frame).m
def Zbd:Q0b:=mS 134 [] true [.one (.ints .u32),.one (.int .u32)] [] (λa r=>Q8b (argL .u32 a 0) (argI a 1)) (λX=>.bool X) (λX=>[])
theorem Qqx:Q04 pG Zbd:=oS (.cons Q3 (.nil)) Tryz.func134 Tryz.call134 [] [] 2
def Q8v(m:List Int)(frame:Int):Tree Bool:=
.br (decide (frame>=0)) (.lv (Q1 m) λ(x0:Int)=>.lf (decide (frame<x0))) (.lf false)
def Q5o m frame:=(Q8v m frame).m
def Qyx:Q0b:=mS 60 [] true [.one (.ints .u32),.one (.int .i64)] [] (λa r=>Q8v (argL .u32 a 0) (argI a 1)) (λX=>.bool X) (λX=>[])
theorem Ql2:Q04 pG Qyx:=oS (.cons Q3 (.nil)) Tryz.func60 Tryz.call60 [] [] 2
def Qn4(words:List Int)(z:(Int)×(List Int)):Prop:=0<=z.1/\z.1<=words.length/\(z.2.length:Int)=4*z.1
def Q7o(words:List Int)(z:(Int)×(List Int)):Nat:=(words.length-z.1).toNat
def Q5k(words:List Int):Tree (List UInt8):=
.cn (bJ 0 1&&bT 1 1&&List.all [D.int u8 0] D.plain&&decide ((0:Int)<=(0:Int)/\0<=wrap i64 (4*(words.length:Int))/\wrap i64 (4*(words.length:Int))<=9223372036854775807/\(↑1:Int)*wrap i64 (4*(words.length:Int))<=140737488355328)) (.lp inferInstance (Q7o words (0,[])+1) ((True/\((Els.Nil (Els.ints u32 words)\/rE (1:Nat))/\rE (words:List Int))/\rE ((words.length:Int):Int)/\rE (0:Int)/\True)/\rE ([]:List Int)/\True) (0,[]) λ(v0:Int×List Int)=>.br (decide (v0.1<(words.length:Int))) (.cn (bT 1 1&&bJ 0 1&&decide (0<=v0.1/\v0.1<(words.length:Int))) (.cn (decide (1*(v0.2.length+4)<=140737488355328)) (let E1:=words.getD v0.1.toNat 0;.nx ((True/\((Els.Nil (Els.ints u32 words)\/rE (1:Nat))/\rE (words:List Int))/\rE ((words.length:Int):Int)/\rE ((wrap i64 (v0.1+1)):Int)/\True)/\rE ((v0.2++[wrap u8 (words.getD v0.1.toNat 0),wrap u8 (ishr u32 (words.getD v0.1.toNat 0) 8),wrap u8 (ishr u32 (words.getD v0.1.toNat 0) 16),wrap u8 (ishr u32 (words.getD v0.1.toNat 0) 24)]):List Int)/\True) (Sum.inl (wrap i64 (v0.1+1),v0.2++[wrap u8 E1,wrap u8 (ishr u32 E1 8),wrap u8 (ishr u32 E1 16),wrap u8 (ishr u32 E1 24)]))))) (.lf (Sum.inr (bytesOf v0.2))))
def Z19 words:=(Q5k words).m
def Qcu(words:List Int):Prop:=
words.length<=1000000000000
theorem Z31(words:List Int)(hw:Qcu words):(Q5k words).p:=by
 simp only[Qcu]at hw
 unfold Tree.p Q5k
 repeat'(first|refine w_lp (inv:=Qn4 words) (μ:=Q7o words) ?_ (cL _) (λ_ _=>?_)|exact trivial|refine w_br (λ_=>?_) (λ_=>?_)|refine w_cn ?_ ?_|refine w_an ?_ ?_|refine w_lv (λ_ _=>?_)|refine w_nx ?_|refine w_lf ?_|refine And.intro ?_ ?_)
 all_goals((try simp only[Qn4,Q7o]at*);exact fin0)
def Z4b:LInv:={
 α:=(Int)×(List Int)
 F:=λst a=>([(3,.all 0),(10,(lk st 10)),(11,(lk st 11)),(12,.int i64 a.1)],[⟨false,5,1,.ints u8 a.2⟩])
 a0:=λst=>((lk st 12).toInt,(Q5u st.rows (rN st 3)))
 ex0:=λst=>[]++[(rX st 3 0)]}
def Qyi:List (Nat×LInv):=[(3,Z4b)]
def Zaw:Q0b:=mkP 66 [] true [.one (.ints .u32)] [] (λa r=>Qcu (argL .u32 a 0)) (λa r=>Z19 (argL .u32 a 0)) (λX=>.str X) (λX=>[])
theorem Z4u:Q04 pG Zaw:=Q0o drawn Q0m (.nil) Tryz.func66 Tryz.call66 (λa r=>Q5k (argL .u32 a 0)) [] Qyi 3 (hp:=λa r h=>Z31 (argL .u32 a 0) h)
def Q5l(m:List Int)(frame:Int):Tree ((List UInt8)×Bool):=
.lv (Q5o m frame) λ(x0:Bool)=>.br (!x0) (.lf ([],false)) (.cn (bT 1 1&&bJ 0 1&&decide (0<=wrap i64 (frame*32)/\wrap i64 (frame*32)<=wrap i64 (wrap i64 (frame*32)+32)/\wrap i64 (wrap i64 (frame*32)+32)<=(m.length:Int))) (let E1:=cW (dB (wrap i64 (wrap i64 (frame*32)+32))-dB (wrap i64 (frame*32))) (cX (dB (wrap i64 (frame*32))) m);.an (Qcu E1) (.lv (Z19 E1) λ(x1:List UInt8)=>.lf (x1,true))))
def Q12 m frame:=(Q5l m frame).m
abbrev Q4y m frame:=(Q5l m frame).p
def Z9x:Q0b:=mT 23 [] true [.one (.ints .u32),.one (.int .i64)] [] (λa r=>Q5l (argL .u32 a 0) (argI a 1)) (λX=>.tup [.str (X.1),.bool (X.2)]) (λX=>[])
theorem Q95:Q04 pG Z9x:=oT (.cons Ql2 (.cons Z4u (.nil))) Tryz.func23 Tryz.call23 [] [] 2
def Qqk(d0:Q0d)(at0:Int):Tree (Q0a×Bool):=
.br (d0.B9 !=1) (.lf ({C3:=0,At:=0,B8:=0,C5:=[]},false)) (.br (d0.D5==1) (.lf ({C3:=3,At:=at0,B8:=d0.B5,C5:=[]},true)) (.br (d0.D5==2) (.lf ({C3:=4,At:=at0,B8:=d0.B5,C5:=d0.C1},true)) (.lf ({C3:=0,At:=0,B8:=0,C5:=[]},false))))
def Qjn d0 at0:=(Qqk d0 at0).m
def Z40:Q0b:=mS 254 [] true [.agg Q0d.sig,.one (.int .u64)] [] (λa r=>Qqk (Q0d.of (aC a 0)) (argI a 1)) (λX=>.tup [.agg (Q0a.cells (X.1)),.bool (X.2)]) (λX=>[])
theorem Z2i:Q04 pG Z40:=oS (.nil) Tryz.func254 Tryz.call254 [] [] 2
def Q9x(d0:Q0d)(m:List Int)(cmd at0:Int):Tree (Q0d×(List Q0a)):=
.br (d0.B9 !=0) (.lf (d0,[])) (let T1:Tree ((Q0d×(List Q0a))):=.lf ({Blocks:=d0.Blocks,B8:=d0.B8,Frame:=d0.Frame,B9:=3,D5:=d0.D5,B5:=d0.B5,B1:=d0.B1,C1:=d0.C1},[]);.br (decide (d0.B8>=d0.Blocks)) T1 (.lv (Q3w m d0.Frame) λ(x0:Bool)=>.br (!x0) T1 (.br (cmd==2) (.an (Q4y m (wrap i64 d0.Frame)) (.lv (Q12 m (wrap i64 d0.Frame)) λ(x1:List UInt8×Bool)=>let E2:=({Blocks:=d0.Blocks,B8:=d0.B8,Frame:=d0.Frame,B9:=1,D5:=cmd,B5:=d0.B8,B1:=d0.Frame,C1:=x1.1}:Q0d);.lv (Qjn E2 at0) λ(x2:Q0a×Bool)=>.lf (E2,[x2.1]))) (let E3:=({Blocks:=d0.Blocks,B8:=d0.B8,Frame:=d0.Frame,B9:=1,D5:=cmd,B5:=d0.B8,B1:=d0.Frame,C1:=[]}:Q0d);.lv (Qjn E3 at0) λ(x3:Q0a×Bool)=>.lf (E3,[x3.1])))))
def Qh4 d0 m cmd at0:=(Q9x d0 m cmd at0).m
abbrev Qqg d0 m cmd at0:=(Q9x d0 m cmd at0).p
def Zfm:Q0b:=mT 192 [] true [.agg Q0d.sig,.one (.ints .u32),.one (.int .i64),.one (.int .u64)] [] (λa r=>Q9x (Q0d.of (aC a 0)) (argL .u32 a 1) (argI a 2) (argI a 3)) (λX=>.tup [.agg (Q0d.cells (X.1)),.sl 4 (.recs .apiOutput (X.2)) true]) (λX=>[])
theorem Z91:Q04 pG Zfm:=oT (.cons Qqx (.cons Q95 (.cons Z2i (.nil)))) Tryz.func192 Tryz.call192 [.sl (.recs .apiOutput) true] [] 2
def Qea(d0:Q0d)(m:List Int)(port v at0:Int):Tree (Q0d×(List Q0a)):=
.br (port==4) (.lf ({Blocks:=d0.Blocks,B8:=v,Frame:=d0.Frame,B9:=d0.B9,D5:=d0.D5,B5:=d0.B5,B1:=d0.B1,C1:=d0.C1},[])) (.br (port==5) (.lf ({Blocks:=d0.Blocks,B8:=d0.B8,Frame:=v,B9:=d0.B9,D5:=d0.D5,B5:=d0.B5,B1:=d0.B1,C1:=d0.C1},[])) (.br (port==6) (let T1:Tree ((Q0d×(List Q0a))):=.an (Qqg d0 m (wrap i64 v) at0) (.lv (Qh4 d0 m (wrap i64 v) at0) λ(x0:Q0d×List Q0a)=>.lf (x0.1,x0.2));.br (v==1) T1 (.br (v==2) T1 (.br (v==0) (.lv (Q9r d0) λ(x2:Bool)=>.br x2 (.lf ({Blocks:=d0.Blocks,B8:=d0.B8,Frame:=d0.Frame,B9:=0,D5:=d0.D5,B5:=d0.B5,B1:=d0.B1,C1:=d0.C1},[])) (.lf (d0,[]))) (.lf (d0,[]))))) (.lf (d0,[]))))
def Q8c d0 m port v at0:=(Qea d0 m port v at0).m
abbrev Qx0 d0 m port v at0:=(Qea d0 m port v at0).p
def Zll:Q0b:=mT 128 [] true [.agg Q0d.sig,.one (.ints .u32),.one (.int .i64),.one (.int .u32),.one (.int .u64)] [] (λa r=>Qea (Q0d.of (aC a 0)) (argL .u32 a 1) (argI a 2) (argI a 3) (argI a 4)) (λX=>.tup [.agg (Q0d.cells (X.1)),.sl 4 (.recs .apiOutput (X.2)) true]) (λX=>[])
theorem Zio:Q04 pG Zll:=oT (.cons Z91 (.cons Qoa (.nil))) Tryz.func128 Tryz.call128 [.sl (.recs .apiOutput) true] [] 2
def Qa(m:List Int)(frame:Int):Tree Bool:=
.lv (Q1 m) λ(x0:Int)=>.lf (decide (wrap u64 frame<wrap u64 x0))
def Q4m m frame:=(Qa m frame).m
def Zcg:Q0b:=mS 135 [] true [.one (.ints .u32),.one (.int .u32)] [] (λa r=>Qa (argL .u32 a 0) (argI a 1)) (λX=>.bool X) (λX=>[])
theorem Qlp:Q04 pG Zcg:=oS (.cons Q3 (.nil)) Tryz.func135 Tryz.call135 [] [] 2
def Qeq(n:Q0u)(m:List Int)(at0:Int):Tree (List Q0a):=
.br (decide (n.D7<1)) (.lf ([])) (.br (decide (n.D7>128)) (.lf ([])) (.lv (Q4m m n.Frame) λ(x0:Bool)=>.br (!x0) (.lf ([])) (.an (Q4y m (wrap i64 n.Frame)) (.lv (Q12 m (wrap i64 n.Frame)) λ(x1:List UInt8×Bool)=>.cn (decide ((0:Int)<=(0:Int)/\0<=n.D7/\n.D7<=(x1.1.length:Int))) (.lf ([{C3:=2,At:=at0,B8:=0,C5:=cW (dB n.D7-dB 0) (cX (dB 0) x1.1)}]))))))
def Qpx n m at0:=(Qeq n m at0).m
abbrev Qx4 n m at0:=(Qeq n m at0).p
def Zmb:Q0b:=mT 193 [] true [.agg Q0u.sig,.one (.ints .u32),.one (.int .u64)] [] (λa r=>Qeq (Q0u.of (aC a 0)) (argL .u32 a 1) (argI a 2)) (λX=>.sl 4 (.recs .apiOutput X) true) (λX=>[])
theorem Zh1:Q04 pG Zmb:=oT (.cons Qlp (.cons Q95 (.nil))) Tryz.func193 Tryz.call193 [.sl (.recs .apiOutput) true] [] 2
def Qhg(n:Q0u)(m:List Int)(port v at0:Int):Tree (Q0u×(List Q0a)):=
.br (port==7) (.lf ({Frame:=v,D7:=n.D7,C4:=n.C4,B6:=n.B6,B7:=n.B7,E0:=n.E0},[])) (.br (port==8) (.lf ({Frame:=n.Frame,D7:=v,C4:=n.C4,B6:=n.B6,B7:=n.B7,E0:=n.E0},[])) (.br (port==9) (.br (v==1) (.an (Qx4 n m at0) (.lv (Qpx n m at0) λ(x0:List Q0a)=>.lf (n,x0))) (.br (v==2) (.lv (Q4m m n.Frame) λ(x1:Bool)=>.br x1 (.br (!n.C4) (.br (!n.B7) (.lf ({Frame:=n.Frame,D7:=n.D7,C4:=true,B6:=n.Frame,B7:=n.B7,E0:=n.E0},[])) (.lf (n,[]))) (.lf (n,[]))) (.lf (n,[]))) (.br (v==0) (.lf ({Frame:=n.Frame,D7:=n.D7,C4:=n.C4,B6:=n.B6,B7:=false,E0:=0},[])) (.lf (n,[]))))) (.lf (n,[]))))
def Qc5 n m port v at0:=(Qhg n m port v at0).m
abbrev Z3q n m port v at0:=(Qhg n m port v at0).p
def xz:Q0b:=mT 129 [] true [.agg Q0u.sig,.one (.ints .u32),.one (.int .i64),.one (.int .u32),.one (.int .u64)] [] (λa r=>Qhg (Q0u.of (aC a 0)) (argL .u32 a 1) (argI a 2) (argI a 3) (argI a 4)) (λX=>.tup [.agg (Q0u.cells (X.1)),.sl 4 (.recs .apiOutput (X.2)) true]) (λX=>[])
theorem Zn7:Q04 pG xz:=oT (.cons Zh1 (.cons Qlp (.nil))) Tryz.func129 Tryz.call129 [.sl (.recs .apiOutput) true] [] 2
def Qbc(m:List Int)(frame:Int)(s:List UInt8)(z:(Int)×(List Int)):Nat:=(32-z.1).toNat
def Q3i(m:List Int)(frame:Int)(s:List UInt8):Tree ((List Int)×Bool):=
.an (Q08 m) (.lv (Q03 m) λ(x0:List Int)=>.lv (Q5o m frame) λ(x1:Bool)=>.br (!x1) (.lf (x0,false)) (.br ((s.length:Int) !=(128:Int)) (.lf (x0,false)) (.lp inferInstance (Qbc m frame s (0,x0)+1) ((rE (s:List UInt8)/\True/\rE ((wrap i64 (frame*32)):Int)/\rE (0:Int)/\True)/\rE (x0:List Int)/\True) (0,x0) λ(v0:Int×List Int)=>.br (decide (v0.1<32)) (.cn (decide (0<=wrap i64 (4*v0.1)/\wrap i64 (4*v0.1)<=wrap i64 (wrap i64 (4*v0.1)+4)/\wrap i64 (wrap i64 (4*v0.1)+4)<=(s.length:Int))) (let E1:=cW (dB (wrap i64 (wrap i64 (4*v0.1)+4))-dB (wrap i64 (4*v0.1))) (cX (dB (wrap i64 (4*v0.1))) s);.cn (decide ((0:Int)<=(0:Int)/\0<(↑(dG E1):Int))) (.cn (decide ((0:Int)<=(1:Int)/\1<(↑(dG E1):Int))) (.cn (decide ((0:Int)<=(2:Int)/\2<(↑(dG E1):Int))) (.cn (decide ((0:Int)<=(3:Int)/\3<(↑(dG E1):Int))) (.cn (bT 1 1&&bJ 0 1&&decide (0<=wrap i64 (wrap i64 (frame*32)+v0.1)/\wrap i64 (wrap i64 (frame*32)+v0.1)<(v0.2.length:Int))) (.nx ((rE (s:List UInt8)/\True/\rE ((wrap i64 (frame*32)):Int)/\rE ((wrap i64 (v0.1+1)):Int)/\True)/\rE ((dC v0.2 (dB (wrap i64 (wrap i64 (frame*32)+v0.1))) (ior u32 (ior u32 (ior u32 (wrap u32 (↑(eQ (aK (cW (dB (wrap i64 (wrap i64 (4*v0.1)+4))-dB (wrap i64 (4*v0.1))) (cX (dB (wrap i64 (4*v0.1))) s)) (dB 0) (0:UInt8))):Int)) (ishl u32 (wrap u32 (↑(eQ (aK (cW (dB (wrap i64 (wrap i64 (4*v0.1)+4))-dB (wrap i64 (4*v0.1))) (cX (dB (wrap i64 (4*v0.1))) s)) (dB 1) (0:UInt8))):Int)) 8)) (ishl u32 (wrap u32 (↑(eQ (aK (cW (dB (wrap i64 (wrap i64 (4*v0.1)+4))-dB (wrap i64 (4*v0.1))) (cX (dB (wrap i64 (4*v0.1))) s)) (dB 2) (0:UInt8))):Int)) 16)) (ishl u32 (wrap u32 (↑(eQ (aK (cW (dB (wrap i64 (wrap i64 (4*v0.1)+4))-dB (wrap i64 (4*v0.1))) (cX (dB (wrap i64 (4*v0.1))) s)) (dB 3) (0:UInt8))):Int)) 24))):List Int)/\True) (Sum.inl (wrap i64 (v0.1+1),dC v0.2 (dB (wrap i64 (wrap i64 (frame*32)+v0.1))) (ior u32 (ior u32 (ior u32 (wrap u32 (↑(eQ (aK E1 (dB 0) (0:UInt8))):Int)) (ishl u32 (wrap u32 (↑(eQ (aK E1 (dB 1) (0:UInt8))):Int)) 8)) (ishl u32 (wrap u32 (↑(eQ (aK E1 (dB 2) (0:UInt8))):Int)) 16)) (ishl u32 (wrap u32 (↑(eQ (aK E1 (dB 3) (0:UInt8))):Int)) 24))))))))))) (.lf (Sum.inr (v0.2,true))))))
def Q0r m frame s:=(Q3i m frame s).m
abbrev Q6x m frame s:=(Q3i m frame s).p
def Qva:LInv:={
 α:=(Int)×(List Int)
 F:=λst a=>([(2,(lk st 2)),(8,.all 0),(9,(lk st 9)),(26,.int i64 a.1)],[⟨false,23,1,.ints u32 a.2⟩])
 a0:=λst=>((lk st 26).toInt,(Q5u st.rows (rN st 8)))
 ex0:=λst=>[]++[(rX st 8 0)]}
def Qri:List (Nat×LInv):=[(6,Qva)]
def Qz0:Q0b:=mT 21 [] true [.one (.ints .u32),.one (.int .i64),.one (.str)] [] (λa r=>Q3i (argL .u32 a 0) (argI a 1) (argS a 2)) (λX=>.tup [.all 0,.bool (X.2)]) (λX=>[⟨false,23,1,.ints .u32 (X.1)⟩])
theorem Qar:Q04 pG Qz0:=oT (.cons Q15 (.cons Ql2 (.nil))) Tryz.func21 Tryz.call21 [.row 23 1 (.ints .u32)] Qri 3
def strings_Repeat(s:List UInt8)(count:Int):(List UInt8):=
Lib.repeatL s count.toNat
def Qcp(s:List UInt8)(count:Int):Prop:=
0<=count/\count<=9223372036854775807/\s.length*count.toNat<=140737488355328
def Qhe(s:List UInt8)(count:Int):List D:=[.str s,.int .i64 count]
def Qhu(s:List UInt8)(count:Int):List Row:=[]
def Qcw(X:List UInt8):D:=.str X
def Qd5(X:List UInt8):List Row:=[]
def Qjp:List PT:=[.one (.str),.one (.int .i64)]
def Qj1:List RT:=[]
def Qt3(args:List D)(rows:List Row):(List UInt8):=strings_Repeat (argS args 0) (argI args 1)
def Qtp(args:List D)(rows:List Row):Prop:=Qcp (argS args 0) (argI args 1)
def Qys:Q0b:=mkP 194 [] true Qjp Qj1 Qtp Qt3 Qcw Qd5
theorem Qqb(s:List UInt8)(count:Int)(hw:Qcp s count):Q4g pG 194 (Qhe s count) (Qhu s count) (Qcw (strings_Repeat s count)) (Qd5 (strings_Repeat s count)):=by
 exact zd Tryz.strings_Repeat hw.1 hw.2.1 hw.2.2
set_option maxRecDepth 100000 in
theorem Qra(args:List D)(rows:List Row):Qp4 Qjp args 0=Qhe (argS args 0) (argI args 1):=by kernel_rfl
set_option maxRecDepth 100000 in
theorem Qqe(args:List D)(rows:List Row):Qbi Qj1 rows 0=Qhu (argS args 0) (argI args 1):=by kernel_rfl
set_option maxRecDepth 100000 in
theorem Qwe(X:List UInt8):(ffB (Qcw X)&&ffBR (Qd5 X))=true:=by kernel_rfl
theorem Qvv:Q04 pG Qys:=Z20 Tryz.call194 (λargs rows hp=>by rw[Qra args rows,Qqe args rows];exact Qqb (argS args 0) (argI args 1) hp) (λ_ X=>Qwe X)
def Q3h(b:Q06)(m:List Int)(port v:Int):Tree (Q06×(List Int)):=
let T1:Tree ((Q06×(List Int))):=.an (Q08 m) (.lv (Q03 m) λ(x0:List Int)=>.lf (b,x0));.br (decide (v>=32)) T1 (.cn (decide (0<=v)) (.br (port==10) (.lv (Q1 m) λ(x1:Int)=>.br (decide (wrap i64 v<x1)) (.br (iand u32 b.C0 (ishl u32 1 v)==0) (.an (Qcp [(0:UInt8)] 128) (.lv (strings_Repeat [(0:UInt8)] 128) λ(x2:List UInt8)=>.an (Q6x m (wrap i64 v) x2) (.lv (Q0r m (wrap i64 v) x2) λ(x3:List Int×Bool)=>.lf ({C6:=b.C6,C0:=ior u32 b.C0 (ishl u32 1 v)},x3.1)))) T1) T1) (.br (port==11) (.an (Q08 m) (.lv (Q03 m) λ(x6:List Int)=>.lf ({C6:=b.C6,C0:=Q7 u32 b.C0 (ishl u32 1 v)},x6))) T1)))
def Q3m b m port v:=(Q3h b m port v).m
abbrev Qo2 b m port v:=(Q3h b m port v).p
def Zb3:Q0b:=mT 130 [] true [.agg Q06.sig,.one (.ints .u32),.one (.int .i64),.one (.int .u32)] [] (λa r=>Q3h (Q06.of (aC a 0)) (argL .u32 a 1) (argI a 2) (argI a 3)) (λX=>.tup [.agg (Q06.cells (X.1)),.all 0]) (λX=>[⟨false,23,1,.ints .u32 (X.2)⟩])
theorem Z4g:Q04 pG Zb3:=oT (.cons Q15 (.cons Q3 (.cons Qar (.cons Qvv (.nil))))) Tryz.func130 Tryz.call130 [.row 23 1 (.ints .u32)] [] 2
def Q3k(m:Q00)(port v at0:Int):Tree (Q00×(List Q0a)):=
.br (port==0) (.lf (m,[{C3:=1,At:=at0,B8:=0,C5:=[(λ(n:Int)=>UInt8.ofNat n.toNat) (wrap u8 v)]}])) (.br (port==3) (.lv (Qhj m.B2 v) λ(x0:Q0n)=>.lf ({A4:=m.A4,Mem:=m.Mem,A3:=m.A3,B2:=x0,B0:=m.B0,C2:=m.C2,A1:=m.A1,A2:=m.A2,A6:=m.A6,A9:=m.A9},[])) (let T1:Tree ((Q00×(List Q0a))):=.an (Qx0 m.B0 m.Mem port v at0) (.lv (Q8c m.B0 m.Mem port v at0) λ(x1:Q0d×List Q0a)=>.lf ({A4:=m.A4,Mem:=m.Mem,A3:=m.A3,B2:=m.B2,B0:=x1.1,C2:=m.C2,A1:=m.A1,A2:=m.A2,A6:=m.A6,A9:=m.A9},x1.2));.br (port==4) T1 (.br (port==5) T1 (.br (port==6) T1 (let T2:Tree ((Q00×(List Q0a))):=.an (Z3q m.C2 m.Mem port v at0) (.lv (Qc5 m.C2 m.Mem port v at0) λ(x4:Q0u×List Q0a)=>.lf ({A4:=m.A4,Mem:=m.Mem,A3:=m.A3,B2:=m.B2,B0:=m.B0,C2:=x4.1,A1:=m.A1,A2:=m.A2,A6:=m.A6,A9:=m.A9},x4.2));.br (port==7) T2 (.br (port==8) T2 (.br (port==9) T2 (let T3:Tree ((Q00×(List Q0a))):=.an (Qo2 m.A1 m.Mem port v) (.lv (Q3m m.A1 m.Mem port v) λ(x7:Q06×List Int)=>.lf ({A4:=m.A4,Mem:=x7.2,A3:=m.A3,B2:=m.B2,B0:=m.B0,C2:=m.C2,A1:=x7.1,A2:=m.A2,A6:=m.A6,A9:=m.A9},[]));.br (port==10) T3 (.br (port==11) T3 (.lf (m,[])))))))))))
def Q0v m port v at0:=(Q3k m port v at0).m
abbrev Qf1 m port v at0:=(Q3k m port v at0).p
def Qro:Q0b:=Q0b.fz<|mkP 65 [] false [.agg Q00.sig,.one (.int .i64),.one (.int .u32),.one (.int .u64)] [] (λa r=>Qf1 (Q00.of (aC a 0)) (argI a 1) (argI a 2) (argI a 3)) (λa r=>Q0v (Q00.of (aC a 0)) (argI a 1) (argI a 2) (argI a 3)) (λX=>.tup [.agg (Q00.cells (X.1)),.sl 4 (.recs .apiOutput (X.2)) true]) (λX=>[])
theorem Qq9:Q04 pG Qro:=fz_ok<|Q0o drawn Q0m (.cons Zdd (.cons Zio (.cons Zn7 (.cons Z4g (.nil))))) Tryz.func65 Tryz.call65 (λa r=>Q3k (Q00.of (aC a 0)) (argI a 1) (argI a 2) (argI a 3)) [.sl (.ints .u32) false,.sl (.recs .apiOutput) true] [] 2 (λ_ _ _=>by kernel_rfl) (λ_ _=>rfl) (λ_ _ h=>h) (λh=>by cases h)
def Q5p(m:Q00)(clock:Int):Tree (Q00×(List Q0a)):=
.an (Q08 m.Mem) (.lv (Q03 m.Mem) λ(x0:List Int)=>let E1:=({A4:=m.A4,Mem:=x0,A3:=m.A3,B2:=m.B2,B0:=m.B0,C2:=m.C2,A1:=m.A1,A2:=m.A2,A6:=m.A6,A9:=m.A9}:Q00);.an (Qn7 E1) (.lv (Q14 E1) λ(x1:Bool)=>.br (!x1) (.lf (E1,[])) (.an (Ql5 E1) (.lv (Q1e E1) λ(x2:Q00)=>.an (Qx3 x2.A4 x2.Mem) (.lv (Q2s x2.A4 x2.Mem) λ(x3:Q02×List Int×Q1f)=>let E2:=({A4:=x3.1,Mem:=x3.2.1,A3:=x2.A3,B2:=x2.B2,B0:=x2.B0,C2:=x2.C2,A1:=x2.A1,A2:=x2.A2,A6:=x2.A6,A9:=x2.A9}:Q00);.br (x3.2.2.C3==1) (.an (Qgd E2 x3.2.2.C8 clock) (.lv (Q0w E2 x3.2.2.C8 clock) λ(x4:Q00×Int)=>.br (x3.2.2.D8 !=0) (.cn (bJ 0 1&&decide (0<=x3.2.2.D8/\x3.2.2.D8<(↑16:Int))) (.lf ({A4:={X:=A16.of 0 (dC (A16.l x4.1.A4.X) x3.2.2.D8.toNat x4.2),Pc:=x4.1.A4.Pc,B3:=x4.1.A4.B3},Mem:=x4.1.Mem,A3:=x4.1.A3,B2:=x4.1.B2,B0:=x4.1.B0,C2:=x4.1.C2,A1:=x4.1.A1,A2:=wrap u64 (x4.1.A2+1),A6:=x4.1.A6,A9:=x4.1.A9},[]))) (.lf ({A4:=x4.1.A4,Mem:=x4.1.Mem,A3:=x4.1.A3,B2:=x4.1.B2,B0:=x4.1.B0,C2:=x4.1.C2,A1:=x4.1.A1,A2:=wrap u64 (x4.1.A2+1),A6:=x4.1.A6,A9:=x4.1.A9},[])))) (.br (x3.2.2.C3==2) (.an (Qf1 E2 x3.2.2.C8 x3.2.2.Value m.A2) (.lv (Q0v E2 x3.2.2.C8 x3.2.2.Value m.A2) λ(x5:Q00×List Q0a)=>.lf ({A4:=x5.1.A4,Mem:=x5.1.Mem,A3:=x5.1.A3,B2:=x5.1.B2,B0:=x5.1.B0,C2:=x5.1.C2,A1:=x5.1.A1,A2:=wrap u64 (x5.1.A2+1),A6:=x5.1.A6,A9:=x5.1.A9},x5.2))) (.br (x3.2.2.C3==3) (.lf ({A4:=x3.1,Mem:=x3.2.1,A3:=x2.A3,B2:=x2.B2,B0:=x2.B0,C2:=x2.C2,A1:=x2.A1,A2:=wrap u64 (x2.A2+1),A6:=true,A9:=x2.A9},[])) (.br (x3.2.2.C3==4) (.lf ({A4:=x3.1,Mem:=x3.2.1,A3:=x2.A3,B2:=x2.B2,B0:=x2.B0,C2:=x2.C2,A1:=x2.A1,A2:=wrap u64 (x2.A2+1),A6:=x2.A6,A9:=true},[])) (.lf ({A4:=x3.1,Mem:=x3.2.1,A3:=x2.A3,B2:=x2.B2,B0:=x2.B0,C2:=x2.C2,A1:=x2.A1,A2:=wrap u64 (x2.A2+1),A6:=x2.A6,A9:=x2.A9},[]))))))))))
def Q0z m clock:=(Q5p m clock).m
abbrev Q46 m clock:=(Q5p m clock).p
def Z5e:Q0b:=Q0b.fz<|mkP 22 [] false [.agg Q00.sig,.one (.int .u32)] [] (λa r=>Q46 (Q00.of (aC a 0)) (argI a 1)) (λa r=>Q0z (Q00.of (aC a 0)) (argI a 1)) (λX=>.tup [.agg (Q00.cells (X.1)),.sl 4 (.recs .apiOutput (X.2)) false]) (λX=>[])
theorem Qom:Q04 pG Z5e:=fz_ok<|Q0o drawn Q0m (.cons Q15 (.cons Z2c (.cons Qyz (.cons Zhz (.cons Qrw (.cons Qq9 (.nil))))))) Tryz.func22 Tryz.call22 (λa r=>Q5p (Q00.of (aC a 0)) (argI a 1)) [.sl (.ints .u32) false,.sl (.recs .apiOutput) false] [] 2 (λ_ _ _=>by kernel_rfl) (λ_ _=>rfl) (λ_ _ h=>h) (λh=>by cases h)
end
noncomputable section
def Z2p(op:Int):Tree Int:=
let T1:Tree (Int):=.br (op==49) (.lf 3) (let T2:Tree (Int):=.br (op==24) (.lf 6) (.br (op==48) (.lf 7) (.br (op==58) (.lf 8) (.br (op==59) (.lf 8) (.br (op==60) (.lf 9) (.br (op==61) (.lf 9) (.br (op==56) (.lf 1) (.br (op==57) (.lf 1) (.br (decide (op>=62)) (.br (decide (op<=64)) (.lf 1) (.lf 0)) (.lf 0)))))))));.br (decide (op>=17)) (.br (decide (op<=19)) (.lf 4) (.br (decide (op>=20)) (.br (decide (op<=22)) (.lf 5) T2) T2)) (.br (decide (op>=20)) (.br (decide (op<=22)) (.lf 5) T2) T2));let T3:Tree (Int):=.br (op==16) (.lf 3) (.br (op==23) (.lf 3) (.br (decide (op>=32)) (.br (decide (op<=36)) (.lf 3) (.br (decide (op>=40)) (.br (decide (op<=45)) (.lf 3) T1) T1)) (.br (decide (op>=40)) (.br (decide (op<=45)) (.lf 3) T1) T1)));.br (decide (op>=1)) (.br (decide (op<=13)) (.lf 2) T3) T3
def Q2u op:=(Z2p op).m
def Zgy:Q0b:=mS 154 [] true [.one (.int .i64)] [] (λa r=>Z2p (argI a 0)) (λX=>.int .i64 X) (λX=>[])
theorem Qf6:Q04 pG Zgy:=oS (.nil) Tryz.func154 Tryz.call154 [] [] 2
def Qdd(r:Int):Tree Bool:=
.br (decide (r>=0)) (.lf (decide (r<=15))) (.lf false)
def Q8a r:=(Qdd r).m
def Z3:Q0b:=mS 236 [] true [.one (.int .i64)] [] (λa r=>Qdd (argI a 0)) (λX=>.bool X) (λX=>[])
theorem Qyc:Q04 pG Z3:=oS (.nil) Tryz.func236 Tryz.call236 [] [] 2
def Qmg(f:Int):Tree (Int×Int):=
.br (f==3) (.lf ((-32768),32767)) (.br (f==7) (.lf ((-32768),32767)) (.br (f==4) (.lf (0,65535)) (.br (f==6) (.lf (0,65535)) (.br (f==5) (.lf (0,31)) (.br (f==8) (.lf (0,7)) (.br (f==9) (.lf (0,11)) (.lf (0,0))))))))
def Qlu f:=(Qmg f).m
def Z9t:Q0b:=mS 155 [] true [.one (.int .i64)] [] (λa r=>Qmg (argI a 0)) (λX=>.tup [.int .i64 (X.1),.int .i64 (X.2)]) (λX=>[])
theorem Qql:Q04 pG Z9t:=oS (.nil) Tryz.func155 Tryz.call155 [] [] 2
def Qf3(i:Q0g):Tree Bool:=
.lv (Q2u i.Op) λ(x0:Int)=>.br (x0==0) (.lf false) (.lv (Q8a i.A) λ(x1:Bool)=>.br (!x1) (.lf false) (.lv (Q8a i.B) λ(x2:Bool)=>.br (!x2) (.lf false) (.lv (Q8a i.C) λ(x3:Bool)=>.br (!x3) (.lf false) (.lv (Qlu x0) λ(x4:Int×Int)=>.br (decide (wrap i64 i.Imm<x4.1)) (.lf false) (.br (decide (wrap i64 i.Imm>x4.2)) (.lf false) (let T1:Tree (Bool):=.br (x0==1) (.br (i.A !=0) (.lf false) (.br (i.B==0) (.lf true) (.br (decide (x0>=2)) (.lf (decide (x0<=5))) (.lf false)))) (.br (i.B==0) (.lf true) (.br (decide (x0>=2)) (.lf (decide (x0<=5))) (.lf false)));.br (x0 !=2) (.br (i.C !=0) (.lf false) T1) T1))))))
def Q90 i:=(Qf3 i).m
def Zfp:Q0b:=mS 153 [] true [.agg Q0g.sig] [] (λa r=>Qf3 (Q0g.of (aC a 0))) (λX=>.bool X) (λX=>[])
theorem Qta:Q04 pG Zfp:=oS (.cons Qf6 (.cons Qyc (.cons Qql (.nil)))) Tryz.func153 Tryz.call153 [] [] 2
def Qgh(i:Q0g):Tree (Int×Bool):=
.lv (Q90 i) λ(x0:Bool)=>.br (!x0) (.lf (0,false)) (.lf (ior u32 (ior u32 (ior u32 (ior u32 (ishl u32 (wrap u32 i.Op) 24) (ishl u32 (wrap u32 i.A) 20)) (ishl u32 (wrap u32 i.B) 16)) (iand u32 (wrap u32 i.Imm) 65535)) (wrap u32 i.C),true))
def Q1q i:=(Qgh i).m
def Zbg:Q0b:=mS 96 [] true [.agg Q0g.sig] [] (λa r=>Qgh (Q0g.of (aC a 0))) (λX=>.tup [.int .u32 (X.1),.bool (X.2)]) (λX=>[])
theorem Qkg:Q04 pG Zbg:=oS (.cons Qta (.nil)) Tryz.func96 Tryz.call96 [] [] 2
def Z6y:Tree (List Int):=
.lf ([1,2,3,4,5,6,7,8,9,10,11,12,13,16,16,17,18,19,20,21,22,23,24,24,32,32,33,34,35,35,36,40,41,42,43,44,45,48,49,56,57,58,59,60,60,61,61,62,63,64])
def Z8o:(List Int):=(Z6y).m
def Zm5:Q0b:=mS 156 [] true [] [] (λa r=>Z6y) (λX=>.sl 1 (.ints .i64 X) true) (λX=>[])
theorem Zhr:Q04 pG Zm5:=oS (.nil) Tryz.func156 Tryz.call156 [.sl (.ints .i64) true] [] 2
def Z16(seed:Int):Tree (Int×Int):=
let E1:=wrap u64 (ixor u64 (wrap u64 (seed+11400714819323198485)) (ishr u64 (wrap u64 (seed+11400714819323198485)) 30)*13787848793156543929);let E2:=wrap u64 (ixor u64 E1 (ishr u64 E1 27)*10723151780598845931);.lf (ixor u64 E2 (ishr u64 E2 31),wrap u64 (seed+11400714819323198485))
def Zdn seed:=(Z16 seed).m
def Zh3:Q0b:=mS 116 [] true [.one (.int .u64)] [] (λa r=>Z16 (argI a 0)) (λX=>.tup [.int .u64 (X.1),.int .u64 (X.2)]) (λX=>[])
theorem Zdv:Q04 pG Zh3:=oS (.nil) Tryz.func116 Tryz.call116 [] [] 2
def Z78(n k:Int):Tree Int:=
.lv (Zdn (ixor u64 (wrap u64 n) (wrap u64 (wrap u64 k*11400714819323198485)))) λ(x0:Int×Int)=>.lf (wrap i64 (ishr u64 x0.1 1))
def Qzv n k:=(Z78 n k).m
def Zna:Q0b:=mS 58 [] true [.one (.int .i64),.one (.int .i64)] [] (λa r=>Z78 (argI a 0) (argI a 1)) (λX=>.int .i64 X) (λX=>[])
theorem Qrx:Q04 pG Zna:=oS (.cons Zdv (.nil)) Tryz.func58 Tryz.call58 [] [] 2
def Qni(n k:Int):Tree Int:=
.cn (decide (k≠0)) (.br (decide (dA n k<0)) (.lf (wrap i64 (dA n k+k))) (.lf (dA n k)))
def Q81 n k:=(Qni n k).m
abbrev Q4v n k:=(Qni n k).p
def Zd5:Q0b:=mT 15 [] true [.one (.int .i64),.one (.int .i64)] [] (λa r=>Qni (argI a 0) (argI a 1)) (λX=>.int .i64 X) (λX=>[])
theorem Qm3:Q04 pG Zd5:=oT (.nil) Tryz.func15 Tryz.call15 [] [] 2
def Qls(n:Int):Tree Q0g:=
.lv Z8o λ(x0:List Int)=>.lv (Qzv n 1) λ(x1:Int)=>.an (Q4v x1 (x0.length:Int)) (.lv (Q81 x1 (x0.length:Int)) λ(x2:Int)=>.cn (bT 1 1&&bJ 0 1&&decide (0<=x2/\x2<(x0.length:Int))) (.an (Q4v (ishr i64 x1 8) 6) (.lv (Q81 (ishr i64 x1 8) 6) λ(x3:Int)=>.an (Q4v (ishr i64 x1 12) 6) (.lv (Q81 (ishr i64 x1 12) 6) λ(x4:Int)=>.an (Q4v (ishr i64 x1 16) 6) (.lv (Q81 (ishr i64 x1 16) 6) λ(x5:Int)=>.an (Q4v (ishr i64 x1 20) 24) (.lv (Q81 (ishr i64 x1 20) 24) λ(x6:Int)=>.br (decide (x0.getD x2.toNat (0:Int)<=(13:Int))) (.lf ({Op:=x0.getD x2.toNat 0,A:=x3,B:=x4,C:=x5,Imm:=0})) (let E4:=({Op:=x0.getD x2.toNat 0,A:=x3,B:=x4,C:=0,Imm:=wrap i32 (wrap i64 (wrap i64 (8*x6)-32))}:Q0g);let T1:Tree (Q0g):=.br (x0.getD x2.toNat (0:Int)==(49:Int)) (.lf (E4)) (.br (x0.getD x2.toNat (0:Int)==(24:Int)) (.lf ({Op:=x0.getD x2.toNat 0,A:=x3,B:=0,C:=0,Imm:=wrap i32 (wrap i64 (x6*iand i64 (ishr i64 x1 40) 1))})) (let T2:Tree (Q0g):=let E6:=({Op:=x0.getD x2.toNat 0,A:=x3,B:=0,C:=0,Imm:=wrap i32 (dA x6 8)}:Q0g);.br (x0.getD x2.toNat (0:Int)==(58:Int)) (.lf (E6)) (.br (x0.getD x2.toNat (0:Int)==(59:Int)) (.lf (E6)) (let E5:=({Op:=x0.getD x2.toNat 0,A:=x3,B:=0,C:=0,Imm:=wrap i32 (dA x6 12)}:Q0g);.br (x0.getD x2.toNat (0:Int)==(60:Int)) (.lf (E5)) (.br (x0.getD x2.toNat (0:Int)==(61:Int)) (.lf (E5)) (.lf ({Op:=x0.getD x2.toNat 0,A:=0,B:=0,C:=0,Imm:=0})))));.br (decide (x0.getD x2.toNat (0:Int)>=(17:Int))) (.br (decide (x0.getD x2.toNat (0:Int)<=(22:Int))) (.lf ({Op:=x0.getD x2.toNat 0,A:=x3,B:=x4,C:=0,Imm:=wrap i32 x6})) T2) T2));let T3:Tree (Q0g):=.br (x0.getD x2.toNat (0:Int)==(16:Int)) (.lf (E4)) (.br (x0.getD x2.toNat (0:Int)==(23:Int)) (.lf (E4)) (.br (decide (x0.getD x2.toNat (0:Int)>=(32:Int))) (.br (decide (x0.getD x2.toNat (0:Int)<=(36:Int))) (.lf (E4)) T1) T1));.br (decide (x0.getD x2.toNat (0:Int)>=(40:Int))) (.br (decide (x0.getD x2.toNat (0:Int)<=(48:Int))) (.br (x0.getD x2.toNat (0:Int)==(48:Int)) (.lf ({Op:=x0.getD x2.toNat 0,A:=x3,B:=0,C:=0,Imm:=wrap i32 (wrap i64 (x6-12))})) (.lf ({Op:=x0.getD x2.toNat 0,A:=x3,B:=x4,C:=0,Imm:=wrap i32 (wrap i64 (x6-12))}))) T3) T3)))))))
def Zfy n:=(Qls n).m
abbrev Qgq n:=(Qls n).p
def Zh8:Q0b:=mT 98 [] true [.one (.int .i64)] [] (λa r=>Qls (argI a 0)) (λX=>.agg (Q0g.cells X)) (λX=>[])
theorem Zcp:Q04 pG Zh8:=oT (.cons Zhr (.cons Qrx (.cons Qm3 (.nil)))) Tryz.func98 Tryz.call98 [] [] 2
def Qr(l:List Int)(z:(Int)×(List Int)):Prop:=0<=z.1/\z.1<=l.length/\(z.2.length:Int)=z.1
def Qdn(l:List Int)(z:(Int)×(List Int)):Nat:=(l.length-z.1).toNat
def Qih(l:List Int):Tree (List Int):=
.lp inferInstance (Qdn l (0,[])+1) ((((Els.Nil (Els.ints i64 l)\/rE (1:Nat))/\rE (l:List Int))/\True/\rE (0:Int)/\True)/\rE ([]:List Int)/\True) (0,[]) λ(v0:Int×List Int)=>.br (decide (v0.1<(l.length:Int))) (let E1:=bT 1 1&&bJ 0 1&&decide (0<=v0.1/\v0.1<(l.length:Int));.cn E1 (let E2:=decide (4*(v0.2.length+1)<=140737488355328);.br (dA (l.getD v0.1.toNat 0) (17:Int)==(0:Int)) (.cn E1 (.cn E2 (.nx ((((Els.Nil (Els.ints i64 l)\/rE (1:Nat))/\rE (l:List Int))/\True/\rE ((wrap i64 (v0.1+1)):Int)/\True)/\rE ((v0.2++[wrap u32 (iand i64 (l.getD v0.1.toNat 0) 4294967295)]):List Int)/\True) (Sum.inl (wrap i64 (v0.1+1),v0.2++[wrap u32 (iand i64 (l.getD v0.1.toNat 0) 4294967295)]))))) (.cn E1 (.an (Qgq (l.getD v0.1.toNat 0)) (.lv (Zfy (l.getD v0.1.toNat 0)) λ(x0:Q0g)=>.lv (Q1q x0) λ(x1:Int×Bool)=>.cn E2 (.nx ((((Els.Nil (Els.ints i64 l)\/rE (1:Nat))/\rE (l:List Int))/\True/\rE ((wrap i64 (v0.1+1)):Int)/\True)/\rE ((v0.2++[x1.1]):List Int)/\True) (Sum.inl (wrap i64 (v0.1+1),v0.2++[x1.1])))))))) (.lf (Sum.inr v0.2))
def Qnp l:=(Qih l).m
abbrev Qmf l:=(Qih l).p
def Zdh:LInv:={
 α:=(Int)×(List Int)
 F:=λst a=>([(0,(lk st 0)),(3,.all 0),(4,.int i64 a.1)],[⟨false,23,1,.ints u32 a.2⟩])
 a0:=λst=>((lk st 4).toInt,(Q5u st.rows (rN st 3)))
 ex0:=λst=>[]++[(rX st 3 0)]}
def Z4y:List (Nat×LInv):=[(3,Zdh)]
def Ziz:Q0b:=mT 50 [] true [.one (.ints .i64)] [] (λa r=>Qih (argL .i64 a 0)) (λX=>.all 0) (λX=>[⟨false,23,1,.ints .u32 X⟩])
theorem Zeg:Q04 pG Ziz:=oT (.cons Qkg (.cons Zcp (.nil))) Tryz.func50 Tryz.call50 [.row 23 1 (.ints .u32)] Z4y 3
def Qjt(pc:Int):Tree Q02:=
.lf ({X:={a0:=0,a1:=0,a2:=0,a3:=0,a4:=0,a5:=0,a6:=0,a7:=0,a8:=0,a9:=0,a10:=0,a11:=0,a12:=0,a13:=0,a14:=0,a15:=0},Pc:=pc,B3:={a0:=1,a1:=0,a2:=0,a3:=0,a4:=0,a5:=0,a6:=0,a7:=0}})
def Qpd pc:=(Qjt pc).m
def Zdw:Q0b:=mS 99 [] true [.one (.int .u32)] [] (λa r=>Qjt (argI a 0)) (λX=>.agg (Q02.cells X)) (λX=>[])
theorem Z97:Q04 pG Zdw:=oS (.nil) Tryz.func99 Tryz.call99 [] [] 2
def Ql6(pages:Int):Tree (List Int):=
.br (decide (pages<1)) (.lf ([])) (.br (decide (pages>32)) (.lf ([])) (.cn (bJ 0 1&&bT 1 1&&List.all [D.int u32 0] D.plain&&decide (0<=wrap i64 (pages*32)/\wrap i64 (pages*32)<=wrap i64 (pages*32)/\wrap i64 (pages*32)<=9223372036854775807/\(↑4:Int)*wrap i64 (pages*32)<=140737488355328)) (.lf (List.replicate (dB (wrap i64 (pages*32))) 0))))
def Qtv pages:=(Ql6 pages).m
abbrev Qjb pages:=(Ql6 pages).p
def Zlz:Q0b:=mT 100 [] true [.one (.int .i64)] [] (λa r=>Ql6 (argI a 0)) (λX=>.all 0) (λX=>[⟨false,23,1,.ints .u32 X⟩])
theorem Zgx:Q04 pG Zlz:=oT (.nil) Tryz.func100 Tryz.call100 [.row 23 1 (.ints .u32)] [] 2
def Qck(pages blocks:Int)(image:List Int):Tree (Q00×Bool):=
let T1:Tree ((Q00×Bool)):=.lf ({A4:={X:={a0:=0,a1:=0,a2:=0,a3:=0,a4:=0,a5:=0,a6:=0,a7:=0,a8:=0,a9:=0,a10:=0,a11:=0,a12:=0,a13:=0,a14:=0,a15:=0},Pc:=0,B3:={a0:=0,a1:=0,a2:=0,a3:=0,a4:=0,a5:=0,a6:=0,a7:=0}},Mem:=[],A3:={D0:=[]},B2:={D4:=false,C7:=0,D2:=false},B0:={Blocks:=0,B8:=0,Frame:=0,B9:=0,D5:=0,B5:=0,B1:=0,C1:=[]},C2:={Frame:=0,D7:=0,C4:=false,B6:=0,B7:=false,E0:=0},A1:={C6:=0,C0:=0},A2:=0,A6:=false,A9:=false},false);.br (decide (pages<1)) T1 (.br (decide (pages>32)) T1 (.br (decide (blocks<0)) T1 (.br (decide (blocks>64)) T1 (.br (decide ((image.length:Int)>wrap i64 (pages*32))) T1 (.lv (Qpd 0) λ(x0:Q02)=>.an (Qjb pages) (.lv (Qtv pages) λ(x1:List Int)=>.lf ({A4:=x0,Mem:=cW (Min.min (image.length) (x1.length)) image++cX (Min.min (image.length) (x1.length)) x1,A3:={D0:=[]},B2:={D4:=false,C7:=0,D2:=false},B0:={Blocks:=wrap u32 blocks,B8:=0,Frame:=0,B9:=0,D5:=0,B5:=0,B1:=0,C1:=[]},C2:={Frame:=0,D7:=0,C4:=false,B6:=0,B7:=false,E0:=0},A1:={C6:=0,C0:=0},A2:=0,A6:=false,A9:=false},true)))))))
def Q25 pages blocks image:=(Qck pages blocks image).m
abbrev Qff pages blocks image:=(Qck pages blocks image).p
def Zlg:Q0b:=mT 51 [] true [.one (.int .i64),.one (.int .i64),.one (.ints .u32)] [] (λa r=>Qck (argI a 0) (argI a 1) (argL .u32 a 2)) (λX=>.tup [.agg (Q00.cellsW (X.1) (.all 0)),.bool (X.2)]) (λX=>[⟨false,23,1,.ints .u32 (X.1).Mem⟩])
theorem Zis:Q04 pG Zlg:=oT (.cons Z97 (.cons Zgx (.nil))) Tryz.func51 Tryz.call51 [.row 23 1 (.ints .u32)] [] 2
def Qhc(a b:List Int)(z:(Int)):Prop:=0<=z/\z<=a.length/\a.length=b.length
def Q5h(a b:List Int)(z:(Int)):Nat:=(a.length-z).toNat
def Q8q(a b:List Int):Tree Bool:=
.br ((a.length:Int) !=(b.length:Int)) (.lf false) (.lp inferInstance (Q5h a b 0+1) ((((Els.Nil (Els.ints u32 a)\/rE (1:Nat))/\rE (a:List Int))/\((Els.Nil (Els.ints u32 b)\/rE (1:Nat))/\rE (b:List Int))/\rE (0:Int)/\True)/\True) 0 λ(v0:Int)=>.br (decide (v0<(a.length:Int))) (.cn (bT 1 1&&bJ 0 1&&decide (0<=v0/\v0<(a.length:Int))) (.cn (bT 1 1&&bJ 0 1&&decide (0<=v0/\v0<(b.length:Int))) (.br (a.getD v0.toNat 0 !=b.getD v0.toNat 0) (.lf (Sum.inr false)) (.nx ((((Els.Nil (Els.ints u32 a)\/rE (1:Nat))/\rE (a:List Int))/\((Els.Nil (Els.ints u32 b)\/rE (1:Nat))/\rE (b:List Int))/\rE ((wrap i64 (v0+1)):Int)/\True)/\True) (Sum.inl (wrap i64 (v0+1))))))) (.lf (Sum.inr true)))
def Qf0 a b:=(Q8q a b).m
def Q9e(a b:List Int):Prop:=
a.length<=1000000000000
theorem Qub(a b:List Int)(hw:Q9e a b):(Q8q a b).p:=by
 simp only[Q9e]at hw
 unfold Tree.p Q8q
 repeat'(first|refine w_lp (inv:=Qhc a b) (μ:=Q5h a b) ?_ (cL _) (λ_ _=>?_)|exact trivial|refine w_br (λ_=>?_) (λ_=>?_)|refine w_cn ?_ ?_|refine w_an ?_ ?_|refine w_lv (λ_ _=>?_)|refine w_nx ?_|refine w_lf ?_|refine And.intro ?_ ?_)
 all_goals((try simp only[Qhc,Q5h]at*);exact fin0)
def Qvf:LInv:={
 α:=(Int)
 F:=λst a=>([(0,(lk st 0)),(1,(lk st 1)),(5,.int i64 a)],[])
 a0:=λst=>(lk st 5).toInt
 ex0:=λst=>[]++[]}
def Qr8:List (Nat×LInv):=[(4,Qvf)]
def Qyl:Q0b:=mkP 67 [] true [.one (.ints .u32),.one (.ints .u32)] [] (λa r=>Q9e (argL .u32 a 0) (argL .u32 a 1)) (λa r=>Qf0 (argL .u32 a 0) (argL .u32 a 1)) (λX=>.bool X) (λX=>[])
theorem Qv:Q04 pG Qyl:=Q0o drawn Q0m (.nil) Tryz.func67 Tryz.call67 (λa r=>Q8q (argL .u32 a 0) (argL .u32 a 1)) [] Qr8 3 (hp:=λa r h=>Qub (argL .u32 a 0) (argL .u32 a 1) h)
def Qho(a b:Q00):Tree Bool:=
.br (eqs [D.int u32 a.A4.X.a0,D.int u32 a.A4.X.a1,D.int u32 a.A4.X.a2,D.int u32 a.A4.X.a3,D.int u32 a.A4.X.a4,D.int u32 a.A4.X.a5,D.int u32 a.A4.X.a6,D.int u32 a.A4.X.a7,D.int u32 a.A4.X.a8,D.int u32 a.A4.X.a9,D.int u32 a.A4.X.a10,D.int u32 a.A4.X.a11,D.int u32 a.A4.X.a12,D.int u32 a.A4.X.a13,D.int u32 a.A4.X.a14,D.int u32 a.A4.X.a15,D.int u32 a.A4.Pc,D.int u32 a.A4.B3.a0,D.int u32 a.A4.B3.a1,D.int u32 a.A4.B3.a2,D.int u32 a.A4.B3.a3,D.int u32 a.A4.B3.a4,D.int u32 a.A4.B3.a5,D.int u32 a.A4.B3.a6,D.int u32 a.A4.B3.a7] [D.int u32 b.A4.X.a0,D.int u32 b.A4.X.a1,D.int u32 b.A4.X.a2,D.int u32 b.A4.X.a3,D.int u32 b.A4.X.a4,D.int u32 b.A4.X.a5,D.int u32 b.A4.X.a6,D.int u32 b.A4.X.a7,D.int u32 b.A4.X.a8,D.int u32 b.A4.X.a9,D.int u32 b.A4.X.a10,D.int u32 b.A4.X.a11,D.int u32 b.A4.X.a12,D.int u32 b.A4.X.a13,D.int u32 b.A4.X.a14,D.int u32 b.A4.X.a15,D.int u32 b.A4.Pc,D.int u32 b.A4.B3.a0,D.int u32 b.A4.B3.a1,D.int u32 b.A4.B3.a2,D.int u32 b.A4.B3.a3,D.int u32 b.A4.B3.a4,D.int u32 b.A4.B3.a5,D.int u32 b.A4.B3.a6,D.int u32 b.A4.B3.a7]) (.an (Q9e a.Mem b.Mem) (.lv (Qf0 a.Mem b.Mem) λ(x0:Bool)=>.br x0 (.br (eqs [D.str a.A3.D0] [D.str b.A3.D0]) (.br (eqs [D.bool a.B2.D4,D.int u32 a.B2.C7,D.bool a.B2.D2] [D.bool b.B2.D4,D.int u32 b.B2.C7,D.bool b.B2.D2]) (.br (eqs [D.int u32 a.B0.Blocks,D.int u32 a.B0.B8,D.int u32 a.B0.Frame,D.int i64 a.B0.B9,D.int i64 a.B0.D5,D.int u32 a.B0.B5,D.int u32 a.B0.B1,D.str a.B0.C1] [D.int u32 b.B0.Blocks,D.int u32 b.B0.B8,D.int u32 b.B0.Frame,D.int i64 b.B0.B9,D.int i64 b.B0.D5,D.int u32 b.B0.B5,D.int u32 b.B0.B1,D.str b.B0.C1]) (.br (eqs [D.int u32 a.C2.Frame,D.int u32 a.C2.D7,D.bool a.C2.C4,D.int u32 a.C2.B6,D.bool a.C2.B7,D.int u32 a.C2.E0] [D.int u32 b.C2.Frame,D.int u32 b.C2.D7,D.bool b.C2.C4,D.int u32 b.C2.B6,D.bool b.C2.B7,D.int u32 b.C2.E0]) (.br (eqs [D.int u32 a.A1.C6,D.int u32 a.A1.C0] [D.int u32 b.A1.C6,D.int u32 b.A1.C0]) (.br (a.A2==b.A2) (.br (a.A6==b.A6) (.lf (a.A9==b.A9)) (.lf false)) (.lf false)) (.lf false)) (.lf false)) (.lf false)) (.lf false)) (.lf false)) (.lf false))) (.lf false)
def Zdp a b:=(Qho a b).m
abbrev Qud a b:=(Qho a b).p
def Zi3:Q0b:=mT 24 [] true [.agg Q00.sig,.agg Q00.sig] [] (λa r=>Qho (Q00.of (aC a 0)) (Q00.of (aC a 1))) (λX=>.bool X) (λX=>[])
theorem Ze0:Q04 pG Zi3:=oT (.cons Qv (.nil)) Tryz.func24 Tryz.call24 [] [] 2
