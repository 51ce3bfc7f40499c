import Derived.Test.YthjfindbamdacaaGreatDoorPostPushesFh
import Derived.Test.YthjfindbamdacaaGreatDoorPostPushesYx
open List renaming take->cW,drop->cX,length->dG,set->dC,getD->aK
open Int renaming toNat->dB,tmod->dA
open UInt8 renaming toNat->eQ
open Nat renaming blt->bJ,beq->bT
set_option maxRecDepth 100000
set_option linter.all false
namespace Go.Proofs.YthjfindbamdacaaGreatDoor
open Go Go.GD Go.IntKind
noncomputable section
def Q3v(m:Q00):Tree Bool:=
.an (Q44 m) (.lv (Q0t m) λ(x0:Bool)=>.br x0 (.br (!m.A6) (.an (Qac m) (.lv (Q45 m) λ(x1:Bool)=>.br (!x1) (.lf (decide (m.A4<1152921504606846976))) (.lf false))) (.lf false)) (.lf false))
def Q1g m:=(Q3v m).m
abbrev Qkx m:=(Q3v m).p
def Z0k:Q09:=mT 61 [] true [.agg Q00.sig] [] (λa r=>Q3v (Q00.of (aC a 0))) (λX=>.bool X) (λX=>[])
theorem Qxt:Q04 pG Z0k:=oT (.cons Qd5 (.cons Qm0 (.nil))) Tryz.func61 Tryz.call61 [] [] 2
def Qg1(m:Q00)(z:(Int)):Nat:=(5-z).toNat
def Q6s(m:Q00):Tree Q00:=
let E1:=({B2:=m.B2,Mem:=m.Mem,A2:=m.A2,A9:=m.A9,B1:=m.B1,C3:=m.C3,A0:=m.A0,A4:=m.A4,A3:=false,A6:=m.A6}:Q00);.br (iand u32 m.B2.B3.a0 (2:Int)==(0:Int)) (.lf (E1)) (.an (Qag E1) (.lv (Q56 E1) λ(x0:Int)=>.lp inferInstance (Qg1 m 0+1) ((rZ/\rZ/\rE (x0:Int)/\rE (0:Int)/\True)/\(rE m.B2.X.a0/\rE m.B2.X.a1/\rE m.B2.X.a2/\rE m.B2.X.a3/\rE m.B2.X.a4/\rE m.B2.X.a5/\rE m.B2.X.a6/\rE m.B2.X.a7/\rE m.B2.X.a8/\rE m.B2.X.a9/\rE m.B2.X.a10/\rE m.B2.X.a11/\rE m.B2.X.a12/\rE m.B2.X.a13/\rE m.B2.X.a14/\rE m.B2.X.a15/\rE m.B2.Pc/\rE m.B2.B3.a0/\rE m.B2.B3.a1/\rE m.B2.B3.a2/\rE m.B2.B3.a3/\rE m.B2.B3.a4/\rE m.B2.B3.a5/\rE m.B2.B3.a6/\rE m.B2.B3.a7/\((Els.Nil (Els.ints u32 m.Mem)\/rE (1:Nat))/\rE m.Mem)/\rE m.A2.C9/\rE m.A9.D4/\rE m.A9.C6/\rE m.A9.D3/\rE m.B1.Blocks/\rE m.B1.B8/\rE m.B1.Frame/\rE m.B1.B7/\rE m.B1.D5/\rE m.B1.B4/\rE m.B1.B0/\rE m.B1.C0/\rE m.C3.Frame/\rE m.C3.D8/\rE m.C3.C2/\rE m.C3.B6/\rE m.C3.B5/\rE m.C3.E0/\rE m.A0.C5/\rE m.A0.B9/\rE m.A4/\rE (false:Bool)/\rE m.A6/\True)/\(mE zM True True)/\True) 0 λ(v0:Int)=>.br (decide (v0<5)) (.cn (decide (0<=v0)) (.br (iand u32 x0 (ishl u32 1 v0) !=0) (.lv (Q2x m.B2 (wrap i64 (16+v0)) 0) λ(x1:Q01)=>.lf (Sum.inr {B2:=x1,Mem:=m.Mem,A2:=m.A2,A9:=m.A9,B1:=m.B1,C3:=m.C3,A0:=m.A0,A4:=m.A4,A3:=false,A6:=m.A6})) (.nx ((rZ/\rZ/\rE (x0:Int)/\rE ((wrap i64 (v0+1)):Int)/\True)/\(rE m.B2.X.a0/\rE m.B2.X.a1/\rE m.B2.X.a2/\rE m.B2.X.a3/\rE m.B2.X.a4/\rE m.B2.X.a5/\rE m.B2.X.a6/\rE m.B2.X.a7/\rE m.B2.X.a8/\rE m.B2.X.a9/\rE m.B2.X.a10/\rE m.B2.X.a11/\rE m.B2.X.a12/\rE m.B2.X.a13/\rE m.B2.X.a14/\rE m.B2.X.a15/\rE m.B2.Pc/\rE m.B2.B3.a0/\rE m.B2.B3.a1/\rE m.B2.B3.a2/\rE m.B2.B3.a3/\rE m.B2.B3.a4/\rE m.B2.B3.a5/\rE m.B2.B3.a6/\rE m.B2.B3.a7/\((Els.Nil (Els.ints u32 m.Mem)\/rE (1:Nat))/\rE m.Mem)/\rE m.A2.C9/\rE m.A9.D4/\rE m.A9.C6/\rE m.A9.D3/\rE m.B1.Blocks/\rE m.B1.B8/\rE m.B1.Frame/\rE m.B1.B7/\rE m.B1.D5/\rE m.B1.B4/\rE m.B1.B0/\rE m.B1.C0/\rE m.C3.Frame/\rE m.C3.D8/\rE m.C3.C2/\rE m.C3.B6/\rE m.C3.B5/\rE m.C3.E0/\rE m.A0.C5/\rE m.A0.B9/\rE m.A4/\rE (false:Bool)/\rE m.A6/\True)/\(mE zM True True)/\True) (Sum.inl (wrap i64 (v0+1)))))) (.lf (Sum.inr E1))))
def Q0z m:=(Q6s m).m
abbrev Qii m:=(Q6s m).p
def Qvp:LInv:={
 α:=(Int)
 F:=λst a=>([(1,.ptr 0 0 0),(2,.ptr 1 0 0),(3,(lk st 3)),(15,.int i64 a)],[⟨true,42,49,.gen [mB (cT st 1)]⟩,⟨true,42,49,.gen [mB (cT st 2)]⟩])
 a0:=λst=>(lk st 15).toInt
 ex0:=λst=>[]++[(rX st 1 0),(rX st 2 1)]}
def Qq:List (Nat×LInv):=[(6,Qvp)]
def Qyq:Q09:=Q09.fz<|mkP 62 [] false [.agg Q00.sig] [] (λa r=>Qii (Q00.of (aC a 0))) (λa r=>Q0z (Q00.of (aC a 0))) (λX=>.agg (Q00.cells X)) (λX=>[])
theorem Qvj:Q04 pG Qyq:=fz_ok<|Q0i drawn Q0h (.cons Qhn (.cons Qc2 (.nil))) Tryz.func62 Tryz.call62 (λa r=>Q6s (Q00.of (aC a 0))) [.sl (.ints .u32) false] Qq 3 (λ_ _ _=>by kernel_rfl) (λ_ _=>rfl) (λ_ _ h=>h) (λh=>by cases h)
def Q8v(c:Q0c)(port:Int):Tree (Q0c×Int):=
.br (port==0) (.br (decide (c.C9=[])) (.lf (c,4294967295)) (.cn (decide ((0:Int)<=(0:Int)/\0<(c.C9.length:Int))) (.cn (decide ((0:Int)<=(1:Int)/\1<=(c.C9.length:Int)/\(c.C9.length:Int)<=(c.C9.length:Int))) (.lf ({C9:=cW (dB (c.C9.length:Int)-dB 1) (cX (dB 1) c.C9)},wrap u32 (↑(eQ (c.C9.getD (dB 0) (0:UInt8))):Int)))))) (.br (port==1) (.lf (c,wrap u32 (c.C9.length:Int))) (.lf (c,0)))
def Qnc c port:=(Q8v c port).m
theorem Z1t(c:Q0c)(port:Int):(Q8v c port).p:=by
 unfold Tree.p Q8v
 repeat'(first|exact trivial|refine w_br (λ_=>?_) (λ_=>?_)|refine w_cn ?_ ?_|refine w_an ?_ ?_|refine w_lv (λ_ _=>?_)|refine w_nx ?_|refine w_lf ?_|refine And.intro ?_ ?_)
 all_goals(exact fin0)
def Zbx:Q09:=mS 122 [] true [.agg Q0c.sig,.one (.int .i64)] [] (λa r=>Q8v (Q0c.of (aC a 0)) (argI a 1)) (λX=>.tup [.agg (Q0c.cells (X.1)),.int .u32 (X.2)]) (λX=>[])
theorem Z4u:Q04 pG Zbx:=oS (.nil) Tryz.func122 Tryz.call122 [] [] 2 (λ_ _ _=>by kernel_rfl) (λa r=>Z1t (Q0c.of (aC a 0)) (argI a 1)) (λ_ X=>by kernel_rfl)
def Qmz(t:Q0j):Tree Int:=
.br t.D3 (.lf 1) (.lf 0)
def Qwa t:=(Qmz t).m
def Zio:Q09:=mS 123 [] true [.agg Q0j.sig] [] (λa r=>Qmz (Q0j.of (aC a 0))) (λX=>.int .u32 X) (λX=>[])
theorem Zcl:Q04 pG Zio:=oS (.nil) Tryz.func123 Tryz.call123 [] [] 2
def Qr3(d0:Q0a)(port:Int):Tree Int:=
.br (port==4) (.lf d0.B8) (.br (port==5) (.lf d0.Frame) (.br (port==6) (.lf (wrap u32 d0.B7)) (.lf 0)))
def Qs3 d0 port:=(Qr3 d0 port).m
def vv:Q09:=mS 124 [] true [.agg Q0a.sig,.one (.int .i64)] [] (λa r=>Qr3 (Q0a.of (aC a 0)) (argI a 1)) (λX=>.int .u32 X) (λX=>[])
theorem Zhs:Q04 pG vv:=oS (.nil) Tryz.func124 Tryz.call124 [] [] 2
def Qq9(n:Q0o)(port:Int):Tree Int:=
.br (port==7) (.lf n.Frame) (.br (port==8) (.lf n.E0) (.br (port==9) (.br n.C2 (.br n.B5 (.lf (wrap u32 (wrap u32 ((0:Int)+(1:Int))+2))) (.lf (wrap u32 ((0:Int)+(1:Int))))) (.br n.B5 (.lf (wrap u32 ((0:Int)+(2:Int)))) (.lf 0))) (.lf 0)))
def Z09 n port:=(Qq9 n port).m
def yM:Q09:=mS 125 [] true [.agg Q0o.sig,.one (.int .i64)] [] (λa r=>Qq9 (Q0o.of (aC a 0)) (argI a 1)) (λX=>.int .u32 X) (λX=>[])
theorem qw:Q04 pG yM:=oS (.nil) Tryz.func125 Tryz.call125 [] [] 2
def Qax(b:Q06)(port:Int):Tree Int:=
.br (port==10) (.lf b.C5) (.br (port==11) (.an (Qcs b) (.lv (Qb b) λ(x0:Int)=>.lf (wrap u32 x0))) (.lf 0))
def Qn2 b port:=(Qax b port).m
abbrev Qoe b port:=(Qax b port).p
def Z8c:Q09:=mT 126 [] true [.agg Q06.sig,.one (.int .i64)] [] (λa r=>Qax (Q06.of (aC a 0)) (argI a 1)) (λX=>.int .u32 X) (λX=>[])
theorem Z5z:Q04 pG Z8c:=oT (.cons Qkv (.nil)) Tryz.func126 Tryz.call126 [] [] 2
def Q4c(m:Q00)(port clock:Int):Tree (Q00×Int):=
let T1:Tree ((Q00×Int)):=.lv (Qnc m.A2 port) λ(x0:Q0c×Int)=>.lf ({B2:=m.B2,Mem:=m.Mem,A2:=x0.1,A9:=m.A9,B1:=m.B1,C3:=m.C3,A0:=m.A0,A4:=m.A4,A3:=m.A3,A6:=m.A6},x0.2);.br (port==0) T1 (.br (port==1) T1 (.br (port==2) (.lf (m,clock)) (.br (port==3) (.lv (Qwa m.A9) λ(x2:Int)=>.lf (m,x2)) (.br (port==4) (.lv (Qs3 m.B1 port) λ(x3:Int)=>.lf (m,x3)) (.br (port==5) (.lv (Qs3 m.B1 port) λ(x4:Int)=>.lf (m,x4)) (.br (port==6) (.lv (Qs3 m.B1 port) λ(x5:Int)=>.lf (m,x5)) (.br (port==7) (.lv (Z09 m.C3 port) λ(x6:Int)=>.lf (m,x6)) (.br (port==8) (.lv (Z09 m.C3 port) λ(x7:Int)=>.lf (m,x7)) (.br (port==9) (.lv (Z09 m.C3 port) λ(x8:Int)=>.lf (m,x8)) (let T2:Tree ((Q00×Int)):=.an (Qoe m.A0 port) (.lv (Qn2 m.A0 port) λ(x9:Int)=>.lf (m,x9));.br (port==10) T2 (.br (port==11) T2 (.lf (m,0)))))))))))))
def Q15 m port clock:=(Q4c m port clock).m
abbrev Qek m port clock:=(Q4c m port clock).p
def Qrp:Q09:=Q09.fz<|mkP 64 [] false [.agg Q00.sig,.one (.int .i64),.one (.int .u32)] [] (λa r=>Qek (Q00.of (aC a 0)) (argI a 1) (argI a 2)) (λa r=>Q15 (Q00.of (aC a 0)) (argI a 1) (argI a 2)) (λX=>.tup [.agg (Q00.cells (X.1)),.int .u32 (X.2)]) (λX=>[])
theorem Qpa:Q04 pG Qrp:=fz_ok<|Q0i drawn Q0h (.cons Z4u (.cons Zcl (.cons Zhs (.cons qw (.cons Z5z (.nil)))))) Tryz.func64 Tryz.call64 (λa r=>Q4c (Q00.of (aC a 0)) (argI a 1) (argI a 2)) [.sl (.ints .u32) false] [] 2 (λ_ _ _=>by kernel_rfl) (λ_ _=>rfl) (λ_ _ h=>h) (λh=>by cases h)
def Qjq(t:Q0j)(deadline:Int):Tree Q0j:=
.lf ({D4:=deadline !=0,C6:=deadline,D3:=false})
def Qiz t deadline:=(Qjq t deadline).m
def Zcz:Q09:=mS 127 [] true [.agg Q0j.sig,.one (.int .u32)] [] (λa r=>Qjq (Q0j.of (aC a 0)) (argI a 1)) (λX=>.agg (Q0j.cells X)) (λX=>[])
theorem Zay:Q04 pG Zcz:=oS (.nil) Tryz.func127 Tryz.call127 [] [] 2
def Qb4(m:List Int)(frame:Int):Tree Bool:=
.lv (Q0m m) λ(x0:Int)=>.lf (decide (wrap u64 frame<wrap u64 x0))
def Q8a m frame:=(Qb4 m frame).m
def Z7b:Q09:=mS 134 [] true [.one (.ints .u32),.one (.int .u32)] [] (λa r=>Qb4 (argL .u32 a 0) (argI a 1)) (λX=>.bool X) (λX=>[])
theorem Z12:Q04 pG Z7b:=oS (.cons Q1w (.nil)) Tryz.func134 Tryz.call134 [] [] 2
def Q7k(m:List Int)(frame:Int):Tree Bool:=
.br (decide (frame>=0)) (.lv (Q0m m) λ(x0:Int)=>.lf (decide (frame<x0))) (.lf false)
def Q4t m frame:=(Q7k m frame).m
def Qvu:Q09:=mS 60 [] true [.one (.ints .u32),.one (.int .i64)] [] (λa r=>Q7k (argL .u32 a 0) (argI a 1)) (λX=>.bool X) (λX=>[])
theorem Qj2:Q04 pG Qvu:=oS (.cons Q1w (.nil)) Tryz.func60 Tryz.call60 [] [] 2
def Qkr(words:List Int)(z:(Int)×(List Int)):Prop:=0<=z.1/\z.1<=words.length/\(z.2.length:Int)=4*z.1
def Q6r(words:List Int)(z:(Int)×(List Int)):Nat:=(words.length-z.1).toNat
def Q4k(words:List Int):Tree (List UInt8):=
.cn (bJ 0 1&&bT 1 1&&List.all [D.int u8 0] D.plain&&decide ((0:Int)<=(0:Int)/\0<=wrap i64 (4*(words.length:Int))/\wrap i64 (4*(words.length:Int))<=9223372036854775807/\(↑1:Int)*wrap i64 (4*(words.length:Int))<=140737488355328)) (.lp inferInstance (Q6r words (0,[])+1) ((True/\((Els.Nil (Els.ints u32 words)\/rE (1:Nat))/\rE (words:List Int))/\rE ((words.length:Int):Int)/\rE (0:Int)/\True)/\rE ([]:List Int)/\True) (0,[]) λ(v0:Int×List Int)=>.br (decide (v0.1<(words.length:Int))) (.cn (bT 1 1&&bJ 0 1&&decide (0<=v0.1/\v0.1<(words.length:Int))) (.cn (decide (1*(v0.2.length+4)<=140737488355328)) (let E1:=words.getD v0.1.toNat 0;.nx ((True/\((Els.Nil (Els.ints u32 words)\/rE (1:Nat))/\rE (words:List Int))/\rE ((words.length:Int):Int)/\rE ((wrap i64 (v0.1+1)):Int)/\True)/\rE ((v0.2++[wrap u8 (words.getD v0.1.toNat 0),wrap u8 (ishr u32 (words.getD v0.1.toNat 0) 8),wrap u8 (ishr u32 (words.getD v0.1.toNat 0) 16),wrap u8 (ishr u32 (words.getD v0.1.toNat 0) 24)]):List Int)/\True) (Sum.inl (wrap i64 (v0.1+1),v0.2++[wrap u8 E1,wrap u8 (ishr u32 E1 8),wrap u8 (ishr u32 E1 16),wrap u8 (ishr u32 E1 24)]))))) (.lf (Sum.inr (bytesOf v0.2))))
def Qwv words:=(Q4k words).m
def Qbl(words:List Int):Prop:=
words.length<=1000000000000
theorem Qy(words:List Int)(hw:Qbl words):(Q4k words).p:=by
 simp only[Qbl]at hw
 unfold Tree.p Q4k
 repeat'(first|refine w_lp (inv:=Qkr words) (μ:=Q6r words) ?_ (Nat.lt_succ_self _) (λ_ _=>?_)|exact trivial|refine w_br (λ_=>?_) (λ_=>?_)|refine w_cn ?_ ?_|refine w_an ?_ ?_|refine w_lv (λ_ _=>?_)|refine w_nx ?_|refine w_lf ?_|refine And.intro ?_ ?_)
 all_goals((try simp only[Qkr,Q6r]at*);exact fin0)
def Z1u:LInv:={
 α:=(Int)×(List Int)
 F:=λst a=>([(3,.all 0),(10,(lk st 10)),(11,(lk st 11)),(12,.int i64 a.1)],[⟨false,5,1,.ints u8 a.2⟩])
 a0:=λst=>((lk st 12).toInt,(Q80 st.rows (rN st 3)))
 ex0:=λst=>[]++[(rX st 3 0)]}
def Qvl:List (Nat×LInv):=[(3,Z1u)]
def Z71:Q09:=mkP 66 [] true [.one (.ints .u32)] [] (λa r=>Qbl (argL .u32 a 0)) (λa r=>Qwv (argL .u32 a 0)) (λX=>.str X) (λX=>[])
theorem Z1r:Q04 pG Z71:=Q0i drawn Q0h (.nil) Tryz.func66 Tryz.call66 (λa r=>Q4k (argL .u32 a 0)) [] Qvl 3 (hp:=λa r h=>Qy (argL .u32 a 0) h)
def Q5r(m:List Int)(frame:Int):Tree ((List UInt8)×Bool):=
.lv (Q4t m frame) λ(x0:Bool)=>.br (!x0) (.lf ([],false)) (.cn (bT 1 1&&bJ 0 1&&decide (0<=wrap i64 (frame*32)/\wrap i64 (frame*32)<=wrap i64 (wrap i64 (frame*32)+32)/\wrap i64 (wrap i64 (frame*32)+32)<=(m.length:Int))) (let E1:=cW (dB (wrap i64 (wrap i64 (frame*32)+32))-dB (wrap i64 (frame*32))) (cX (dB (wrap i64 (frame*32))) m);.an (Qbl E1) (.lv (Qwv E1) λ(x1:List UInt8)=>.lf (x1,true))))
def Q33 m frame:=(Q5r m frame).m
abbrev Q8z m frame:=(Q5r m frame).p
def Z5j:Q09:=mT 23 [] true [.one (.ints .u32),.one (.int .i64)] [] (λa r=>Q5r (argL .u32 a 0) (argI a 1)) (λX=>.tup [.str (X.1),.bool (X.2)]) (λX=>[])
theorem Qi8:Q04 pG Z5j:=oT (.cons Qj2 (.cons Z1r (.nil))) Tryz.func23 Tryz.call23 [] [] 2
def Qoa(d0:Q0a)(at0:Int):Tree (Q0d×Bool):=
.br (d0.B7 !=1) (.lf ({C1:=0,At:=0,B8:=0,C8:=[]},false)) (.br (d0.D5==1) (.lf ({C1:=3,At:=at0,B8:=d0.B4,C8:=[]},true)) (.br (d0.D5==2) (.lf ({C1:=4,At:=at0,B8:=d0.B4,C8:=d0.C0},true)) (.lf ({C1:=0,At:=0,B8:=0,C8:=[]},false))))
def Qho d0 at0:=(Qoa d0 at0).m
def Z0m:Q09:=mS 254 [] true [.agg Q0a.sig,.one (.int .u64)] [] (λa r=>Qoa (Q0a.of (aC a 0)) (argI a 1)) (λX=>.tup [.agg (Q0d.cells (X.1)),.bool (X.2)]) (λX=>[])
theorem Qzc:Q04 pG Z0m:=oS (.nil) Tryz.func254 Tryz.call254 [] [] 2
def Qau(d0:Q0a)(m:List Int)(cmd at0:Int):Tree (Q0a×(List Q0d)):=
.br (d0.B7 !=0) (.lf (d0,[])) (let T1:Tree ((Q0a×(List Q0d))):=.lf ({Blocks:=d0.Blocks,B8:=d0.B8,Frame:=d0.Frame,B7:=3,D5:=d0.D5,B4:=d0.B4,B0:=d0.B0,C0:=d0.C0},[]);.br (decide (d0.B8>=d0.Blocks)) T1 (.lv (Q8a m d0.Frame) λ(x0:Bool)=>.br (!x0) T1 (.br (cmd==2) (.an (Q8z m (wrap i64 d0.Frame)) (.lv (Q33 m (wrap i64 d0.Frame)) λ(x1:List UInt8×Bool)=>let E2:=({Blocks:=d0.Blocks,B8:=d0.B8,Frame:=d0.Frame,B7:=1,D5:=cmd,B4:=d0.B8,B0:=d0.Frame,C0:=x1.1}:Q0a);.lv (Qho E2 at0) λ(x2:Q0d×Bool)=>.lf (E2,[x2.1]))) (let E3:=({Blocks:=d0.Blocks,B8:=d0.B8,Frame:=d0.Frame,B7:=1,D5:=cmd,B4:=d0.B8,B0:=d0.Frame,C0:=[]}:Q0a);.lv (Qho E3 at0) λ(x3:Q0d×Bool)=>.lf (E3,[x3.1])))))
def Qt8 d0 m cmd at0:=(Qau d0 m cmd at0).m
abbrev Qoi d0 m cmd at0:=(Qau d0 m cmd at0).p
def Zbq:Q09:=mT 192 [] true [.agg Q0a.sig,.one (.ints .u32),.one (.int .i64),.one (.int .u64)] [] (λa r=>Qau (Q0a.of (aC a 0)) (argL .u32 a 1) (argI a 2) (argI a 3)) (λX=>.tup [.agg (Q0a.cells (X.1)),.sl 4 (.recs .apiOutput (X.2)) true]) (λX=>[])
theorem Z6e:Q04 pG Zbq:=oT (.cons Z12 (.cons Qi8 (.cons Qzc (.nil)))) Tryz.func192 Tryz.call192 [.sl (.recs .apiOutput) true] [] 2
def Qfb(d0:Q0a)(m:List Int)(port v at0:Int):Tree (Q0a×(List Q0d)):=
.br (port==4) (.lf ({Blocks:=d0.Blocks,B8:=v,Frame:=d0.Frame,B7:=d0.B7,D5:=d0.D5,B4:=d0.B4,B0:=d0.B0,C0:=d0.C0},[])) (.br (port==5) (.lf ({Blocks:=d0.Blocks,B8:=d0.B8,Frame:=v,B7:=d0.B7,D5:=d0.D5,B4:=d0.B4,B0:=d0.B0,C0:=d0.C0},[])) (.br (port==6) (let T1:Tree ((Q0a×(List Q0d))):=.an (Qoi d0 m (wrap i64 v) at0) (.lv (Qt8 d0 m (wrap i64 v) at0) λ(x0:Q0a×List Q0d)=>.lf (x0.1,x0.2));.br (v==1) T1 (.br (v==2) T1 (.br (v==0) (.lv (Q8e d0) λ(x2:Bool)=>.br x2 (.lf ({Blocks:=d0.Blocks,B8:=d0.B8,Frame:=d0.Frame,B7:=0,D5:=d0.D5,B4:=d0.B4,B0:=d0.B0,C0:=d0.C0},[])) (.lf (d0,[]))) (.lf (d0,[]))))) (.lf (d0,[]))))
def Qwm d0 m port v at0:=(Qfb d0 m port v at0).m
abbrev Qun d0 m port v at0:=(Qfb d0 m port v at0).p
def Zhb:Q09:=mT 128 [] true [.agg Q0a.sig,.one (.ints .u32),.one (.int .i64),.one (.int .u32),.one (.int .u64)] [] (λa r=>Qfb (Q0a.of (aC a 0)) (argL .u32 a 1) (argI a 2) (argI a 3) (argI a 4)) (λX=>.tup [.agg (Q0a.cells (X.1)),.sl 4 (.recs .apiOutput (X.2)) true]) (λX=>[])
theorem Zc4:Q04 pG Zhb:=oT (.cons Z6e (.cons Qlp (.nil))) Tryz.func128 Tryz.call128 [.sl (.recs .apiOutput) true] [] 2
def Qdf(m:List Int)(frame:Int):Tree Bool:=
.lv (Q0m m) λ(x0:Int)=>.lf (decide (wrap u64 frame<wrap u64 x0))
def Q9j m frame:=(Qdf m frame).m
def Zax:Q09:=mS 135 [] true [.one (.ints .u32),.one (.int .u32)] [] (λa r=>Qdf (argL .u32 a 0) (argI a 1)) (λX=>.bool X) (λX=>[])
theorem Qrj:Q04 pG Zax:=oS (.cons Q1w (.nil)) Tryz.func135 Tryz.call135 [] [] 2
def Qf7(n:Q0o)(m:List Int)(at0:Int):Tree (List Q0d):=
.br (decide (n.D8<1)) (.lf ([])) (.br (decide (n.D8>128)) (.lf ([])) (.lv (Q9j m n.Frame) λ(x0:Bool)=>.br (!x0) (.lf ([])) (.an (Q8z m (wrap i64 n.Frame)) (.lv (Q33 m (wrap i64 n.Frame)) λ(x1:List UInt8×Bool)=>.cn (decide ((0:Int)<=(0:Int)/\0<=n.D8/\n.D8<=(x1.1.length:Int))) (.lf ([{C1:=2,At:=at0,B8:=0,C8:=cW (dB n.D8-dB 0) (cX (dB 0) x1.1)}]))))))
def Z4t n m at0:=(Qf7 n m at0).m
abbrev Qv1 n m at0:=(Qf7 n m at0).p
def Zie:Q09:=mT 193 [] true [.agg Q0o.sig,.one (.ints .u32),.one (.int .u64)] [] (λa r=>Qf7 (Q0o.of (aC a 0)) (argL .u32 a 1) (argI a 2)) (λX=>.sl 4 (.recs .apiOutput X) true) (λX=>[])
theorem Zdo:Q04 pG Zie:=oT (.cons Qrj (.cons Qi8 (.nil))) Tryz.func193 Tryz.call193 [.sl (.recs .apiOutput) true] [] 2
def Qix(n:Q0o)(m:List Int)(port v at0:Int):Tree (Q0o×(List Q0d)):=
.br (port==7) (.lf ({Frame:=v,D8:=n.D8,C2:=n.C2,B6:=n.B6,B5:=n.B5,E0:=n.E0},[])) (.br (port==8) (.lf ({Frame:=n.Frame,D8:=v,C2:=n.C2,B6:=n.B6,B5:=n.B5,E0:=n.E0},[])) (.br (port==9) (.br (v==1) (.an (Qv1 n m at0) (.lv (Z4t n m at0) λ(x0:List Q0d)=>.lf (n,x0))) (.br (v==2) (.lv (Q9j m n.Frame) λ(x1:Bool)=>.br x1 (.br (!n.C2) (.br (!n.B5) (.lf ({Frame:=n.Frame,D8:=n.D8,C2:=true,B6:=n.Frame,B5:=n.B5,E0:=n.E0},[])) (.lf (n,[]))) (.lf (n,[]))) (.lf (n,[]))) (.br (v==0) (.lf ({Frame:=n.Frame,D8:=n.D8,C2:=n.C2,B6:=n.B6,B5:=false,E0:=0},[])) (.lf (n,[]))))) (.lf (n,[]))))
def Z5w n m port v at0:=(Qix n m port v at0).m
abbrev Qzj n m port v at0:=(Qix n m port v at0).p
def xw:Q09:=mT 129 [] true [.agg Q0o.sig,.one (.ints .u32),.one (.int .i64),.one (.int .u32),.one (.int .u64)] [] (λa r=>Qix (Q0o.of (aC a 0)) (argL .u32 a 1) (argI a 2) (argI a 3) (argI a 4)) (λX=>.tup [.agg (Q0o.cells (X.1)),.sl 4 (.recs .apiOutput (X.2)) true]) (λX=>[])
theorem Ziw:Q04 pG xw:=oT (.cons Zdo (.cons Qrj (.nil))) Tryz.func129 Tryz.call129 [.sl (.recs .apiOutput) true] [] 2
def Q9s(m:List Int)(frame:Int)(s:List UInt8)(z:(Int)×(List Int)):Nat:=(32-z.1).toNat
def Q3b(m:List Int)(frame:Int)(s:List UInt8):Tree ((List Int)×Bool):=
.an (Q07 m) (.lv (Q02 m) λ(x0:List Int)=>.lv (Q4t m frame) λ(x1:Bool)=>.br (!x1) (.lf (x0,false)) (.br ((s.length:Int) !=(128:Int)) (.lf (x0,false)) (.lp inferInstance (Q9s m frame s (0,x0)+1) ((rE (s:List UInt8)/\True/\rE ((wrap i64 (frame*32)):Int)/\rE (0:Int)/\True)/\rE (x0:List Int)/\True) (0,x0) λ(v0:Int×List Int)=>.br (decide (v0.1<32)) (.cn (decide (0<=wrap i64 (4*v0.1)/\wrap i64 (4*v0.1)<=wrap i64 (wrap i64 (4*v0.1)+4)/\wrap i64 (wrap i64 (4*v0.1)+4)<=(s.length:Int))) (let E1:=cW (dB (wrap i64 (wrap i64 (4*v0.1)+4))-dB (wrap i64 (4*v0.1))) (cX (dB (wrap i64 (4*v0.1))) s);.cn (decide ((0:Int)<=(0:Int)/\0<(↑(dG E1):Int))) (.cn (decide ((0:Int)<=(1:Int)/\1<(↑(dG E1):Int))) (.cn (decide ((0:Int)<=(2:Int)/\2<(↑(dG E1):Int))) (.cn (decide ((0:Int)<=(3:Int)/\3<(↑(dG E1):Int))) (.cn (bT 1 1&&bJ 0 1&&decide (0<=wrap i64 (wrap i64 (frame*32)+v0.1)/\wrap i64 (wrap i64 (frame*32)+v0.1)<(v0.2.length:Int))) (.nx ((rE (s:List UInt8)/\True/\rE ((wrap i64 (frame*32)):Int)/\rE ((wrap i64 (v0.1+1)):Int)/\True)/\rE ((dC v0.2 (dB (wrap i64 (wrap i64 (frame*32)+v0.1))) (ior u32 (ior u32 (ior u32 (wrap u32 (↑(eQ (aK (cW (dB (wrap i64 (wrap i64 (4*v0.1)+4))-dB (wrap i64 (4*v0.1))) (cX (dB (wrap i64 (4*v0.1))) s)) (dB 0) (0:UInt8))):Int)) (ishl u32 (wrap u32 (↑(eQ (aK (cW (dB (wrap i64 (wrap i64 (4*v0.1)+4))-dB (wrap i64 (4*v0.1))) (cX (dB (wrap i64 (4*v0.1))) s)) (dB 1) (0:UInt8))):Int)) 8)) (ishl u32 (wrap u32 (↑(eQ (aK (cW (dB (wrap i64 (wrap i64 (4*v0.1)+4))-dB (wrap i64 (4*v0.1))) (cX (dB (wrap i64 (4*v0.1))) s)) (dB 2) (0:UInt8))):Int)) 16)) (ishl u32 (wrap u32 (↑(eQ (aK (cW (dB (wrap i64 (wrap i64 (4*v0.1)+4))-dB (wrap i64 (4*v0.1))) (cX (dB (wrap i64 (4*v0.1))) s)) (dB 3) (0:UInt8))):Int)) 24))):List Int)/\True) (Sum.inl (wrap i64 (v0.1+1),dC v0.2 (dB (wrap i64 (wrap i64 (frame*32)+v0.1))) (ior u32 (ior u32 (ior u32 (wrap u32 (↑(eQ (aK E1 (dB 0) (0:UInt8))):Int)) (ishl u32 (wrap u32 (↑(eQ (aK E1 (dB 1) (0:UInt8))):Int)) 8)) (ishl u32 (wrap u32 (↑(eQ (aK E1 (dB 2) (0:UInt8))):Int)) 16)) (ishl u32 (wrap u32 (↑(eQ (aK E1 (dB 3) (0:UInt8))):Int)) 24))))))))))) (.lf (Sum.inr (v0.2,true))))))
def Q0y m frame s:=(Q3b m frame s).m
abbrev Q5s m frame s:=(Q3b m frame s).p
def Qsu:LInv:={
 α:=(Int)×(List Int)
 F:=λst a=>([(2,(lk st 2)),(8,.all 0),(9,(lk st 9)),(26,.int i64 a.1)],[⟨false,23,1,.ints u32 a.2⟩])
 a0:=λst=>((lk st 26).toInt,(Q80 st.rows (rN st 8)))
 ex0:=λst=>[]++[(rX st 8 0)]}
def Qop:List (Nat×LInv):=[(6,Qsu)]
def Qv8:Q09:=mT 21 [] true [.one (.ints .u32),.one (.int .i64),.one (.str)] [] (λa r=>Q3b (argL .u32 a 0) (argI a 1) (argS a 2)) (λX=>.tup [.all 0,.bool (X.2)]) (λX=>[⟨false,23,1,.ints .u32 (X.1)⟩])
theorem Qj6:Q04 pG Qv8:=oT (.cons Q14 (.cons Qj2 (.nil))) Tryz.func21 Tryz.call21 [.row 23 1 (.ints .u32)] Qop 3
def strings_Repeat(s:List UInt8)(count:Int):(List UInt8):=
Lib.repeatL s count.toNat
def Qbd(s:List UInt8)(count:Int):Prop:=
0<=count/\count<=9223372036854775807/\s.length*count.toNat<=140737488355328
def Qfz(s:List UInt8)(count:Int):List D:=[.str s,.int .i64 count]
def Qgk(s:List UInt8)(count:Int):List Row:=[]
def Qb7(X:List UInt8):D:=.str X
def Qbx(X:List UInt8):List Row:=[]
def Qhs:List PT:=[.one (.str),.one (.int .i64)]
def Qh:List RT:=[]
def Qrq(args:List D)(rows:List Row):(List UInt8):=strings_Repeat (argS args 0) (argI args 1)
def Qpi(args:List D)(rows:List Row):Prop:=Qbd (argS args 0) (argI args 1)
def Qvi:Q09:=mkP 194 [] true Qhs Qh Qpi Qrq Qb7 Qbx
theorem Qnw(s:List UInt8)(count:Int)(hw:Qbd s count):Q3i pG 194 (Qfz s count) (Qgk s count) (Qb7 (strings_Repeat s count)) (Qbx (strings_Repeat s count)):=by
 exact xd Tryz.strings_Repeat hw.1 hw.2.1 hw.2.2
set_option maxRecDepth 100000 in
theorem Qpd(args:List D)(rows:List Row):Qlq Qhs args 0=Qfz (argS args 0) (argI args 1):=by kernel_rfl
set_option maxRecDepth 100000 in
theorem Qnp(args:List D)(rows:List Row):Qa0 Qh rows 0=Qgk (argS args 0) (argI args 1):=by kernel_rfl
set_option maxRecDepth 100000 in
theorem Qtc(X:List UInt8):(ffB (Qb7 X)&&ffBR (Qbx X))=true:=by kernel_rfl
theorem Qsc:Q04 pG Qvi:=Qy9 Tryz.call194 (λargs rows hp=>by rw[Qpd args rows,Qnp args rows];exact Qnw (argS args 0) (argI args 1) hp) (λ_ X=>Qtc X)
def Q3y(b:Q06)(m:List Int)(port v:Int):Tree (Q06×(List Int)):=
let T1:Tree ((Q06×(List Int))):=.an (Q07 m) (.lv (Q02 m) λ(x0:List Int)=>.lf (b,x0));.br (decide (v>=32)) T1 (.cn (decide (0<=v)) (.br (port==10) (.lv (Q0m m) λ(x1:Int)=>.br (decide (wrap i64 v<x1)) (.br (iand u32 b.B9 (ishl u32 1 v)==0) (.an (Qbd [(0:UInt8)] 128) (.lv (strings_Repeat [(0:UInt8)] 128) λ(x2:List UInt8)=>.an (Q5s m (wrap i64 v) x2) (.lv (Q0y m (wrap i64 v) x2) λ(x3:List Int×Bool)=>.lf ({C5:=b.C5,B9:=ior u32 b.B9 (ishl u32 1 v)},x3.1)))) T1) T1) (.br (port==11) (.an (Q07 m) (.lv (Q02 m) λ(x6:List Int)=>.lf ({C5:=b.C5,B9:=Q7f u32 b.B9 (ishl u32 1 v)},x6))) T1)))
def Q74 b m port v:=(Q3y b m port v).m
abbrev Qmq b m port v:=(Q3y b m port v).p
def Z74:Q09:=mT 130 [] true [.agg Q06.sig,.one (.ints .u32),.one (.int .i64),.one (.int .u32)] [] (λa r=>Q3y (Q06.of (aC a 0)) (argL .u32 a 1) (argI a 2) (argI a 3)) (λX=>.tup [.agg (Q06.cells (X.1)),.all 0]) (λX=>[⟨false,23,1,.ints .u32 (X.2)⟩])
theorem Z23:Q04 pG Z74:=oT (.cons Q14 (.cons Q1w (.cons Qj6 (.cons Qsc (.nil))))) Tryz.func130 Tryz.call130 [.row 23 1 (.ints .u32)] [] 2
def Q3s(m:Q00)(port v at0:Int):Tree (Q00×(List Q0d)):=
.br (port==0) (.lf (m,[{C1:=1,At:=at0,B8:=0,C8:=[(λ(n:Int)=>UInt8.ofNat n.toNat) (wrap u8 v)]}])) (.br (port==3) (.lv (Qiz m.A9 v) λ(x0:Q0j)=>.lf ({B2:=m.B2,Mem:=m.Mem,A2:=m.A2,A9:=x0,B1:=m.B1,C3:=m.C3,A0:=m.A0,A4:=m.A4,A3:=m.A3,A6:=m.A6},[])) (let T1:Tree ((Q00×(List Q0d))):=.an (Qun m.B1 m.Mem port v at0) (.lv (Qwm m.B1 m.Mem port v at0) λ(x1:Q0a×List Q0d)=>.lf ({B2:=m.B2,Mem:=m.Mem,A2:=m.A2,A9:=m.A9,B1:=x1.1,C3:=m.C3,A0:=m.A0,A4:=m.A4,A3:=m.A3,A6:=m.A6},x1.2));.br (port==4) T1 (.br (port==5) T1 (.br (port==6) T1 (let T2:Tree ((Q00×(List Q0d))):=.an (Qzj m.C3 m.Mem port v at0) (.lv (Z5w m.C3 m.Mem port v at0) λ(x4:Q0o×List Q0d)=>.lf ({B2:=m.B2,Mem:=m.Mem,A2:=m.A2,A9:=m.A9,B1:=m.B1,C3:=x4.1,A0:=m.A0,A4:=m.A4,A3:=m.A3,A6:=m.A6},x4.2));.br (port==7) T2 (.br (port==8) T2 (.br (port==9) T2 (let T3:Tree ((Q00×(List Q0d))):=.an (Qmq m.A0 m.Mem port v) (.lv (Q74 m.A0 m.Mem port v) λ(x7:Q06×List Int)=>.lf ({B2:=m.B2,Mem:=x7.2,A2:=m.A2,A9:=m.A9,B1:=m.B1,C3:=m.C3,A0:=x7.1,A4:=m.A4,A3:=m.A3,A6:=m.A6},[]));.br (port==10) T3 (.br (port==11) T3 (.lf (m,[])))))))))))
def Q2g m port v at0:=(Q3s m port v at0).m
abbrev Qdm m port v at0:=(Q3s m port v at0).p
def Qos:Q09:=Q09.fz<|mkP 65 [] false [.agg Q00.sig,.one (.int .i64),.one (.int .u32),.one (.int .u64)] [] (λa r=>Qdm (Q00.of (aC a 0)) (argI a 1) (argI a 2) (argI a 3)) (λa r=>Q2g (Q00.of (aC a 0)) (argI a 1) (argI a 2) (argI a 3)) (λX=>.tup [.agg (Q00.cells (X.1)),.sl 4 (.recs .apiOutput (X.2)) true]) (λX=>[])
theorem Qnq:Q04 pG Qos:=fz_ok<|Q0i drawn Q0h (.cons Zay (.cons Zc4 (.cons Ziw (.cons Z23 (.nil))))) Tryz.func65 Tryz.call65 (λa r=>Q3s (Q00.of (aC a 0)) (argI a 1) (argI a 2) (argI a 3)) [.sl (.ints .u32) false,.sl (.recs .apiOutput) true] [] 2 (λ_ _ _=>by kernel_rfl) (λ_ _=>rfl) (λ_ _ h=>h) (λh=>by cases h)
def Q4r(m:Q00)(clock:Int):Tree (Q00×(List Q0d)):=
.an (Q07 m.Mem) (.lv (Q02 m.Mem) λ(x0:List Int)=>let E1:=({B2:=m.B2,Mem:=x0,A2:=m.A2,A9:=m.A9,B1:=m.B1,C3:=m.C3,A0:=m.A0,A4:=m.A4,A3:=m.A3,A6:=m.A6}:Q00);.an (Qkx E1) (.lv (Q1g E1) λ(x1:Bool)=>.br (!x1) (.lf (E1,[])) (.an (Qii E1) (.lv (Q0z E1) λ(x2:Q00)=>.an (Quc x2.B2 x2.Mem) (.lv (Qa8 x2.B2 x2.Mem) λ(x3:Q01×List Int×Q10)=>let E2:=({B2:=x3.1,Mem:=x3.2.1,A2:=x2.A2,A9:=x2.A9,B1:=x2.B1,C3:=x2.C3,A0:=x2.A0,A4:=x2.A4,A3:=x2.A3,A6:=x2.A6}:Q00);.br (x3.2.2.C1==1) (.an (Qek E2 x3.2.2.C7 clock) (.lv (Q15 E2 x3.2.2.C7 clock) λ(x4:Q00×Int)=>.br (x3.2.2.D7 !=0) (.cn (bJ 0 1&&decide (0<=x3.2.2.D7/\x3.2.2.D7<(↑16:Int))) (.lf ({B2:={X:=A16.of 0 (dC (A16.l x4.1.B2.X) x3.2.2.D7.toNat x4.2),Pc:=x4.1.B2.Pc,B3:=x4.1.B2.B3},Mem:=x4.1.Mem,A2:=x4.1.A2,A9:=x4.1.A9,B1:=x4.1.B1,C3:=x4.1.C3,A0:=x4.1.A0,A4:=wrap u64 (x4.1.A4+1),A3:=x4.1.A3,A6:=x4.1.A6},[]))) (.lf ({B2:=x4.1.B2,Mem:=x4.1.Mem,A2:=x4.1.A2,A9:=x4.1.A9,B1:=x4.1.B1,C3:=x4.1.C3,A0:=x4.1.A0,A4:=wrap u64 (x4.1.A4+1),A3:=x4.1.A3,A6:=x4.1.A6},[])))) (.br (x3.2.2.C1==2) (.an (Qdm E2 x3.2.2.C7 x3.2.2.Value m.A4) (.lv (Q2g E2 x3.2.2.C7 x3.2.2.Value m.A4) λ(x5:Q00×List Q0d)=>.lf ({B2:=x5.1.B2,Mem:=x5.1.Mem,A2:=x5.1.A2,A9:=x5.1.A9,B1:=x5.1.B1,C3:=x5.1.C3,A0:=x5.1.A0,A4:=wrap u64 (x5.1.A4+1),A3:=x5.1.A3,A6:=x5.1.A6},x5.2))) (.br (x3.2.2.C1==3) (.lf ({B2:=x3.1,Mem:=x3.2.1,A2:=x2.A2,A9:=x2.A9,B1:=x2.B1,C3:=x2.C3,A0:=x2.A0,A4:=wrap u64 (x2.A4+1),A3:=true,A6:=x2.A6},[])) (.br (x3.2.2.C1==4) (.lf ({B2:=x3.1,Mem:=x3.2.1,A2:=x2.A2,A9:=x2.A9,B1:=x2.B1,C3:=x2.C3,A0:=x2.A0,A4:=wrap u64 (x2.A4+1),A3:=x2.A3,A6:=true},[])) (.lf ({B2:=x3.1,Mem:=x3.2.1,A2:=x2.A2,A9:=x2.A9,B1:=x2.B1,C3:=x2.C3,A0:=x2.A0,A4:=wrap u64 (x2.A4+1),A3:=x2.A3,A6:=x2.A6},[]))))))))))
def Q22 m clock:=(Q4r m clock).m
abbrev Qe3 m clock:=(Q4r m clock).p
def Z1c:Q09:=Q09.fz<|mkP 22 [] false [.agg Q00.sig,.one (.int .u32)] [] (λa r=>Qe3 (Q00.of (aC a 0)) (argI a 1)) (λa r=>Q22 (Q00.of (aC a 0)) (argI a 1)) (λX=>.tup [.agg (Q00.cells (X.1)),.sl 4 (.recs .apiOutput (X.2)) false]) (λX=>[])
theorem Qzg:Q04 pG Z1c:=fz_ok<|Q0i drawn Q0h (.cons Q14 (.cons Qxt (.cons Qvj (.cons Zcn (.cons Qpa (.cons Qnq (.nil))))))) Tryz.func22 Tryz.call22 (λa r=>Q4r (Q00.of (aC a 0)) (argI a 1)) [.sl (.ints .u32) false,.sl (.recs .apiOutput) false] [] 2 (λ_ _ _=>by kernel_rfl) (λ_ _=>rfl) (λ_ _ h=>h) (λh=>by cases h)
end
noncomputable section
def Qyz(op:Int):Tree Int:=
let T1:Tree (Int):=.br (op==49) (.lf 3) (let T2:Tree (Int):=.br (op==24) (.lf 6) (.br (op==48) (.lf 7) (.br (op==58) (.lf 8) (.br (op==59) (.lf 8) (.br (op==60) (.lf 9) (.br (op==61) (.lf 9) (.br (op==56) (.lf 1) (.br (op==57) (.lf 1) (.br (decide (op>=62)) (.br (decide (op<=64)) (.lf 1) (.lf 0)) (.lf 0)))))))));.br (decide (op>=17)) (.br (decide (op<=19)) (.lf 4) (.br (decide (op>=20)) (.br (decide (op<=22)) (.lf 5) T2) T2)) (.br (decide (op>=20)) (.br (decide (op<=22)) (.lf 5) T2) T2));let T3:Tree (Int):=.br (op==16) (.lf 3) (.br (op==23) (.lf 3) (.br (decide (op>=32)) (.br (decide (op<=36)) (.lf 3) (.br (decide (op>=40)) (.br (decide (op<=45)) (.lf 3) T1) T1)) (.br (decide (op>=40)) (.br (decide (op<=45)) (.lf 3) T1) T1)));.br (decide (op>=1)) (.br (decide (op<=13)) (.lf 2) T3) T3
def Q2d op:=(Qyz op).m
def Zdm:Q09:=mS 154 [] true [.one (.int .i64)] [] (λa r=>Qyz (argI a 0)) (λX=>.int .i64 X) (λX=>[])
theorem Qdp:Q04 pG Zdm:=oS (.nil) Tryz.func154 Tryz.call154 [] [] 2
def Qbu(r:Int):Tree Bool:=
.br (decide (r>=0)) (.lf (decide (r<=15))) (.lf false)
def Q75 r:=(Qbu r).m
def Qzr:Q09:=mS 236 [] true [.one (.int .i64)] [] (λa r=>Qbu (argI a 0)) (λX=>.bool X) (λX=>[])
theorem Qve:Q04 pG Qzr:=oS (.nil) Tryz.func236 Tryz.call236 [] [] 2
def Qjm(f:Int):Tree (Int×Int):=
.br (f==3) (.lf ((-32768),32767)) (.br (f==7) (.lf ((-32768),32767)) (.br (f==4) (.lf (0,65535)) (.br (f==6) (.lf (0,65535)) (.br (f==5) (.lf (0,31)) (.br (f==8) (.lf (0,7)) (.br (f==9) (.lf (0,11)) (.lf (0,0))))))))
def Qk0 f:=(Qjm f).m
def Z53:Q09:=mS 155 [] true [.one (.int .i64)] [] (λa r=>Qjm (argI a 0)) (λX=>.tup [.int .i64 (X.1),.int .i64 (X.2)]) (λX=>[])
theorem Qo6:Q04 pG Z53:=oS (.nil) Tryz.func155 Tryz.call155 [] [] 2
def Qd9(i:Q0f):Tree Bool:=
.lv (Q2d i.Op) λ(x0:Int)=>.br (x0==0) (.lf false) (.lv (Q75 i.A) λ(x1:Bool)=>.br (!x1) (.lf false) (.lv (Q75 i.B) λ(x2:Bool)=>.br (!x2) (.lf false) (.lv (Q75 i.C) λ(x3:Bool)=>.br (!x3) (.lf false) (.lv (Qk0 x0) λ(x4:Int×Int)=>.br (decide (wrap i64 i.Imm<x4.1)) (.lf false) (.br (decide (wrap i64 i.Imm>x4.2)) (.lf false) (let T1:Tree (Bool):=.br (x0==1) (.br (i.A !=0) (.lf false) (.br (i.B==0) (.lf true) (.br (decide (x0>=2)) (.lf (decide (x0<=5))) (.lf false)))) (.br (i.B==0) (.lf true) (.br (decide (x0>=2)) (.lf (decide (x0<=5))) (.lf false)));.br (x0 !=2) (.br (i.C !=0) (.lf false) T1) T1))))))
def Q7v i:=(Qd9 i).m
def Z9z:Q09:=mS 153 [] true [.agg Q0f.sig] [] (λa r=>Qd9 (Q0f.of (aC a 0))) (λX=>.bool X) (λX=>[])
theorem Qqf:Q04 pG Z9z:=oS (.cons Qdp (.cons Qve (.cons Qo6 (.nil)))) Tryz.func153 Tryz.call153 [] [] 2
def Qep(i:Q0f):Tree (Int×Bool):=
.lv (Q7v i) λ(x0:Bool)=>.br (!x0) (.lf (0,false)) (.lf (ior u32 (ior u32 (ior u32 (ior u32 (ishl u32 (wrap u32 i.Op) 24) (ishl u32 (wrap u32 i.A) 20)) (ishl u32 (wrap u32 i.B) 16)) (iand u32 (wrap u32 i.Imm) 65535)) (wrap u32 i.C),true))
def Q19 i:=(Qep i).m
def Z55:Q09:=mS 96 [] true [.agg Q0f.sig] [] (λa r=>Qep (Q0f.of (aC a 0))) (λX=>.tup [.int .u32 (X.1),.bool (X.2)]) (λX=>[])
theorem Qib:Q04 pG Z55:=oS (.cons Qqf (.nil)) Tryz.func96 Tryz.call96 [] [] 2
def Z39:Tree (List Int):=
.lf ([1,2,3,4,5,6,7,8,9,10,11,12,13,16,16,17,18,19,20,21,22,23,24,24,32,32,33,34,35,35,36,40,41,42,43,44,45,48,49,56,57,58,59,60,60,61,61,62,63,64])
def Z5u:(List Int):=(Z39).m
def Zhj:Q09:=mS 156 [] true [] [] (λa r=>Z39) (λX=>.sl 1 (.ints .i64 X) true) (λX=>[])
theorem Zds:Q04 pG Zhj:=oS (.nil) Tryz.func156 Tryz.call156 [.sl (.ints .i64) true] [] 2
def Qzn(seed:Int):Tree (Int×Int):=
let E1:=wrap u64 (ixor u64 (wrap u64 (seed+11400714819323198485)) (ishr u64 (wrap u64 (seed+11400714819323198485)) 30)*13787848793156543929);let E2:=wrap u64 (ixor u64 E1 (ishr u64 E1 27)*10723151780598845931);.lf (ixor u64 E2 (ishr u64 E2 31),wrap u64 (seed+11400714819323198485))
def Za0 seed:=(Qzn seed).m
def Zda:Q09:=mS 116 [] true [.one (.int .u64)] [] (λa r=>Qzn (argI a 0)) (λX=>.tup [.int .u64 (X.1),.int .u64 (X.2)]) (λX=>[])
theorem Z9c:Q04 pG Zda:=oS (.nil) Tryz.func116 Tryz.call116 [] [] 2
def Z3m(n k:Int):Tree Int:=
.lv (Za0 (ixor u64 (wrap u64 n) (wrap u64 (wrap u64 k*11400714819323198485)))) λ(x0:Int×Int)=>.lf (wrap i64 (ishr u64 x0.1 1))
def Zfl n k:=(Z3m n k).m
def Zgw:Q09:=mS 58 [] true [.one (.int .i64),.one (.int .i64)] [] (λa r=>Z3m (argI a 0) (argI a 1)) (λX=>.int .i64 X) (λX=>[])
theorem Zec:Q04 pG Zgw:=oS (.cons Z9c (.nil)) Tryz.func58 Tryz.call58 [] [] 2
def Qly(n k:Int):Tree Int:=
.cn (decide (k≠0)) (.br (decide (dA n k<0)) (.lf (wrap i64 (dA n k+k))) (.lf (dA n k)))
def Q38 n k:=(Qly n k).m
abbrev Q2o n k:=(Qly n k).p
def Z9d:Q09:=mT 15 [] true [.one (.int .i64),.one (.int .i64)] [] (λa r=>Qly (argI a 0) (argI a 1)) (λX=>.int .i64 X) (λX=>[])
theorem Qjl:Q04 pG Z9d:=oT (.nil) Tryz.func15 Tryz.call15 [] [] 2
def Qk2(n:Int):Tree Q0f:=
.lv Z5u λ(x0:List Int)=>.lv (Zfl n 1) λ(x1:Int)=>.an (Q2o x1 (x0.length:Int)) (.lv (Q38 x1 (x0.length:Int)) λ(x2:Int)=>.cn (bT 1 1&&bJ 0 1&&decide (0<=x2/\x2<(x0.length:Int))) (.an (Q2o (ishr i64 x1 8) 6) (.lv (Q38 (ishr i64 x1 8) 6) λ(x3:Int)=>.an (Q2o (ishr i64 x1 12) 6) (.lv (Q38 (ishr i64 x1 12) 6) λ(x4:Int)=>.an (Q2o (ishr i64 x1 16) 6) (.lv (Q38 (ishr i64 x1 16) 6) λ(x5:Int)=>.an (Q2o (ishr i64 x1 20) 24) (.lv (Q38 (ishr i64 x1 20) 24) λ(x6:Int)=>.br (decide (x0.getD x2.toNat (0:Int)<=(13:Int))) (.lf ({Op:=x0.getD x2.toNat 0,A:=x3,B:=x4,C:=x5,Imm:=0})) (let E4:=({Op:=x0.getD x2.toNat 0,A:=x3,B:=x4,C:=0,Imm:=wrap i32 (wrap i64 (wrap i64 (8*x6)-32))}:Q0f);let T1:Tree (Q0f):=.br (x0.getD x2.toNat (0:Int)==(49:Int)) (.lf (E4)) (.br (x0.getD x2.toNat (0:Int)==(24:Int)) (.lf ({Op:=x0.getD x2.toNat 0,A:=x3,B:=0,C:=0,Imm:=wrap i32 (wrap i64 (x6*iand i64 (ishr i64 x1 40) 1))})) (let T2:Tree (Q0f):=let E6:=({Op:=x0.getD x2.toNat 0,A:=x3,B:=0,C:=0,Imm:=wrap i32 (dA x6 8)}:Q0f);.br (x0.getD x2.toNat (0:Int)==(58:Int)) (.lf (E6)) (.br (x0.getD x2.toNat (0:Int)==(59:Int)) (.lf (E6)) (let E5:=({Op:=x0.getD x2.toNat 0,A:=x3,B:=0,C:=0,Imm:=wrap i32 (dA x6 12)}:Q0f);.br (x0.getD x2.toNat (0:Int)==(60:Int)) (.lf (E5)) (.br (x0.getD x2.toNat (0:Int)==(61:Int)) (.lf (E5)) (.lf ({Op:=x0.getD x2.toNat 0,A:=0,B:=0,C:=0,Imm:=0})))));.br (decide (x0.getD x2.toNat (0:Int)>=(17:Int))) (.br (decide (x0.getD x2.toNat (0:Int)<=(22:Int))) (.lf ({Op:=x0.getD x2.toNat 0,A:=x3,B:=x4,C:=0,Imm:=wrap i32 x6})) T2) T2));let T3:Tree (Q0f):=.br (x0.getD x2.toNat (0:Int)==(16:Int)) (.lf (E4)) (.br (x0.getD x2.toNat (0:Int)==(23:Int)) (.lf (E4)) (.br (decide (x0.getD x2.toNat (0:Int)>=(32:Int))) (.br (decide (x0.getD x2.toNat (0:Int)<=(36:Int))) (.lf (E4)) T1) T1));.br (decide (x0.getD x2.toNat (0:Int)>=(40:Int))) (.br (decide (x0.getD x2.toNat (0:Int)<=(48:Int))) (.br (x0.getD x2.toNat (0:Int)==(48:Int)) (.lf ({Op:=x0.getD x2.toNat 0,A:=x3,B:=0,C:=0,Imm:=wrap i32 (wrap i64 (x6-12))})) (.lf ({Op:=x0.getD x2.toNat 0,A:=x3,B:=x4,C:=0,Imm:=wrap i32 (wrap i64 (x6-12))}))) T3) T3)))))))
def Z86 n:=(Qk2 n).m
abbrev Qeu n:=(Qk2 n).p
def Zc8:Q09:=mT 98 [] true [.one (.int .i64)] [] (λa r=>Qk2 (argI a 0)) (λX=>.agg (Q0f.cells X)) (λX=>[])
theorem Z92:Q04 pG Zc8:=oT (.cons Zds (.cons Zec (.cons Qjl (.nil)))) Tryz.func98 Tryz.call98 [] [] 2
def Qoh(l:List Int)(z:(Int)×(List Int)):Prop:=0<=z.1/\z.1<=l.length/\(z.2.length:Int)=z.1
def Qbq(l:List Int)(z:(Int)×(List Int)):Nat:=(l.length-z.1).toNat
def Qgw(l:List Int):Tree (List Int):=
.lp inferInstance (Qbq l (0,[])+1) ((((Els.Nil (Els.ints i64 l)\/rE (1:Nat))/\rE (l:List Int))/\True/\rE (0:Int)/\True)/\rE ([]:List Int)/\True) (0,[]) λ(v0:Int×List Int)=>.br (decide (v0.1<(l.length:Int))) (let E1:=bT 1 1&&bJ 0 1&&decide (0<=v0.1/\v0.1<(l.length:Int));.cn E1 (let E2:=decide (4*(v0.2.length+1)<=140737488355328);.br (dA (l.getD v0.1.toNat 0) (17:Int)==(0:Int)) (.cn E1 (.cn E2 (.nx ((((Els.Nil (Els.ints i64 l)\/rE (1:Nat))/\rE (l:List Int))/\True/\rE ((wrap i64 (v0.1+1)):Int)/\True)/\rE ((v0.2++[wrap u32 (iand i64 (l.getD v0.1.toNat 0) 4294967295)]):List Int)/\True) (Sum.inl (wrap i64 (v0.1+1),v0.2++[wrap u32 (iand i64 (l.getD v0.1.toNat 0) 4294967295)]))))) (.cn E1 (.an (Qeu (l.getD v0.1.toNat 0)) (.lv (Z86 (l.getD v0.1.toNat 0)) λ(x0:Q0f)=>.lv (Q19 x0) λ(x1:Int×Bool)=>.cn E2 (.nx ((((Els.Nil (Els.ints i64 l)\/rE (1:Nat))/\rE (l:List Int))/\True/\rE ((wrap i64 (v0.1+1)):Int)/\True)/\rE ((v0.2++[x1.1]):List Int)/\True) (Sum.inl (wrap i64 (v0.1+1),v0.2++[x1.1])))))))) (.lf (Sum.inr v0.2))
def Qld l:=(Qgw l).m
abbrev Qjp l:=(Qgw l).p
def Z94:LInv:={
 α:=(Int)×(List Int)
 F:=λst a=>([(0,(lk st 0)),(3,.all 0),(4,.int i64 a.1)],[⟨false,23,1,.ints u32 a.2⟩])
 a0:=λst=>((lk st 4).toInt,(Q80 st.rows (rN st 3)))
 ex0:=λst=>[]++[(rX st 3 0)]}
def Z1j:List (Nat×LInv):=[(3,Z94)]
def Zdi:Q09:=mT 50 [] true [.one (.ints .i64)] [] (λa r=>Qgw (argL .i64 a 0)) (λX=>.all 0) (λX=>[⟨false,23,1,.ints .u32 X⟩])
theorem Zbj:Q04 pG Zdi:=oT (.cons Qib (.cons Z92 (.nil))) Tryz.func50 Tryz.call50 [.row 23 1 (.ints .u32)] Z1j 3
def Qi0(pc:Int):Tree Q01:=
.lf ({X:={a0:=0,a1:=0,a2:=0,a3:=0,a4:=0,a5:=0,a6:=0,a7:=0,a8:=0,a9:=0,a10:=0,a11:=0,a12:=0,a13:=0,a14:=0,a15:=0},Pc:=pc,B3:={a0:=1,a1:=0,a2:=0,a3:=0,a4:=0,a5:=0,a6:=0,a7:=0}})
def Qna pc:=(Qi0 pc).m
def Zbu:Q09:=mS 99 [] true [.one (.int .u32)] [] (λa r=>Qi0 (argI a 0)) (λX=>.agg (Q01.cells X)) (λX=>[])
theorem Z7c:Q04 pG Zbu:=oS (.nil) Tryz.func99 Tryz.call99 [] [] 2
def Qip(pages:Int):Tree (List Int):=
.br (decide (pages<1)) (.lf ([])) (.br (decide (pages>32)) (.lf ([])) (.cn (bJ 0 1&&bT 1 1&&List.all [D.int u32 0] D.plain&&decide (0<=wrap i64 (pages*32)/\wrap i64 (pages*32)<=wrap i64 (pages*32)/\wrap i64 (pages*32)<=9223372036854775807/\(↑4:Int)*wrap i64 (pages*32)<=140737488355328)) (.lf (List.replicate (dB (wrap i64 (pages*32))) 0))))
def Qr2 pages:=(Qip pages).m
abbrev Qhg pages:=(Qip pages).p
def Zhi:Q09:=mT 100 [] true [.one (.int .i64)] [] (λa r=>Qip (argI a 0)) (λX=>.all 0) (λX=>[⟨false,23,1,.ints .u32 X⟩])
theorem Zcb:Q04 pG Zhi:=oT (.nil) Tryz.func100 Tryz.call100 [.row 23 1 (.ints .u32)] [] 2
def Qar(pages blocks:Int)(image:List Int):Tree (Q00×Bool):=
let T1:Tree ((Q00×Bool)):=.lf ({B2:={X:={a0:=0,a1:=0,a2:=0,a3:=0,a4:=0,a5:=0,a6:=0,a7:=0,a8:=0,a9:=0,a10:=0,a11:=0,a12:=0,a13:=0,a14:=0,a15:=0},Pc:=0,B3:={a0:=0,a1:=0,a2:=0,a3:=0,a4:=0,a5:=0,a6:=0,a7:=0}},Mem:=[],A2:={C9:=[]},A9:={D4:=false,C6:=0,D3:=false},B1:={Blocks:=0,B8:=0,Frame:=0,B7:=0,D5:=0,B4:=0,B0:=0,C0:=[]},C3:={Frame:=0,D8:=0,C2:=false,B6:=0,B5:=false,E0:=0},A0:={C5:=0,B9:=0},A4:=0,A3:=false,A6:=false},false);.br (decide (pages<1)) T1 (.br (decide (pages>32)) T1 (.br (decide (blocks<0)) T1 (.br (decide (blocks>64)) T1 (.br (decide ((image.length:Int)>wrap i64 (pages*32))) T1 (.lv (Qna 0) λ(x0:Q01)=>.an (Qhg pages) (.lv (Qr2 pages) λ(x1:List Int)=>.lf ({B2:=x0,Mem:=cW (Min.min (image.length) (x1.length)) image++cX (Min.min (image.length) (x1.length)) x1,A2:={C9:=[]},A9:={D4:=false,C6:=0,D3:=false},B1:={Blocks:=wrap u32 blocks,B8:=0,Frame:=0,B7:=0,D5:=0,B4:=0,B0:=0,C0:=[]},C3:={Frame:=0,D8:=0,C2:=false,B6:=0,B5:=false,E0:=0},A0:={C5:=0,B9:=0},A4:=0,A3:=false,A6:=false},true)))))))
def Q1l pages blocks image:=(Qar pages blocks image).m
abbrev Qde pages blocks image:=(Qar pages blocks image).p
def Zhv:Q09:=mT 51 [] true [.one (.int .i64),.one (.int .i64),.one (.ints .u32)] [] (λa r=>Qar (argI a 0) (argI a 1) (argL .u32 a 2)) (λX=>.tup [.agg (Q00.cellsW (X.1) (.all 0)),.bool (X.2)]) (λX=>[⟨false,23,1,.ints .u32 (X.1).Mem⟩])
theorem Zdh:Q04 pG Zhv:=oT (.cons Z7c (.cons Zcb (.nil))) Tryz.func51 Tryz.call51 [.row 23 1 (.ints .u32)] [] 2
