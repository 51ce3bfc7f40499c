import Derived.Test.YtoijmgbahaekiaaGreatTopJournalFh
import Derived.Test.YtoijmgbahaekiaaGreatTopJournalYx
open List renaming take->dU,drop->dV,length->dR,set->fF,getD->aK
open Int renaming toNat->dM,tmod->hZ
open UInt8 renaming toNat->iC
open Nat renaming blt->bK,beq->bV
set_option maxRecDepth 100000
set_option linter.all false
namespace Go.Proofs.YtoijmgbahaekiaaGreat
open Go Go.GD Go.IntKind
noncomputable section
def Q8x(m:Q00):Tree Bool:=
.an (Q5f m) (.lv (Qe5 m) λ(x0:Bool)=>.br x0 (.br (!m.B4) (.an (Q9g m) (.lv (Qjy m) λ(x1:Bool)=>.br (!x1) (.lf (decide (m.B6<1152921504606846976))) (.lf false))) (.lf false)) (.lf false))
def Qj m:=(Q8x m).m
abbrev Q9i m:=(Q8x m).p
def Qxq:Q09:=mT 126 [] true [.agg Q00.sig] [] (λa r=>Q8x (Q00.of (aC a 0))) (λX=>.bool X) (λX=>[])
theorem Qj7:Q05 pG Qxq:=oT (.cons Qbs (.cons Qj4 (.nil))) Tryz.func126 Tryz.call126 [] [] 2
def Qm6(m:Q00)(z:(Int)):Nat:=(5-z).toNat
def Q76(m:Q00):Tree Q00:=
let E1:=({A7:=m.A7,Mem:=m.Mem,B0:=m.B0,B7:=m.B7,B5:=m.B5,D6:=m.D6,A6:=m.A6,B6:=m.B6,B2:=false,B4:=m.B4}:Q00);.br (iand u32 m.A7.C6.a0 (2:Int)==(0:Int)) (.lf (E1)) (.an (Q5y E1) (.lv (Qe1 E1) λ(x0:Int)=>.lp inferInstance (Qm6 m 0+1) ((rZ/\rZ/\rE (x0:Int)/\rE (0:Int)/\True)/\(rE m.A7.X.a0/\rE m.A7.X.a1/\rE m.A7.X.a2/\rE m.A7.X.a3/\rE m.A7.X.a4/\rE m.A7.X.a5/\rE m.A7.X.a6/\rE m.A7.X.a7/\rE m.A7.X.a8/\rE m.A7.X.a9/\rE m.A7.X.a10/\rE m.A7.X.a11/\rE m.A7.X.a12/\rE m.A7.X.a13/\rE m.A7.X.a14/\rE m.A7.X.a15/\rE m.A7.Pc/\rE m.A7.C6.a0/\rE m.A7.C6.a1/\rE m.A7.C6.a2/\rE m.A7.C6.a3/\rE m.A7.C6.a4/\rE m.A7.C6.a5/\rE m.A7.C6.a6/\rE m.A7.C6.a7/\((Els.Nil (Els.ints u32 m.Mem)\/rE (1:Nat))/\rE m.Mem)/\rE m.B0.F0/\rE m.B7.F5/\rE m.B7.D1/\rE m.B7.F1/\rE m.B5.Blocks/\rE m.B5.C8/\rE m.B5.Frame/\rE m.B5.D5/\rE m.B5.Cmd/\rE m.B5.C4/\rE m.B5.C3/\rE m.B5.D0/\rE m.D6.Frame/\rE m.D6.Len/\rE m.D6.D4/\rE m.D6.D2/\rE m.D6.C2/\rE m.D6.Got/\rE m.A6.D9/\rE m.A6.E0/\rE m.B6/\rE (false:Bool)/\rE m.B4/\True)/\(mE zM True True)/\True) 0 λ(v0:Int)=>.br (decide (v0<5)) (.cn (decide (0<=v0)) (.br (iand u32 x0 (ishl u32 1 v0) !=0) (.lv (Qfu m.A7 (wrap i64 (16+v0)) 0) λ(x1:Q0e)=>.lf (Sum.inr {A7:=x1,Mem:=m.Mem,B0:=m.B0,B7:=m.B7,B5:=m.B5,D6:=m.D6,A6:=m.A6,B6:=m.B6,B2:=false,B4:=m.B4})) (.nx ((rZ/\rZ/\rE (x0:Int)/\rE ((wrap i64 (v0+1)):Int)/\True)/\(rE m.A7.X.a0/\rE m.A7.X.a1/\rE m.A7.X.a2/\rE m.A7.X.a3/\rE m.A7.X.a4/\rE m.A7.X.a5/\rE m.A7.X.a6/\rE m.A7.X.a7/\rE m.A7.X.a8/\rE m.A7.X.a9/\rE m.A7.X.a10/\rE m.A7.X.a11/\rE m.A7.X.a12/\rE m.A7.X.a13/\rE m.A7.X.a14/\rE m.A7.X.a15/\rE m.A7.Pc/\rE m.A7.C6.a0/\rE m.A7.C6.a1/\rE m.A7.C6.a2/\rE m.A7.C6.a3/\rE m.A7.C6.a4/\rE m.A7.C6.a5/\rE m.A7.C6.a6/\rE m.A7.C6.a7/\((Els.Nil (Els.ints u32 m.Mem)\/rE (1:Nat))/\rE m.Mem)/\rE m.B0.F0/\rE m.B7.F5/\rE m.B7.D1/\rE m.B7.F1/\rE m.B5.Blocks/\rE m.B5.C8/\rE m.B5.Frame/\rE m.B5.D5/\rE m.B5.Cmd/\rE m.B5.C4/\rE m.B5.C3/\rE m.B5.D0/\rE m.D6.Frame/\rE m.D6.Len/\rE m.D6.D4/\rE m.D6.D2/\rE m.D6.C2/\rE m.D6.Got/\rE m.A6.D9/\rE m.A6.E0/\rE m.B6/\rE (false:Bool)/\rE m.B4/\True)/\(mE zM True True)/\True) (Sum.inl (wrap i64 (v0+1)))))) (.lf (Sum.inr E1))))
def Qhv m:=(Q76 m).m
abbrev Q80 m:=(Q76 m).p
def Qse:LInv:={
 α:=(Int)
 F:=λst a=>([(1,.ptr 0 0 0),(2,.ptr 1 0 0),(3,(lk st 3)),(15,.int i64 a)],[⟨true,43,49,.gen [mB (cT st 1)]⟩,⟨true,43,49,.gen [mB (cT st 2)]⟩])
 a0:=λst=>(lk st 15).toInt
 ex0:=λst=>[]++[(rX st 1 0),(rX st 2 1)]}
def Qn7:List (Nat×LInv):=[(6,Qse)]
def Qw6:Q09:=Q09.fz<|mkP 127 [] false [.agg Q00.sig] [] (λa r=>Q80 (Q00.of (aC a 0))) (λa r=>Qhv (Q00.of (aC a 0))) (λX=>.agg (Q00.cells X)) (λX=>[])
theorem Qi3:Q05 pG Qw6:=fz_ok<|Q0o drawn Q0k (.cons Qfb (.cons Qem (.nil))) Tryz.func127 Tryz.call127 (λa r=>Q76 (Q00.of (aC a 0))) [.sl (.ints .u32) false] Qn7 3 (λ_ _ _=>by kernel_rfl) (λ_ _=>rfl) (λ_ _ h=>h) (λh=>by cases h)
def Qfe(c:Q0m)(port:Int):Tree (Q0m×Int):=
.br (port==0) (.br (decide (c.F0=[])) (.lf (c,4294967295)) (.cn (decide ((0:Int)<=(0:Int)/\0<(c.F0.length:Int))) (.cn (decide ((0:Int)<=(1:Int)/\1<=(c.F0.length:Int)/\(c.F0.length:Int)<=(c.F0.length:Int))) (.lf ({F0:=dU (dM (c.F0.length:Int)-dM 1) (dV (dM 1) c.F0)},wrap u32 (↑(iC (c.F0.getD (dM 0) (0:UInt8))):Int)))))) (.br (port==1) (.lf (c,wrap u32 (c.F0.length:Int))) (.lf (c,0)))
def Z0i c port:=(Qfe c port).m
theorem Qxp(c:Q0m)(port:Int):(Qfe c port).p:=by
 unfold Tree.p Qfe
 repeat'(first|exact trivial|refine w_br (λ_=>?_) (λ_=>?_)|refine w_cn ?_ ?_|refine w_an ?_ ?_|refine w_lv (λ_ _=>?_)|refine w_nx ?_|refine w_lf ?_|refine And.intro ?_ ?_)
 all_goals(exact fin0)
def Z6m:Q09:=mS 229 [] true [.agg Q0m.sig,.one (.int .i64)] [] (λa r=>Qfe (Q0m.of (aC a 0)) (argI a 1)) (λX=>.tup [.agg (Q0m.cells (X.1)),.int .u32 (X.2)]) (λX=>[])
theorem Z2e:Q05 pG Z6m:=oS (.nil) Tryz.func229 Tryz.call229 [] [] 2 (λ_ _ _=>by kernel_rfl) (λa r=>Qxp (Q0m.of (aC a 0)) (argI a 1)) (λ_ X=>by kernel_rfl)
def Z0f(t:Q14):Tree Int:=
.br t.F1 (.lf 1) (.lf 0)
def Z9w t:=(Z0f t).m
def Zak:Q09:=mS 230 [] true [.agg Q14.sig] [] (λa r=>Z0f (Q14.of (aC a 0))) (λX=>.int .u32 X) (λX=>[])
theorem Z7:Q05 pG Zak:=oS (.nil) Tryz.func230 Tryz.call230 [] [] 2
def Z45(d0:Q0l)(port:Int):Tree Int:=
.br (port==4) (.lf d0.C8) (.br (port==5) (.lf d0.Frame) (.br (port==6) (.lf (wrap u32 d0.D5)) (.lf 0)))
def Z2p d0 port:=(Z45 d0 port).m
def zt:Q09:=mS 231 [] true [.agg Q0l.sig,.one (.int .i64)] [] (λa r=>Z45 (Q0l.of (aC a 0)) (argI a 1)) (λX=>.int .u32 X) (λX=>[])
theorem Zan:Q05 pG zt:=oS (.nil) Tryz.func231 Tryz.call231 [] [] 2
def Zaa(n:Q1f)(port:Int):Tree Int:=
.br (port==7) (.lf n.Frame) (.br (port==8) (.lf n.Got) (.br (port==9) (.br n.D4 (.br n.C2 (.lf (wrap u32 (wrap u32 ((0:Int)+(1:Int))+2))) (.lf (wrap u32 ((0:Int)+(1:Int))))) (.br n.C2 (.lf (wrap u32 ((0:Int)+(2:Int)))) (.lf 0))) (.lf 0)))
def Z9x n port:=(Zaa n port).m
def vH:Q09:=mS 232 [] true [.agg Q1f.sig,.one (.int .i64)] [] (λa r=>Zaa (Q1f.of (aC a 0)) (argI a 1)) (λX=>.int .u32 X) (λX=>[])
theorem yt:Q05 pG vH:=oS (.nil) Tryz.func232 Tryz.call232 [] [] 2
def Qc5(b:Q0f)(port:Int):Tree Int:=
.br (port==10) (.lf b.D9) (.br (port==11) (.an (Q8h b) (.lv (Qhd b) λ(x0:Int)=>.lf (wrap u32 x0))) (.lf 0))
def Qzy b port:=(Qc5 b port).m
abbrev Qg3 b port:=(Qc5 b port).p
def Z5n:Q09:=mT 233 [] true [.agg Q0f.sig,.one (.int .i64)] [] (λa r=>Qc5 (Q0f.of (aC a 0)) (argI a 1)) (λX=>.int .u32 X) (λX=>[])
theorem Z2q:Q05 pG Z5n:=oT (.cons Qi1 (.nil)) Tryz.func233 Tryz.call233 [] [] 2
def Q4k(m:Q00)(port clock:Int):Tree (Q00×Int):=
let T1:Tree ((Q00×Int)):=.lv (Z0i m.B0 port) λ(x0:Q0m×Int)=>.lf ({A7:=m.A7,Mem:=m.Mem,B0:=x0.1,B7:=m.B7,B5:=m.B5,D6:=m.D6,A6:=m.A6,B6:=m.B6,B2:=m.B2,B4:=m.B4},x0.2);.br (port==0) T1 (.br (port==1) T1 (.br (port==2) (.lf (m,clock)) (.br (port==3) (.lv (Z9w m.B7) λ(x2:Int)=>.lf (m,x2)) (.br (port==4) (.lv (Z2p m.B5 port) λ(x3:Int)=>.lf (m,x3)) (.br (port==5) (.lv (Z2p m.B5 port) λ(x4:Int)=>.lf (m,x4)) (.br (port==6) (.lv (Z2p m.B5 port) λ(x5:Int)=>.lf (m,x5)) (.br (port==7) (.lv (Z9x m.D6 port) λ(x6:Int)=>.lf (m,x6)) (.br (port==8) (.lv (Z9x m.D6 port) λ(x7:Int)=>.lf (m,x7)) (.br (port==9) (.lv (Z9x m.D6 port) λ(x8:Int)=>.lf (m,x8)) (let T2:Tree ((Q00×Int)):=.an (Qg3 m.A6 port) (.lv (Qzy m.A6 port) λ(x9:Int)=>.lf (m,x9));.br (port==10) T2 (.br (port==11) T2 (.lf (m,0)))))))))))))
def Qie m port clock:=(Q4k m port clock).m
abbrev Q8q m port clock:=(Q4k m port clock).p
def Qo:Q09:=Q09.fz<|mkP 129 [] false [.agg Q00.sig,.one (.int .i64),.one (.int .u32)] [] (λa r=>Q8q (Q00.of (aC a 0)) (argI a 1) (argI a 2)) (λa r=>Qie (Q00.of (aC a 0)) (argI a 1) (argI a 2)) (λX=>.tup [.agg (Q00.cells (X.1)),.int .u32 (X.2)]) (λX=>[])
theorem Qml:Q05 pG Qo:=fz_ok<|Q0o drawn Q0k (.cons Z2e (.cons Z7 (.cons Zan (.cons yt (.cons Z2q (.nil)))))) Tryz.func129 Tryz.call129 (λa r=>Q4k (Q00.of (aC a 0)) (argI a 1) (argI a 2)) [.sl (.ints .u32) false] [] 2 (λ_ _ _=>by kernel_rfl) (λ_ _=>rfl) (λ_ _ h=>h) (λh=>by cases h)
def Qvg(t:Q14)(deadline:Int):Tree Q14:=
.lf ({F5:=deadline !=0,D1:=deadline,F1:=false})
def Z40 t deadline:=(Qvg t deadline).m
def Z8i:Q09:=mS 234 [] true [.agg Q14.sig,.one (.int .u32)] [] (λa r=>Qvg (Q14.of (aC a 0)) (argI a 1)) (λX=>.agg (Q14.cells X)) (λX=>[])
theorem Z4m:Q05 pG Z8i:=oS (.nil) Tryz.func234 Tryz.call234 [] [] 2
def Qoe(m:List Int)(frame:Int):Tree Bool:=
.lv (Q4x m) λ(x0:Int)=>.lf (decide (wrap u64 frame<wrap u64 x0))
def Qly m frame:=(Qoe m frame).m
def Z1t:Q09:=mS 334 [] true [.one (.ints .u32),.one (.int .u32)] [] (λa r=>Qoe (argL .u32 a 0) (argI a 1)) (λX=>.bool X) (λX=>[])
theorem Qlv:Q05 pG Z1t:=oS (.cons Q3a (.nil)) Tryz.func334 Tryz.call334 [] [] 2
def Qi6(m:List Int)(frame:Int):Tree Bool:=
.br (decide (frame>=0)) (.lv (Q4x m) λ(x0:Int)=>.lf (decide (frame<x0))) (.lf false)
def Qg1 m frame:=(Qi6 m frame).m
def Qtf:Q09:=mS 117 [] true [.one (.ints .u32),.one (.int .i64)] [] (λa r=>Qi6 (argL .u32 a 0) (argI a 1)) (λX=>.bool X) (λX=>[])
theorem Qh:Q05 pG Qtf:=oS (.cons Q3a (.nil)) Tryz.func117 Tryz.call117 [] [] 2
def Qi2(words:List Int)(z:(Int)×(List Int)):Prop:=0<=z.1/\z.1<=words.length/\(z.2.length:Int)=4*z.1
def Qb(words:List Int)(z:(Int)×(List Int)):Nat:=(words.length-z.1).toNat
def Qde(words:List Int):Tree (List UInt8):=
.cn (bK 0 1&&bV 1 1&&List.all [D.int u8 0] D.plain&&decide ((0:Int)<=(0:Int)/\0<=wrap i64 (4*(words.length:Int))/\wrap i64 (4*(words.length:Int))<=9223372036854775807/\(↑1:Int)*wrap i64 (4*(words.length:Int))<=140737488355328)) (.lp inferInstance (Qb words (0,[])+1) ((True/\((Els.Nil (Els.ints u32 words)\/rE (1:Nat))/\rE (words:List Int))/\rE ((words.length:Int):Int)/\rE (0:Int)/\True)/\rE ([]:List Int)/\True) (0,[]) λ(v0:Int×List Int)=>.br (decide (v0.1<(words.length:Int))) (.cn (bV 1 1&&bK 0 1&&decide (0<=v0.1/\v0.1<(words.length:Int))) (.cn (decide (1*(v0.2.length+4)<=140737488355328)) (let E1:=words.getD v0.1.toNat 0;.nx ((True/\((Els.Nil (Els.ints u32 words)\/rE (1:Nat))/\rE (words:List Int))/\rE ((words.length:Int):Int)/\rE ((wrap i64 (v0.1+1)):Int)/\True)/\rE ((v0.2++[wrap u8 (words.getD v0.1.toNat 0),wrap u8 (ishr u32 (words.getD v0.1.toNat 0) 8),wrap u8 (ishr u32 (words.getD v0.1.toNat 0) 16),wrap u8 (ishr u32 (words.getD v0.1.toNat 0) 24)]):List Int)/\True) (Sum.inl (wrap i64 (v0.1+1),v0.2++[wrap u8 E1,wrap u8 (ishr u32 E1 8),wrap u8 (ishr u32 E1 16),wrap u8 (ishr u32 E1 24)]))))) (.lf (Sum.inr (bytesOf v0.2))))
def Qv9 words:=(Qde words).m
def Q43(words:List Int):Prop:=
words.length<=1000000000000
theorem Qx(words:List Int)(hw:Q43 words):(Qde words).p:=by
 simp only[Q43]at hw
 unfold Tree.p Qde
 repeat'(first|refine w_lp (inv:=Qi2 words) (μ:=Qb words) ?_ (Nat.lt_succ_self _) (λ_ _=>?_)|exact trivial|refine w_br (λ_=>?_) (λ_=>?_)|refine w_cn ?_ ?_|refine w_an ?_ ?_|refine w_lv (λ_ _=>?_)|refine w_nx ?_|refine w_lf ?_|refine And.intro ?_ ?_)
 all_goals((try simp only[Qi2,Qb]at*);exact fin0)
def Qya:LInv:={
 α:=(Int)×(List Int)
 F:=λst a=>([(3,.all 0),(10,(lk st 10)),(11,(lk st 11)),(12,.int i64 a.1)],[⟨false,5,1,.ints u8 a.2⟩])
 a0:=λst=>((lk st 12).toInt,(Qfh st.rows (rN st 3)))
 ex0:=λst=>[]++[(rX st 3 0)]}
def Qt1:List (Nat×LInv):=[(3,Qya)]
def Z1v:Q09:=mkP 118 [] true [.one (.ints .u32)] [] (λa r=>Q43 (argL .u32 a 0)) (λa r=>Qv9 (argL .u32 a 0)) (λX=>.str X) (λX=>[])
theorem Qyd:Q05 pG Z1v:=Q0o drawn Q0k (.nil) Tryz.func118 Tryz.call118 (λa r=>Qde (argL .u32 a 0)) [] Qt1 3 (hp:=λa r h=>Qx (argL .u32 a 0) h)
def Qa6(m:List Int)(frame:Int):Tree ((List UInt8)×Bool):=
.lv (Qg1 m frame) λ(x0:Bool)=>.br (!x0) (.lf ([],false)) (.cn (bV 1 1&&bK 0 1&&decide (0<=wrap i64 (frame*32)/\wrap i64 (frame*32)<=wrap i64 (wrap i64 (frame*32)+32)/\wrap i64 (wrap i64 (frame*32)+32)<=(m.length:Int))) (let E1:=dU (dM (wrap i64 (wrap i64 (frame*32)+32))-dM (wrap i64 (frame*32))) (dV (dM (wrap i64 (frame*32))) m);.an (Q43 E1) (.lv (Qv9 E1) λ(x1:List UInt8)=>.lf (x1,true))))
def Qhw m frame:=(Qa6 m frame).m
abbrev Q79 m frame:=(Qa6 m frame).p
def Z3f:Q09:=mT 41 [] true [.one (.ints .u32),.one (.int .i64)] [] (λa r=>Qa6 (argL .u32 a 0) (argI a 1)) (λX=>.tup [.str (X.1),.bool (X.2)]) (λX=>[])
theorem Qg6:Q05 pG Z3f:=oT (.cons Qh (.cons Qyd (.nil))) Tryz.func41 Tryz.call41 [] [] 2
def Qld(d0:Q0l)(at0:Int):Tree (Q0n×Bool):=
.br (d0.D5 !=1) (.lf ({C5:=0,At:=0,C8:=0,F6:=[]},false)) (.br (d0.Cmd==1) (.lf ({C5:=3,At:=at0,C8:=d0.C4,F6:=[]},true)) (.br (d0.Cmd==2) (.lf ({C5:=4,At:=at0,C8:=d0.C4,F6:=d0.D0},true)) (.lf ({C5:=0,At:=0,C8:=0,F6:=[]},false))))
def Qk d0 at0:=(Qld d0 at0).m
def Qyi:Q09:=mS 390 [] true [.agg Q0l.sig,.one (.int .u64)] [] (λa r=>Qld (Q0l.of (aC a 0)) (argI a 1)) (λX=>.tup [.agg (Q0n.cells (X.1)),.bool (X.2)]) (λX=>[])
theorem Qu0:Q05 pG Qyi:=oS (.nil) Tryz.func390 Tryz.call390 [] [] 2
def Qcf(d0:Q0l)(m:List Int)(cmd at0:Int):Tree (Q0l×(List Q0n)):=
.br (d0.D5 !=0) (.lf (d0,[])) (let T1:Tree ((Q0l×(List Q0n))):=.lf ({Blocks:=d0.Blocks,C8:=d0.C8,Frame:=d0.Frame,D5:=3,Cmd:=d0.Cmd,C4:=d0.C4,C3:=d0.C3,D0:=d0.D0},[]);.br (decide (d0.C8>=d0.Blocks)) T1 (.lv (Qly m d0.Frame) λ(x0:Bool)=>.br (!x0) T1 (.br (cmd==2) (.an (Q79 m (wrap i64 d0.Frame)) (.lv (Qhw m (wrap i64 d0.Frame)) λ(x1:List UInt8×Bool)=>let E2:=({Blocks:=d0.Blocks,C8:=d0.C8,Frame:=d0.Frame,D5:=1,Cmd:=cmd,C4:=d0.C8,C3:=d0.Frame,D0:=x1.1}:Q0l);.lv (Qk E2 at0) λ(x2:Q0n×Bool)=>.lf (E2,[x2.1]))) (let E3:=({Blocks:=d0.Blocks,C8:=d0.C8,Frame:=d0.Frame,D5:=1,Cmd:=cmd,C4:=d0.C8,C3:=d0.Frame,D0:=[]}:Q0l);.lv (Qk E3 at0) λ(x3:Q0n×Bool)=>.lf (E3,[x3.1])))))
def Z0x d0 m cmd at0:=(Qcf d0 m cmd at0).m
abbrev Qg2 d0 m cmd at0:=(Qcf d0 m cmd at0).p
def Z5i:Q09:=mT 329 [] true [.agg Q0l.sig,.one (.ints .u32),.one (.int .i64),.one (.int .u64)] [] (λa r=>Qcf (Q0l.of (aC a 0)) (argL .u32 a 1) (argI a 2) (argI a 3)) (λX=>.tup [.agg (Q0l.cells (X.1)),.sl 4 (.recs .apiOutput (X.2)) true]) (λX=>[])
theorem Z1m:Q05 pG Z5i:=oT (.cons Qlv (.cons Qg6 (.cons Qu0 (.nil)))) Tryz.func329 Tryz.call329 [.sl (.recs .apiOutput) true] [] 2
def Qh1(d0:Q0l)(m:List Int)(port v at0:Int):Tree (Q0l×(List Q0n)):=
.br (port==4) (.lf ({Blocks:=d0.Blocks,C8:=v,Frame:=d0.Frame,D5:=d0.D5,Cmd:=d0.Cmd,C4:=d0.C4,C3:=d0.C3,D0:=d0.D0},[])) (.br (port==5) (.lf ({Blocks:=d0.Blocks,C8:=d0.C8,Frame:=v,D5:=d0.D5,Cmd:=d0.Cmd,C4:=d0.C4,C3:=d0.C3,D0:=d0.D0},[])) (.br (port==6) (let T1:Tree ((Q0l×(List Q0n))):=.an (Qg2 d0 m (wrap i64 v) at0) (.lv (Z0x d0 m (wrap i64 v) at0) λ(x0:Q0l×List Q0n)=>.lf (x0.1,x0.2));.br (v==1) T1 (.br (v==2) T1 (.br (v==0) (.lv (Qix d0) λ(x2:Bool)=>.br x2 (.lf ({Blocks:=d0.Blocks,C8:=d0.C8,Frame:=d0.Frame,D5:=0,Cmd:=d0.Cmd,C4:=d0.C4,C3:=d0.C3,D0:=d0.D0},[])) (.lf (d0,[]))) (.lf (d0,[]))))) (.lf (d0,[]))))
def Z9z d0 m port v at0:=(Qh1 d0 m port v at0).m
abbrev Qk0 d0 m port v at0:=(Qh1 d0 m port v at0).p
def Zbh:Q09:=mT 235 [] true [.agg Q0l.sig,.one (.ints .u32),.one (.int .i64),.one (.int .u32),.one (.int .u64)] [] (λa r=>Qh1 (Q0l.of (aC a 0)) (argL .u32 a 1) (argI a 2) (argI a 3) (argI a 4)) (λX=>.tup [.agg (Q0l.cells (X.1)),.sl 4 (.recs .apiOutput (X.2)) true]) (λX=>[])
theorem Z7v:Q05 pG Zbh:=oT (.cons Z1m (.cons Qk8 (.nil))) Tryz.func235 Tryz.call235 [.sl (.recs .apiOutput) true] [] 2
def Qrg(m:List Int)(frame:Int):Tree Bool:=
.lv (Q4x m) λ(x0:Int)=>.lf (decide (wrap u64 frame<wrap u64 x0))
def Qkr m frame:=(Qrg m frame).m
def Z43:Q09:=mS 332 [] true [.one (.ints .u32),.one (.int .u32)] [] (λa r=>Qrg (argL .u32 a 0) (argI a 1)) (λX=>.bool X) (λX=>[])
theorem Qhl:Q05 pG Z43:=oS (.cons Q3a (.nil)) Tryz.func332 Tryz.call332 [] [] 2
def Qgq(n:Q1f)(m:List Int)(at0:Int):Tree (List Q0n):=
.br (decide (n.Len<1)) (.lf ([])) (.br (decide (n.Len>128)) (.lf ([])) (.lv (Qkr m n.Frame) λ(x0:Bool)=>.br (!x0) (.lf ([])) (.an (Q79 m (wrap i64 n.Frame)) (.lv (Qhw m (wrap i64 n.Frame)) λ(x1:List UInt8×Bool)=>.cn (decide ((0:Int)<=(0:Int)/\0<=n.Len/\n.Len<=(x1.1.length:Int))) (.lf ([{C5:=2,At:=at0,C8:=0,F6:=dU (dM n.Len-dM 0) (dV (dM 0) x1.1)}]))))))
def Z8o n m at0:=(Qgq n m at0).m
abbrev Qjj n m at0:=(Qgq n m at0).p
def Zao:Q09:=mT 331 [] true [.agg Q1f.sig,.one (.ints .u32),.one (.int .u64)] [] (λa r=>Qgq (Q1f.of (aC a 0)) (argL .u32 a 1) (argI a 2)) (λX=>.sl 4 (.recs .apiOutput X) true) (λX=>[])
theorem Z85:Q05 pG Zao:=oT (.cons Qhl (.cons Qg6 (.nil))) Tryz.func331 Tryz.call331 [.sl (.recs .apiOutput) true] [] 2
def Qit(n:Q1f)(m:List Int)(port v at0:Int):Tree (Q1f×(List Q0n)):=
.br (port==7) (.lf ({Frame:=v,Len:=n.Len,D4:=n.D4,D2:=n.D2,C2:=n.C2,Got:=n.Got},[])) (.br (port==8) (.lf ({Frame:=n.Frame,Len:=v,D4:=n.D4,D2:=n.D2,C2:=n.C2,Got:=n.Got},[])) (.br (port==9) (.br (v==1) (.an (Qjj n m at0) (.lv (Z8o n m at0) λ(x0:List Q0n)=>.lf (n,x0))) (.br (v==2) (.lv (Qkr m n.Frame) λ(x1:Bool)=>.br x1 (.br (!n.D4) (.br (!n.C2) (.lf ({Frame:=n.Frame,Len:=n.Len,D4:=true,D2:=n.Frame,C2:=n.C2,Got:=n.Got},[])) (.lf (n,[]))) (.lf (n,[]))) (.lf (n,[]))) (.br (v==0) (.lf ({Frame:=n.Frame,Len:=n.Len,D4:=n.D4,D2:=n.D2,C2:=false,Got:=0},[])) (.lf (n,[]))))) (.lf (n,[]))))
def vt n m port v at0:=(Qit n m port v at0).m
abbrev Qmp n m port v at0:=(Qit n m port v at0).p
def qu:Q09:=mT 236 [] true [.agg Q1f.sig,.one (.ints .u32),.one (.int .i64),.one (.int .u32),.one (.int .u64)] [] (λa r=>Qit (Q1f.of (aC a 0)) (argL .u32 a 1) (argI a 2) (argI a 3) (argI a 4)) (λX=>.tup [.agg (Q1f.cells (X.1)),.sl 4 (.recs .apiOutput (X.2)) true]) (λX=>[])
theorem Zc3:Q05 pG qu:=oT (.cons Z85 (.cons Qhl (.nil))) Tryz.func236 Tryz.call236 [.sl (.recs .apiOutput) true] [] 2
def Qkx(m:List Int)(frame:Int)(s:List UInt8)(z:(Int)×(List Int)):Nat:=(32-z.1).toNat
def Q6k(m:List Int)(frame:Int)(s:List UInt8):Tree ((List Int)×Bool):=
.an (Q08 m) (.lv (Q0b m) λ(x0:List Int)=>.lv (Qg1 m frame) λ(x1:Bool)=>.br (!x1) (.lf (x0,false)) (.br ((s.length:Int) !=(128:Int)) (.lf (x0,false)) (.lp inferInstance (Qkx m frame s (0,x0)+1) ((rE (s:List UInt8)/\True/\rE ((wrap i64 (frame*32)):Int)/\rE (0:Int)/\True)/\rE (x0:List Int)/\True) (0,x0) λ(v0:Int×List Int)=>.br (decide (v0.1<32)) (.cn (decide (0<=wrap i64 (4*v0.1)/\wrap i64 (4*v0.1)<=wrap i64 (wrap i64 (4*v0.1)+4)/\wrap i64 (wrap i64 (4*v0.1)+4)<=(s.length:Int))) (let E1:=dU (dM (wrap i64 (wrap i64 (4*v0.1)+4))-dM (wrap i64 (4*v0.1))) (dV (dM (wrap i64 (4*v0.1))) s);.cn (decide ((0:Int)<=(0:Int)/\0<(↑(dR E1):Int))) (.cn (decide ((0:Int)<=(1:Int)/\1<(↑(dR E1):Int))) (.cn (decide ((0:Int)<=(2:Int)/\2<(↑(dR E1):Int))) (.cn (decide ((0:Int)<=(3:Int)/\3<(↑(dR E1):Int))) (.cn (bV 1 1&&bK 0 1&&decide (0<=wrap i64 (wrap i64 (frame*32)+v0.1)/\wrap i64 (wrap i64 (frame*32)+v0.1)<(v0.2.length:Int))) (.nx ((rE (s:List UInt8)/\True/\rE ((wrap i64 (frame*32)):Int)/\rE ((wrap i64 (v0.1+1)):Int)/\True)/\rE ((fF v0.2 (dM (wrap i64 (wrap i64 (frame*32)+v0.1))) (ior u32 (ior u32 (ior u32 (wrap u32 (↑(iC (aK (dU (dM (wrap i64 (wrap i64 (4*v0.1)+4))-dM (wrap i64 (4*v0.1))) (dV (dM (wrap i64 (4*v0.1))) s)) (dM 0) (0:UInt8))):Int)) (ishl u32 (wrap u32 (↑(iC (aK (dU (dM (wrap i64 (wrap i64 (4*v0.1)+4))-dM (wrap i64 (4*v0.1))) (dV (dM (wrap i64 (4*v0.1))) s)) (dM 1) (0:UInt8))):Int)) 8)) (ishl u32 (wrap u32 (↑(iC (aK (dU (dM (wrap i64 (wrap i64 (4*v0.1)+4))-dM (wrap i64 (4*v0.1))) (dV (dM (wrap i64 (4*v0.1))) s)) (dM 2) (0:UInt8))):Int)) 16)) (ishl u32 (wrap u32 (↑(iC (aK (dU (dM (wrap i64 (wrap i64 (4*v0.1)+4))-dM (wrap i64 (4*v0.1))) (dV (dM (wrap i64 (4*v0.1))) s)) (dM 3) (0:UInt8))):Int)) 24))):List Int)/\True) (Sum.inl (wrap i64 (v0.1+1),fF v0.2 (dM (wrap i64 (wrap i64 (frame*32)+v0.1))) (ior u32 (ior u32 (ior u32 (wrap u32 (↑(iC (aK E1 (dM 0) (0:UInt8))):Int)) (ishl u32 (wrap u32 (↑(iC (aK E1 (dM 1) (0:UInt8))):Int)) 8)) (ishl u32 (wrap u32 (↑(iC (aK E1 (dM 2) (0:UInt8))):Int)) 16)) (ishl u32 (wrap u32 (↑(iC (aK E1 (dM 3) (0:UInt8))):Int)) 24))))))))))) (.lf (Sum.inr (v0.2,true))))))
def Qbq m frame s:=(Q6k m frame s).m
abbrev Q4l m frame s:=(Q6k m frame s).p
def Qqv:LInv:={
 α:=(Int)×(List Int)
 F:=λst a=>([(2,(lk st 2)),(8,.all 0),(9,(lk st 9)),(26,.int i64 a.1)],[⟨false,25,1,.ints u32 a.2⟩])
 a0:=λst=>((lk st 26).toInt,(Qfh st.rows (rN st 8)))
 ex0:=λst=>[]++[(rX st 8 0)]}
def Qmn:List (Nat×LInv):=[(6,Qqv)]
def Qt4:Q09:=mT 333 [] true [.one (.ints .u32),.one (.int .i64),.one (.str)] [] (λa r=>Q6k (argL .u32 a 0) (argI a 1) (argS a 2)) (λX=>.tup [.all 0,.bool (X.2)]) (λX=>[⟨false,25,1,.ints .u32 (X.1)⟩])
theorem Qb2:Q05 pG Qt4:=oT (.cons Q0s (.cons Qh (.nil))) Tryz.func333 Tryz.call333 [.row 25 1 (.ints .u32)] Qmn 3
def strings_Repeat(s:List UInt8)(count:Int):(List UInt8):=
Lib.repeatL s count.toNat
def Q3d(s:List UInt8)(count:Int):Prop:=
0<=count/\count<=9223372036854775807/\s.length*count.toNat<=140737488355328
def Qf(s:List UInt8)(count:Int):List D:=[.str s,.int .i64 count]
def Qe0(s:List UInt8)(count:Int):List Row:=[]
def Qai(X:List UInt8):D:=.str X
def Qac(X:List UInt8):List Row:=[]
def Qf6:List PT:=[.one (.str),.one (.int .i64)]
def Qe9:List RT:=[]
def Qoo(args:List D)(rows:List Row):(List UInt8):=strings_Repeat (argS args 0) (argI args 1)
def Qny(args:List D)(rows:List Row):Prop:=Q3d (argS args 0) (argI args 1)
def Qsx:Q09:=mkP 60 [] true Qf6 Qe9 Qny Qoo Qai Qac
theorem Qkz(s:List UInt8)(count:Int)(hw:Q3d s count):Q2f pG 60 (Qf s count) (Qe0 s count) (Qai (strings_Repeat s count)) (Qac (strings_Repeat s count)):=by
 exact qe Tryz.strings_Repeat hw.1 hw.2.1 hw.2.2
set_option maxRecDepth 100000 in
theorem Qm2(args:List D)(rows:List Row):Qc8 Qf6 args 0=Qf (argS args 0) (argI args 1):=by kernel_rfl
set_option maxRecDepth 100000 in
theorem Ql5(args:List D)(rows:List Row):Q4d Qe9 rows 0=Qe0 (argS args 0) (argI args 1):=by kernel_rfl
set_option maxRecDepth 100000 in
theorem Qqj(X:List UInt8):(ffB (Qai X)&&ffBR (Qac X))=true:=by kernel_rfl
theorem Qp3:Q05 pG Qsx:=Qxh Tryz.call60 (λargs rows hp=>by rw[Qm2 args rows,Ql5 args rows];exact Qkz (argS args 0) (argI args 1) hp) (λ_ X=>Qqj X)
def Qa2(b:Q0f)(m:List Int)(port v:Int):Tree (Q0f×(List Int)):=
let T1:Tree ((Q0f×(List Int))):=.an (Q08 m) (.lv (Q0b m) λ(x0:List Int)=>.lf (b,x0));.br (decide (v>=32)) T1 (.cn (decide (0<=v)) (.br (port==10) (.lv (Q4x m) λ(x1:Int)=>.br (decide (wrap i64 v<x1)) (.br (iand u32 b.E0 (ishl u32 1 v)==0) (.an (Q3d [(0:UInt8)] 128) (.lv (strings_Repeat [(0:UInt8)] 128) λ(x2:List UInt8)=>.an (Q4l m (wrap i64 v) x2) (.lv (Qbq m (wrap i64 v) x2) λ(x3:List Int×Bool)=>.lf ({D9:=b.D9,E0:=ior u32 b.E0 (ishl u32 1 v)},x3.1)))) T1) T1) (.br (port==11) (.an (Q08 m) (.lv (Q0b m) λ(x6:List Int)=>.lf ({D9:=b.D9,E0:=Zbq u32 b.E0 (ishl u32 1 v)},x6))) T1)))
def Qw7 b m port v:=(Qa2 b m port v).m
abbrev Qdu b m port v:=(Qa2 b m port v).p
def Z26:Q09:=mT 237 [] true [.agg Q0f.sig,.one (.ints .u32),.one (.int .i64),.one (.int .u32)] [] (λa r=>Qa2 (Q0f.of (aC a 0)) (argL .u32 a 1) (argI a 2) (argI a 3)) (λX=>.tup [.agg (Q0f.cells (X.1)),.all 0]) (λX=>[⟨false,25,1,.ints .u32 (X.2)⟩])
theorem Qxz:Q05 pG Z26:=oT (.cons Q0s (.cons Q3a (.cons Qb2 (.cons Qp3 (.nil))))) Tryz.func237 Tryz.call237 [.row 25 1 (.ints .u32)] [] 2
def Q42(m:Q00)(port v at0:Int):Tree (Q00×(List Q0n)):=
.br (port==0) (.lf (m,[{C5:=1,At:=at0,C8:=0,F6:=[(λ(n:Int)=>UInt8.ofNat n.toNat) (wrap u8 v)]}])) (.br (port==3) (.lv (Z40 m.B7 v) λ(x0:Q14)=>.lf ({A7:=m.A7,Mem:=m.Mem,B0:=m.B0,B7:=x0,B5:=m.B5,D6:=m.D6,A6:=m.A6,B6:=m.B6,B2:=m.B2,B4:=m.B4},[])) (let T1:Tree ((Q00×(List Q0n))):=.an (Qk0 m.B5 m.Mem port v at0) (.lv (Z9z m.B5 m.Mem port v at0) λ(x1:Q0l×List Q0n)=>.lf ({A7:=m.A7,Mem:=m.Mem,B0:=m.B0,B7:=m.B7,B5:=x1.1,D6:=m.D6,A6:=m.A6,B6:=m.B6,B2:=m.B2,B4:=m.B4},x1.2));.br (port==4) T1 (.br (port==5) T1 (.br (port==6) T1 (let T2:Tree ((Q00×(List Q0n))):=.an (Qmp m.D6 m.Mem port v at0) (.lv (vt m.D6 m.Mem port v at0) λ(x4:Q1f×List Q0n)=>.lf ({A7:=m.A7,Mem:=m.Mem,B0:=m.B0,B7:=m.B7,B5:=m.B5,D6:=x4.1,A6:=m.A6,B6:=m.B6,B2:=m.B2,B4:=m.B4},x4.2));.br (port==7) T2 (.br (port==8) T2 (.br (port==9) T2 (let T3:Tree ((Q00×(List Q0n))):=.an (Qdu m.A6 m.Mem port v) (.lv (Qw7 m.A6 m.Mem port v) λ(x7:Q0f×List Int)=>.lf ({A7:=m.A7,Mem:=x7.2,B0:=m.B0,B7:=m.B7,B5:=m.B5,D6:=m.D6,A6:=x7.1,B6:=m.B6,B2:=m.B2,B4:=m.B4},[]));.br (port==10) T3 (.br (port==11) T3 (.lf (m,[])))))))))))
def Qh2 m port v at0:=(Q42 m port v at0).m
abbrev Q7f m port v at0:=(Q42 m port v at0).p
def Qmd:Q09:=Q09.fz<|mkP 130 [] false [.agg Q00.sig,.one (.int .i64),.one (.int .u32),.one (.int .u64)] [] (λa r=>Q7f (Q00.of (aC a 0)) (argI a 1) (argI a 2) (argI a 3)) (λa r=>Qh2 (Q00.of (aC a 0)) (argI a 1) (argI a 2) (argI a 3)) (λX=>.tup [.agg (Q00.cells (X.1)),.sl 4 (.recs .apiOutput (X.2)) true]) (λX=>[])
theorem Qkw:Q05 pG Qmd:=fz_ok<|Q0o drawn Q0k (.cons Z4m (.cons Z7v (.cons Zc3 (.cons Qxz (.nil))))) Tryz.func130 Tryz.call130 (λa r=>Q42 (Q00.of (aC a 0)) (argI a 1) (argI a 2) (argI a 3)) [.sl (.ints .u32) false,.sl (.recs .apiOutput) true] [] 2 (λ_ _ _=>by kernel_rfl) (λ_ _=>rfl) (λ_ _ h=>h) (λh=>by cases h)
def Q8w(m:Q00)(clock:Int):Tree (Q00×(List Q0n)):=
.an (Q08 m.Mem) (.lv (Q0b m.Mem) λ(x0:List Int)=>let E1:=({A7:=m.A7,Mem:=x0,B0:=m.B0,B7:=m.B7,B5:=m.B5,D6:=m.D6,A6:=m.A6,B6:=m.B6,B2:=m.B2,B4:=m.B4}:Q00);.an (Q9i E1) (.lv (Qj E1) λ(x1:Bool)=>.br (!x1) (.lf (E1,[])) (.an (Q80 E1) (.lv (Qhv E1) λ(x2:Q00)=>.an (Qfg x2.A7 x2.Mem) (.lv (Z2k x2.A7 x2.Mem) λ(x3:Q0e×List Int×Q2r)=>let E2:=({A7:=x3.1,Mem:=x3.2.1,B0:=x2.B0,B7:=x2.B7,B5:=x2.B5,D6:=x2.D6,A6:=x2.A6,B6:=x2.B6,B2:=x2.B2,B4:=x2.B4}:Q00);.br (x3.2.2.C5==1) (.an (Q8q E2 x3.2.2.F4 clock) (.lv (Qie E2 x3.2.2.F4 clock) λ(x4:Q00×Int)=>.br (x3.2.2.Reg !=0) (.cn (bK 0 1&&decide (0<=x3.2.2.Reg/\x3.2.2.Reg<(↑16:Int))) (.lf ({A7:={X:=A16.of 0 (fF (A16.l x4.1.A7.X) x3.2.2.Reg.toNat x4.2),Pc:=x4.1.A7.Pc,C6:=x4.1.A7.C6},Mem:=x4.1.Mem,B0:=x4.1.B0,B7:=x4.1.B7,B5:=x4.1.B5,D6:=x4.1.D6,A6:=x4.1.A6,B6:=wrap u64 (x4.1.B6+1),B2:=x4.1.B2,B4:=x4.1.B4},[]))) (.lf ({A7:=x4.1.A7,Mem:=x4.1.Mem,B0:=x4.1.B0,B7:=x4.1.B7,B5:=x4.1.B5,D6:=x4.1.D6,A6:=x4.1.A6,B6:=wrap u64 (x4.1.B6+1),B2:=x4.1.B2,B4:=x4.1.B4},[])))) (.br (x3.2.2.C5==2) (.an (Q7f E2 x3.2.2.F4 x3.2.2.Value m.B6) (.lv (Qh2 E2 x3.2.2.F4 x3.2.2.Value m.B6) λ(x5:Q00×List Q0n)=>.lf ({A7:=x5.1.A7,Mem:=x5.1.Mem,B0:=x5.1.B0,B7:=x5.1.B7,B5:=x5.1.B5,D6:=x5.1.D6,A6:=x5.1.A6,B6:=wrap u64 (x5.1.B6+1),B2:=x5.1.B2,B4:=x5.1.B4},x5.2))) (.br (x3.2.2.C5==3) (.lf ({A7:=x3.1,Mem:=x3.2.1,B0:=x2.B0,B7:=x2.B7,B5:=x2.B5,D6:=x2.D6,A6:=x2.A6,B6:=wrap u64 (x2.B6+1),B2:=true,B4:=x2.B4},[])) (.br (x3.2.2.C5==4) (.lf ({A7:=x3.1,Mem:=x3.2.1,B0:=x2.B0,B7:=x2.B7,B5:=x2.B5,D6:=x2.D6,A6:=x2.A6,B6:=wrap u64 (x2.B6+1),B2:=x2.B2,B4:=true},[])) (.lf ({A7:=x3.1,Mem:=x3.2.1,B0:=x2.B0,B7:=x2.B7,B5:=x2.B5,D6:=x2.D6,A6:=x2.A6,B6:=wrap u64 (x2.B6+1),B2:=x2.B2,B4:=x2.B4},[]))))))))))
def Qjk m clock:=(Q8w m clock).m
abbrev Q9j m clock:=(Q8w m clock).p
def Qxo:Q09:=Q09.fz<|mkP 43 [] false [.agg Q00.sig,.one (.int .u32)] [] (λa r=>Q9j (Q00.of (aC a 0)) (argI a 1)) (λa r=>Qjk (Q00.of (aC a 0)) (argI a 1)) (λX=>.tup [.agg (Q00.cells (X.1)),.sl 4 (.recs .apiOutput (X.2)) false]) (λX=>[])
theorem Qug:Q05 pG Qxo:=fz_ok<|Q0o drawn Q0k (.cons Q0s (.cons Qj7 (.cons Qi3 (.cons Qxd (.cons Qml (.cons Qkw (.nil))))))) Tryz.func43 Tryz.call43 (λa r=>Q8w (Q00.of (aC a 0)) (argI a 1)) [.sl (.ints .u32) false,.sl (.recs .apiOutput) false] [] 2 (λ_ _ _=>by kernel_rfl) (λ_ _=>rfl) (λ_ _ h=>h) (λh=>by cases h)
end
noncomputable section
def Qwp(op:Int):Tree Int:=
let T1:Tree (Int):=.br (op==49) (.lf 3) (let T2:Tree (Int):=.br (op==24) (.lf 6) (.br (op==48) (.lf 7) (.br (op==58) (.lf 8) (.br (op==59) (.lf 8) (.br (op==60) (.lf 9) (.br (op==61) (.lf 9) (.br (op==56) (.lf 1) (.br (op==57) (.lf 1) (.br (decide (op>=62)) (.br (decide (op<=64)) (.lf 1) (.lf 0)) (.lf 0)))))))));.br (decide (op>=17)) (.br (decide (op<=19)) (.lf 4) (.br (decide (op>=20)) (.br (decide (op<=22)) (.lf 5) T2) T2)) (.br (decide (op>=20)) (.br (decide (op<=22)) (.lf 5) T2) T2));let T3:Tree (Int):=.br (op==16) (.lf 3) (.br (op==23) (.lf 3) (.br (decide (op>=32)) (.br (decide (op<=36)) (.lf 3) (.br (decide (op>=40)) (.br (decide (op<=45)) (.lf 3) T1) T1)) (.br (decide (op>=40)) (.br (decide (op<=45)) (.lf 3) T1) T1)));.br (decide (op>=1)) (.br (decide (op<=13)) (.lf 2) T3) T3
def Qjq op:=(Qwp op).m
def Z6t:Q09:=mS 262 [] true [.one (.int .i64)] [] (λa r=>Qwp (argI a 0)) (λX=>.int .i64 X) (λX=>[])
theorem Qf4:Q05 pG Z6t:=oS (.nil) Tryz.func262 Tryz.call262 [] [] 2
def Qjm(r:Int):Tree Bool:=
.br (decide (r>=0)) (.lf (decide (r<=15))) (.lf false)
def Qdb r:=(Qjm r).m
def Qu5:Q09:=mS 344 [] true [.one (.int .i64)] [] (λa r=>Qjm (argI a 0)) (λX=>.bool X) (λX=>[])
theorem Qsv:Q05 pG Qu5:=oS (.nil) Tryz.func344 Tryz.call344 [] [] 2
def Qn2(f:Int):Tree (Int×Int):=
.br (f==3) (.lf ((-32768),32767)) (.br (f==7) (.lf ((-32768),32767)) (.br (f==4) (.lf (0,65535)) (.br (f==6) (.lf (0,65535)) (.br (f==5) (.lf (0,31)) (.br (f==8) (.lf (0,7)) (.br (f==9) (.lf (0,11)) (.lf (0,0))))))))
def Qmj f:=(Qn2 f).m
def Z33:Q09:=mS 263 [] true [.one (.int .i64)] [] (λa r=>Qn2 (argI a 0)) (λX=>.tup [.int .i64 (X.1),.int .i64 (X.2)]) (λX=>[])
theorem Qli:Q05 pG Z33:=oS (.nil) Tryz.func263 Tryz.call263 [] [] 2
def Qry(i:Q10):Tree Bool:=
.lv (Qjq i.Op) λ(x0:Int)=>.br (x0==0) (.lf false) (.lv (Qdb i.A) λ(x1:Bool)=>.br (!x1) (.lf false) (.lv (Qdb i.B) λ(x2:Bool)=>.br (!x2) (.lf false) (.lv (Qdb i.C) λ(x3:Bool)=>.br (!x3) (.lf false) (.lv (Qmj x0) λ(x4:Int×Int)=>.br (decide (wrap i64 i.F3<x4.1)) (.lf false) (.br (decide (wrap i64 i.F3>x4.2)) (.lf false) (let T1:Tree (Bool):=.br (x0==1) (.br (i.A !=0) (.lf false) (.br (i.B==0) (.lf true) (.br (decide (x0>=2)) (.lf (decide (x0<=5))) (.lf false)))) (.br (i.B==0) (.lf true) (.br (decide (x0>=2)) (.lf (decide (x0<=5))) (.lf false)));.br (x0 !=2) (.br (i.C !=0) (.lf false) T1) T1))))))
def Z0e i:=(Qry i).m
def Z5x:Q09:=mS 261 [] true [.agg Q10.sig] [] (λa r=>Qry (Q10.of (aC a 0))) (λX=>.bool X) (λX=>[])
theorem Z1i:Q05 pG Z5x:=oS (.cons Qf4 (.cons Qsv (.cons Qli (.nil)))) Tryz.func261 Tryz.call261 [] [] 2
def Qn1(i:Q10):Tree (Int×Bool):=
.lv (Z0e i) λ(x0:Bool)=>.br (!x0) (.lf (0,false)) (.lf (ior u32 (ior u32 (ior u32 (ior u32 (ishl u32 (wrap u32 i.Op) 24) (ishl u32 (wrap u32 i.A) 20)) (ishl u32 (wrap u32 i.B) 16)) (iand u32 (wrap u32 i.F3) 65535)) (wrap u32 i.C),true))
def Q1k i:=(Qn1 i).m
def Z1:Q09:=mS 162 [] true [.agg Q10.sig] [] (λa r=>Qn1 (Q10.of (aC a 0))) (λX=>.tup [.int .u32 (X.1),.bool (X.2)]) (λX=>[])
theorem Qlk:Q05 pG Z1:=oS (.cons Z1i (.nil)) Tryz.func162 Tryz.call162 [] [] 2
def Zca:Tree (List Int):=
.lf ([1,2,3,4,5,6,7,8,9,10,11,12,13,16,16,17,18,19,20,21,22,23,24,24,32,32,33,34,35,35,36,40,41,42,43,44,45,48,49,56,57,58,59,60,60,61,61,62,63,64])
def qI:(List Int):=(Zca).m
def Qxe(seed:Int):Tree (Int×Int):=
let E1:=wrap u64 (ixor u64 (wrap u64 (seed+11400714819323198485)) (ishr u64 (wrap u64 (seed+11400714819323198485)) 30)*13787848793156543929);let E2:=wrap u64 (ixor u64 E1 (ishr u64 E1 27)*10723151780598845931);.lf (ixor u64 E2 (ishr u64 E2 31),wrap u64 (seed+11400714819323198485))
def Z5o seed:=(Qxe seed).m
def Z7z:Q09:=mS 97 [] true [.one (.int .u64)] [] (λa r=>Qxe (argI a 0)) (λX=>.tup [.int .u64 (X.1),.int .u64 (X.2)]) (λX=>[])
theorem Z4o:Q05 pG Z7z:=oS (.nil) Tryz.func97 Tryz.call97 [] [] 2
def Qzk(n k:Int):Tree Int:=
.lv (Z5o (ixor u64 (wrap u64 n) (wrap u64 (wrap u64 k*11400714819323198485)))) λ(x0:Int×Int)=>.lf (wrap i64 (ishr u64 x0.1 1))
def Z2i n k:=(Qzk n k).m
def Zb1:Q09:=mS 32 [] true [.one (.int .i64),.one (.int .i64)] [] (λa r=>Qzk (argI a 0) (argI a 1)) (λX=>.int .i64 X) (λX=>[])
theorem Z89:Q05 pG Zb1:=oS (.cons Z4o (.nil)) Tryz.func32 Tryz.call32 [] [] 2
def Q5r(n k:Int):Tree Int:=
.cn (decide (k≠0)) (.br (decide (hZ n k<0)) (.lf (wrap i64 (hZ n k+k))) (.lf (hZ n k)))
def Qbf n k:=(Q5r n k).m
abbrev Q3u n k:=(Q5r n k).p
def Z5f:Q09:=mT 15 [] true [.one (.int .i64),.one (.int .i64)] [] (λa r=>Q5r (argI a 0) (argI a 1)) (λX=>.int .i64 X) (λX=>[])
theorem Z1e:Q05 pG Z5f:=oT (.nil) Tryz.func15 Tryz.call15 [] [] 2
def Qhc(n:Int):Tree Q10:=
.lv qI λ(x0:List Int)=>.lv (Z2i n 1) λ(x1:Int)=>.an (Q3u x1 (x0.length:Int)) (.lv (Qbf x1 (x0.length:Int)) λ(x2:Int)=>.cn (bV 1 1&&bK 0 1&&decide (0<=x2/\x2<(x0.length:Int))) (.an (Q3u (ishr i64 x1 8) 6) (.lv (Qbf (ishr i64 x1 8) 6) λ(x3:Int)=>.an (Q3u (ishr i64 x1 12) 6) (.lv (Qbf (ishr i64 x1 12) 6) λ(x4:Int)=>.an (Q3u (ishr i64 x1 16) 6) (.lv (Qbf (ishr i64 x1 16) 6) λ(x5:Int)=>.an (Q3u (ishr i64 x1 20) 24) (.lv (Qbf (ishr i64 x1 20) 24) λ(x6:Int)=>.br (decide (x0.getD x2.toNat (0:Int)<=(13:Int))) (.lf ({Op:=x0.getD x2.toNat 0,A:=x3,B:=x4,C:=x5,F3:=0})) (let E4:=({Op:=x0.getD x2.toNat 0,A:=x3,B:=x4,C:=0,F3:=wrap i32 (wrap i64 (wrap i64 (8*x6)-32))}:Q10);let T1:Tree (Q10):=.br (x0.getD x2.toNat (0:Int)==(49:Int)) (.lf (E4)) (.br (x0.getD x2.toNat (0:Int)==(24:Int)) (.lf ({Op:=x0.getD x2.toNat 0,A:=x3,B:=0,C:=0,F3:=wrap i32 (wrap i64 (x6*iand i64 (ishr i64 x1 40) 1))})) (let T2:Tree (Q10):=let E6:=({Op:=x0.getD x2.toNat 0,A:=x3,B:=0,C:=0,F3:=wrap i32 (hZ x6 8)}:Q10);.br (x0.getD x2.toNat (0:Int)==(58:Int)) (.lf (E6)) (.br (x0.getD x2.toNat (0:Int)==(59:Int)) (.lf (E6)) (let E5:=({Op:=x0.getD x2.toNat 0,A:=x3,B:=0,C:=0,F3:=wrap i32 (hZ x6 12)}:Q10);.br (x0.getD x2.toNat (0:Int)==(60:Int)) (.lf (E5)) (.br (x0.getD x2.toNat (0:Int)==(61:Int)) (.lf (E5)) (.lf ({Op:=x0.getD x2.toNat 0,A:=0,B:=0,C:=0,F3:=0})))));.br (decide (x0.getD x2.toNat (0:Int)>=(17:Int))) (.br (decide (x0.getD x2.toNat (0:Int)<=(22:Int))) (.lf ({Op:=x0.getD x2.toNat 0,A:=x3,B:=x4,C:=0,F3:=wrap i32 x6})) T2) T2));let T3:Tree (Q10):=.br (x0.getD x2.toNat (0:Int)==(16:Int)) (.lf (E4)) (.br (x0.getD x2.toNat (0:Int)==(23:Int)) (.lf (E4)) (.br (decide (x0.getD x2.toNat (0:Int)>=(32:Int))) (.br (decide (x0.getD x2.toNat (0:Int)<=(36:Int))) (.lf (E4)) T1) T1));.br (decide (x0.getD x2.toNat (0:Int)>=(40:Int))) (.br (decide (x0.getD x2.toNat (0:Int)<=(48:Int))) (.br (x0.getD x2.toNat (0:Int)==(48:Int)) (.lf ({Op:=x0.getD x2.toNat 0,A:=x3,B:=0,C:=0,F3:=wrap i32 (wrap i64 (x6-12))})) (.lf ({Op:=x0.getD x2.toNat 0,A:=x3,B:=x4,C:=0,F3:=wrap i32 (wrap i64 (x6-12))}))) T3) T3)))))))
def xu n:=(Qhc n).m
abbrev Qmy n:=(Qhc n).p
def Qwc(l:List Int)(z:(Int)×(List Int)):Nat:=(l.length-z.1).toNat
def Qlx(l:List Int):Tree (List Int):=
.lp inferInstance (Qwc l (0,[])+1) ((((Els.Nil (Els.ints i64 l)\/rE (1:Nat))/\rE (l:List Int))/\True/\rE (0:Int)/\True)/\rE ([]:List Int)/\True) (0,[]) λ(v0:Int×List Int)=>.br (decide (v0.1<(l.length:Int))) (let E1:=bV 1 1&&bK 0 1&&decide (0<=v0.1/\v0.1<(l.length:Int));.cn E1 (let E2:=decide (4*(v0.2.length+1)<=140737488355328);.br (hZ (l.getD v0.1.toNat 0) (17:Int)==(0:Int)) (.cn E1 (.cn E2 (.nx ((((Els.Nil (Els.ints i64 l)\/rE (1:Nat))/\rE (l:List Int))/\True/\rE ((wrap i64 (v0.1+1)):Int)/\True)/\rE ((v0.2++[wrap u32 (iand i64 (l.getD v0.1.toNat 0) 4294967295)]):List Int)/\True) (Sum.inl (wrap i64 (v0.1+1),v0.2++[wrap u32 (iand i64 (l.getD v0.1.toNat 0) 4294967295)]))))) (.cn E1 (.an (Qmy (l.getD v0.1.toNat 0)) (.lv (xu (l.getD v0.1.toNat 0)) λ(x0:Q10)=>.lv (Q1k x0) λ(x1:Int×Bool)=>.cn E2 (.nx ((((Els.Nil (Els.ints i64 l)\/rE (1:Nat))/\rE (l:List Int))/\True/\rE ((wrap i64 (v0.1+1)):Int)/\True)/\rE ((v0.2++[x1.1]):List Int)/\True) (Sum.inl (wrap i64 (v0.1+1),v0.2++[x1.1])))))))) (.lf (Sum.inr v0.2))
abbrev Z1p l:=(Qlx l).p
def Qrh(pc:Int):Tree Q0e:=
.lf ({X:={a0:=0,a1:=0,a2:=0,a3:=0,a4:=0,a5:=0,a6:=0,a7:=0,a8:=0,a9:=0,a10:=0,a11:=0,a12:=0,a13:=0,a14:=0,a15:=0},Pc:=pc,C6:={a0:=1,a1:=0,a2:=0,a3:=0,a4:=0,a5:=0,a6:=0,a7:=0}})
def Qz7 pc:=(Qrh pc).m
def Z5z:Q09:=mS 165 [] true [.one (.int .u32)] [] (λa r=>Qrh (argI a 0)) (λX=>.agg (Q0e.cells X)) (λX=>[])
theorem Z11:Q05 pG Z5z:=oS (.nil) Tryz.func165 Tryz.call165 [] [] 2
def Qgd(pages:Int):Tree (List Int):=
.br (decide (pages<1)) (.lf ([])) (.br (decide (pages>32)) (.lf ([])) (.cn (bK 0 1&&bV 1 1&&List.all [D.int u32 0] D.plain&&decide (0<=wrap i64 (pages*32)/\wrap i64 (pages*32)<=wrap i64 (pages*32)/\wrap i64 (pages*32)<=9223372036854775807/\(↑4:Int)*wrap i64 (pages*32)<=140737488355328)) (.lf (List.replicate (dM (wrap i64 (pages*32))) 0))))
def Z97 pages:=(Qgd pages).m
abbrev Qj2 pages:=(Qgd pages).p
def Zau:Q09:=mT 166 [] true [.one (.int .i64)] [] (λa r=>Qgd (argI a 0)) (λX=>.all 0) (λX=>[⟨false,25,1,.ints .u32 X⟩])
theorem Z8f:Q05 pG Zau:=oT (.nil) Tryz.func166 Tryz.call166 [.row 25 1 (.ints .u32)] [] 2
def Qgr(pages blocks:Int)(image:List Int):Tree (Q00×Bool):=
let E2:=({Frame:=0,Len:=0,D4:=false,D2:=0,C2:=false,Got:=0}:Q1f);let T1:Tree ((Q00×Bool)):=.lf ({A7:={X:={a0:=0,a1:=0,a2:=0,a3:=0,a4:=0,a5:=0,a6:=0,a7:=0,a8:=0,a9:=0,a10:=0,a11:=0,a12:=0,a13:=0,a14:=0,a15:=0},Pc:=0,C6:={a0:=0,a1:=0,a2:=0,a3:=0,a4:=0,a5:=0,a6:=0,a7:=0}},Mem:=[],B0:={F0:=[]},B7:={F5:=false,D1:=0,F1:=false},B5:={Blocks:=0,C8:=0,Frame:=0,D5:=0,Cmd:=0,C4:=0,C3:=0,D0:=[]},D6:=E2,A6:={D9:=0,E0:=0},B6:=0,B2:=false,B4:=false},false);.br (decide (pages<1)) T1 (.br (decide (pages>32)) T1 (.br (decide (blocks<0)) T1 (.br (decide (blocks>64)) T1 (.br (decide ((image.length:Int)>wrap i64 (pages*32))) T1 (.lv (Qz7 0) λ(x0:Q0e)=>.an (Qj2 pages) (.lv (Z97 pages) λ(x1:List Int)=>.lf ({A7:=x0,Mem:=dU (Min.min (image.length) (x1.length)) image++dV (Min.min (image.length) (x1.length)) x1,B0:={F0:=[]},B7:={F5:=false,D1:=0,F1:=false},B5:={Blocks:=wrap u32 blocks,C8:=0,Frame:=0,D5:=0,Cmd:=0,C4:=0,C3:=0,D0:=[]},D6:=E2,A6:={D9:=0,E0:=0},B6:=0,B2:=false,B4:=false},true)))))))
def Z9v pages blocks image:=(Qgr pages blocks image).m
abbrev Qjf pages blocks image:=(Qgr pages blocks image).p
def Zc0:Q09:=mT 76 [] true [.one (.int .i64),.one (.int .i64),.one (.ints .u32)] [] (λa r=>Qgr (argI a 0) (argI a 1) (argL .u32 a 2)) (λX=>.tup [.agg (Q00.cellsW (X.1) (.all 0)),.bool (X.2)]) (λX=>[⟨false,25,1,.ints .u32 (X.1).Mem⟩])
theorem Z81:Q05 pG Zc0:=oT (.cons Z11 (.cons Z8f (.nil))) Tryz.func76 Tryz.call76 [.row 25 1 (.ints .u32)] [] 2
def Q3q(m:Q00):Tree Bool:=
.an (Q9i m) (.lv (Qj m) λ(x0:Bool)=>.br (!x0) (.lf false) (.an (Q80 m) (.lv (Qhv m) λ(x1:Q00)=>.an (Qfg x1.A7 x1.Mem) (.lv (Z2k x1.A7 x1.Mem) λ(x2:Q0e×List Int×Q2r)=>.br (x2.2.2.C5==1) (.lf (x2.2.2.F4==2)) (.lf false)))))
def Qav m:=(Q3q m).m
abbrev Q4a m:=(Q3q m).p
def Ql4:Q09:=mT 144 [] true [.agg Q00.sig] [] (λa r=>Q3q (Q00.of (aC a 0))) (λX=>.bool X) (λX=>[])
theorem Qiu:Q05 pG Ql4:=oT (.cons Qj7 (.cons Qi3 (.cons Qxd (.nil)))) Tryz.func144 Tryz.call144 [] [] 2
