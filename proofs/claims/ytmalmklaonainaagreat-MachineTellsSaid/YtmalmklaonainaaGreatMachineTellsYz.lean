import Derived.Test.YtmalmklaonainaaGreatMachineTellsFh
import Derived.Test.YtmalmklaonainaaGreatMachineTellsYx
open List renaming take->dC, drop->dD, length->dL, set->dH, getD->aK
open Int renaming toNat->dG, tmod->dF
open UInt8 renaming toNat->fB
open Nat renaming blt->bT, beq->bS
set_option maxRecDepth 100000
set_option linter.all false
namespace Go.Proofs.YtmalmklaonainaaGreat
open Go Go.GD Go.IntKind
noncomputable section
def Q3s(m:Q00):Tree Bool:=
.an (Q40 m) (.lv (Q14 m) λ(x0:Bool)=> .br x0 (.br (!m.A6) (.an (Q7x m) (.lv (Qbi m) λ(x1:Bool)=> .br (!x1) (.lf (decide (m.A4<1152921504606846976))) (.lf false))) (.lf false)) (.lf false))
def Q25 m:=(Q3s m).m
abbrev Q7s m:=(Q3s m).p
def Z59:Q0b:=mT 112 [] true [.agg Q00.sig] [] (λa r=>Q3s (Q00.of (aC a 0))) (λX=> .bool X) (λX=>[])
theorem Qnq:Q04 pG Z59:=oT (.cons Qjq (.cons Qnz (.nil))) Tryz.func112 Tryz.call112 [] [] 2
def Qba(m:Q00)(z:(Int)):Nat:=(5-z).toNat
def Q2n(m:Q00):Tree Q00:=
let E1:=({B1:=m.B1,Mem:=m.Mem,A2:=m.A2,A7:=m.A7,A9:=m.A9,B9:=m.B9,A1:=m.A1,A4:=m.A4,A3:=false,A6:=m.A6}:Q00); .br (iand u32 m.B1.B4.a0 (2:Int)==(0:Int)) (.lf (E1)) (.an (Qb5 E1) (.lv (Q55 E1) λ(x0:Int)=> .lp inferInstance (Qba m 0+1) ((rZ/\rZ/\rE (x0:Int)/\rE (0:Int)/\True)/\(rE m.B1.X.a0/\rE m.B1.X.a1/\rE m.B1.X.a2/\rE m.B1.X.a3/\rE m.B1.X.a4/\rE m.B1.X.a5/\rE m.B1.X.a6/\rE m.B1.X.a7/\rE m.B1.X.a8/\rE m.B1.X.a9/\rE m.B1.X.a10/\rE m.B1.X.a11/\rE m.B1.X.a12/\rE m.B1.X.a13/\rE m.B1.X.a14/\rE m.B1.X.a15/\rE m.B1.Pc/\rE m.B1.B4.a0/\rE m.B1.B4.a1/\rE m.B1.B4.a2/\rE m.B1.B4.a3/\rE m.B1.B4.a4/\rE m.B1.B4.a5/\rE m.B1.B4.a6/\rE m.B1.B4.a7/\((Els.Nil (Els.ints u32 m.Mem)\/rE (1:Nat))/\rE m.Mem)/\rE m.A2.D0/\rE m.A7.D2/\rE m.A7.C4/\rE m.A7.D1/\rE m.A9.Blocks/\rE m.A9.C1/\rE m.A9.Frame/\rE m.A9.B8/\rE m.A9.D4/\rE m.A9.B5/\rE m.A9.B2/\rE m.A9.B7/\rE m.B9.Frame/\rE m.B9.D8/\rE m.B9.C5/\rE m.B9.C0/\rE m.B9.B6/\rE m.B9.D9/\rE m.A1.C6/\rE m.A1.C2/\rE m.A4/\rE (false:Bool)/\rE m.A6/\True)/\(mE zM True True)/\True) 0 λ(v0:Int)=> .br (decide (v0<5)) (.cn (decide (0<=v0)) (.br (iand u32 x0 (ishl u32 1 v0) !=0) (.lv (Q47 m.B1 (wrap i64 (16+v0)) 0) λ(x1:Q02)=> .lf (Sum.inr {B1:=x1,Mem:=m.Mem,A2:=m.A2,A7:=m.A7,A9:=m.A9,B9:=m.B9,A1:=m.A1,A4:=m.A4,A3:=false,A6:=m.A6})) (.nx ((rZ/\rZ/\rE (x0:Int)/\rE ((wrap i64 (v0+1)):Int)/\True)/\(rE m.B1.X.a0/\rE m.B1.X.a1/\rE m.B1.X.a2/\rE m.B1.X.a3/\rE m.B1.X.a4/\rE m.B1.X.a5/\rE m.B1.X.a6/\rE m.B1.X.a7/\rE m.B1.X.a8/\rE m.B1.X.a9/\rE m.B1.X.a10/\rE m.B1.X.a11/\rE m.B1.X.a12/\rE m.B1.X.a13/\rE m.B1.X.a14/\rE m.B1.X.a15/\rE m.B1.Pc/\rE m.B1.B4.a0/\rE m.B1.B4.a1/\rE m.B1.B4.a2/\rE m.B1.B4.a3/\rE m.B1.B4.a4/\rE m.B1.B4.a5/\rE m.B1.B4.a6/\rE m.B1.B4.a7/\((Els.Nil (Els.ints u32 m.Mem)\/rE (1:Nat))/\rE m.Mem)/\rE m.A2.D0/\rE m.A7.D2/\rE m.A7.C4/\rE m.A7.D1/\rE m.A9.Blocks/\rE m.A9.C1/\rE m.A9.Frame/\rE m.A9.B8/\rE m.A9.D4/\rE m.A9.B5/\rE m.A9.B2/\rE m.A9.B7/\rE m.B9.Frame/\rE m.B9.D8/\rE m.B9.C5/\rE m.B9.C0/\rE m.B9.B6/\rE m.B9.D9/\rE m.A1.C6/\rE m.A1.C2/\rE m.A4/\rE (false:Bool)/\rE m.A6/\True)/\(mE zM True True)/\True) (Sum.inl (wrap i64 (v0+1)))))) (.lf (Sum.inr E1))))
def Q0s m:=(Q2n m).m
abbrev Q7 m:=(Q2n m).p
def Qz0:LInv:={
 α:=(Int)
 F:=λst a=>([(1, .ptr 0 0 0),(2, .ptr 1 0 0),(3,(lk st 3)),(15, .int i64 a)],[⟨true,43,49, .gen [mB (cT st 1)]⟩,⟨true,43,49, .gen [mB (cT st 2)]⟩])
 a0:=λst=>(lk st 15).toInt
 ex0:=λst=>[]++[(rX st 1 0),(rX st 2 1)]}
def Qsh:List (Nat×LInv):=[(6,Qz0)]
def Z1l:Q0b:=Q0b.fz<|mkP 113 [] false [.agg Q00.sig] [] (λa r=>Q7 (Q00.of (aC a 0))) (λa r=>Q0s (Q00.of (aC a 0))) (λX=> .agg (Q00.cells X)) (λX=>[])
theorem Qmv:Q04 pG Z1l:=fz_ok<|Q0k drawn Q0g (.cons Qj7 (.cons Qif (.nil))) Tryz.func113 Tryz.call113 (λa r=>Q2n (Q00.of (aC a 0))) [.sl (.ints .u32) false] Qsh 3 (λ_ _ _=>by kernel_rfl) (λ_ _=>rfl) (λ_ _ h=>h) (λh=>by cases h)
def Q91(c:Q0c)(port:Int):Tree (Q0c×Int):=
.br (port==0) (.br (decide (c.D0=[])) (.lf (c,4294967295)) (.cn (decide ((0:Int)<=(0:Int)/\0<(c.D0.length:Int))) (.cn (decide ((0:Int)<=(1:Int)/\1<=(c.D0.length:Int)/\(c.D0.length:Int)<=(c.D0.length:Int))) (.lf ({D0:=dC (dG (c.D0.length:Int)-dG 1) (dD (dG 1) c.D0)},wrap u32 (↑(fB (c.D0.getD (dG 0) (0:UInt8))):Int)))))) (.br (port==1) (.lf (c,wrap u32 (c.D0.length:Int))) (.lf (c,0)))
def Qpj c port:=(Q91 c port).m
theorem Z4j(c:Q0c)(port:Int):(Q91 c port).p:=by
 unfold Tree.p Q91
 repeat'(first|exact trivial|refine w_br (λ_=> ?_) (λ_=> ?_)|refine w_cn ?_ ?_|refine w_an ?_ ?_|refine w_lv (λ_ _=> ?_)|refine w_nx ?_|refine w_lf ?_|refine And.intro ?_ ?_)
 all_goals(exact fin0)
def Zgl:Q0b:=mS 195 [] true [.agg Q0c.sig, .one (.int .i64)] [] (λa r=>Q91 (Q0c.of (aC a 0)) (argI a 1)) (λX=> .tup [.agg (Q0c.cells (X.1)), .int .u32 (X.2)]) (λX=>[])
theorem Zax:Q04 pG Zgl:=oS (.nil) Tryz.func195 Tryz.call195 [] [] 2 (λ_ _ _=>by kernel_rfl) (λa r=>Z4j (Q0c.of (aC a 0)) (argI a 1)) (λ_ X=>by kernel_rfl)
def Qph(t:Q0i):Tree Int:=
.br t.D1 (.lf 1) (.lf 0)
def Z02 t:=(Qph t).m
def Znn:Q0b:=mS 196 [] true [.agg Q0i.sig] [] (λa r=>Qph (Q0i.of (aC a 0))) (λX=> .int .u32 X) (λX=>[])
theorem Zir:Q04 pG Znn:=oS (.nil) Tryz.func196 Tryz.call196 [] [] 2
def Qtu(d0:Q0d)(port:Int):Tree Int:=
.br (port==4) (.lf d0.C1) (.br (port==5) (.lf d0.Frame) (.br (port==6) (.lf (wrap u32 d0.B8)) (.lf 0)))
def Qvg d0 port:=(Qtu d0 port).m
def zB:Q0b:=mS 197 [] true [.agg Q0d.sig, .one (.int .i64)] [] (λa r=>Qtu (Q0d.of (aC a 0)) (argI a 1)) (λX=> .int .u32 X) (λX=>[])
theorem Zm9:Q04 pG zB:=oS (.nil) Tryz.func197 Tryz.call197 [] [] 2
def Qty(n:Q0n)(port:Int):Tree Int:=
.br (port==7) (.lf n.Frame) (.br (port==8) (.lf n.D9) (.br (port==9) (.br n.C5 (.br n.B6 (.lf (wrap u32 (wrap u32 ((0:Int)+(1:Int))+2))) (.lf (wrap u32 ((0:Int)+(1:Int))))) (.br n.B6 (.lf (wrap u32 ((0:Int)+(2:Int)))) (.lf 0))) (.lf 0)))
def Z32 n port:=(Qty n port).m
def zU:Q0b:=mS 198 [] true [.agg Q0n.sig, .one (.int .i64)] [] (λa r=>Qty (Q0n.of (aC a 0)) (argI a 1)) (λX=> .int .u32 X) (λX=>[])
theorem yB:Q04 pG zU:=oS (.nil) Tryz.func198 Tryz.call198 [] [] 2
def Qbs(b:Q07)(port:Int):Tree Int:=
.br (port==10) (.lf b.C6) (.br (port==11) (.an (Qdl b) (.lv (Qcc b) λ(x0:Int)=> .lf (wrap u32 x0))) (.lf 0))
def Qps b port:=(Qbs b port).m
abbrev Qqz b port:=(Qbs b port).p
def Zec:Q0b:=mT 199 [] true [.agg Q07.sig, .one (.int .i64)] [] (λa r=>Qbs (Q07.of (aC a 0)) (argI a 1)) (λX=> .int .u32 X) (λX=>[])
theorem Zbt:Q04 pG Zec:=oT (.cons Qmy (.nil)) Tryz.func199 Tryz.call199 [] [] 2
def Q46(m:Q00)(port clock:Int):Tree (Q00×Int):=
let T1:Tree ((Q00×Int)):= .lv (Qpj m.A2 port) λ(x0:Q0c×Int)=> .lf ({B1:=m.B1,Mem:=m.Mem,A2:=x0.1,A7:=m.A7,A9:=m.A9,B9:=m.B9,A1:=m.A1,A4:=m.A4,A3:=m.A3,A6:=m.A6},x0.2); .br (port==0) T1 (.br (port==1) T1 (.br (port==2) (.lf (m,clock)) (.br (port==3) (.lv (Z02 m.A7) λ(x2:Int)=> .lf (m,x2)) (.br (port==4) (.lv (Qvg m.A9 port) λ(x3:Int)=> .lf (m,x3)) (.br (port==5) (.lv (Qvg m.A9 port) λ(x4:Int)=> .lf (m,x4)) (.br (port==6) (.lv (Qvg m.A9 port) λ(x5:Int)=> .lf (m,x5)) (.br (port==7) (.lv (Z32 m.B9 port) λ(x6:Int)=> .lf (m,x6)) (.br (port==8) (.lv (Z32 m.B9 port) λ(x7:Int)=> .lf (m,x7)) (.br (port==9) (.lv (Z32 m.B9 port) λ(x8:Int)=> .lf (m,x8)) (let T2:Tree ((Q00×Int)):= .an (Qqz m.A1 port) (.lv (Qps m.A1 port) λ(x9:Int)=> .lf (m,x9)); .br (port==10) T2 (.br (port==11) T2 (.lf (m,0)))))))))))))
def Q12 m port clock:=(Q46 m port clock).m
abbrev Qa4 m port clock:=(Q46 m port clock).p
def Qu1:Q0b:=Q0b.fz<|mkP 134 [] false [.agg Q00.sig, .one (.int .i64), .one (.int .u32)] [] (λa r=>Qa4 (Q00.of (aC a 0)) (argI a 1) (argI a 2)) (λa r=>Q12 (Q00.of (aC a 0)) (argI a 1) (argI a 2)) (λX=> .tup [.agg (Q00.cells (X.1)), .int .u32 (X.2)]) (λX=>[])
theorem Qs6:Q04 pG Qu1:=fz_ok<|Q0k drawn Q0g (.cons Zax (.cons Zir (.cons Zm9 (.cons yB (.cons Zbt (.nil)))))) Tryz.func134 Tryz.call134 (λa r=>Q46 (Q00.of (aC a 0)) (argI a 1) (argI a 2)) [.sl (.ints .u32) false] [] 2 (λ_ _ _=>by kernel_rfl) (λ_ _=>rfl) (λ_ _ h=>h) (λh=>by cases h)
def Qlz(t:Q0i)(deadline:Int):Tree Q0i:=
.lf ({D2:=deadline !=0,C4:=deadline,D1:=false})
def Ql4 t deadline:=(Qlz t deadline).m
def Zhm:Q0b:=mS 200 [] true [.agg Q0i.sig, .one (.int .u32)] [] (λa r=>Qlz (Q0i.of (aC a 0)) (argI a 1)) (λX=> .agg (Q0i.cells X)) (λX=>[])
theorem Zfy:Q04 pG Zhm:=oS (.nil) Tryz.func200 Tryz.call200 [] [] 2
def Qc7(m:List Int)(frame:Int):Tree Bool:=
.lv (Q0q m) λ(x0:Int)=> .lf (decide (wrap u64 frame<wrap u64 x0))
def Q8n m frame:=(Qc7 m frame).m
def Zbb:Q0b:=mS 193 [] true [.one (.ints .u32), .one (.int .u32)] [] (λa r=>Qc7 (argL .u32 a 0) (argI a 1)) (λX=> .bool X) (λX=>[])
theorem Z40:Q04 pG Zbb:=oS (.cons Q3y (.nil)) Tryz.func193 Tryz.call193 [] [] 2
def Q7q(m:List Int)(frame:Int):Tree Bool:=
.br (decide (frame>=0)) (.lv (Q0q m) λ(x0:Int)=> .lf (decide (frame<x0))) (.lf false)
def Q4u m frame:=(Q7q m frame).m
def Qyz:Q0b:=mS 208 [] true [.one (.ints .u32), .one (.int .i64)] [] (λa r=>Q7q (argL .u32 a 0) (argI a 1)) (λX=> .bool X) (λX=>[])
theorem Qkk:Q04 pG Qyz:=oS (.cons Q3y (.nil)) Tryz.func208 Tryz.call208 [] [] 2
def Qmr(words:List Int)(z:(Int)×(List Int)):Prop:=0<=z.1/\z.1<=words.length/\(z.2.length:Int)=4*z.1
def Q6t(words:List Int)(z:(Int)×(List Int)):Nat:=(words.length-z.1).toNat
def Q4p(words:List Int):Tree (List UInt8):=
.cn (bT 0 1&&bS 1 1&&List.all [D.int u8 0] D.plain&&decide ((0:Int)<=(0:Int)/\0<=wrap i64 (4*(words.length:Int))/\wrap i64 (4*(words.length:Int))<=9223372036854775807/\(↑1:Int)*wrap i64 (4*(words.length:Int))<=140737488355328)) (.lp inferInstance (Q6t words (0,[])+1) ((True/\((Els.Nil (Els.ints u32 words)\/rE (1:Nat))/\rE (words:List Int))/\rE ((words.length:Int):Int)/\rE (0:Int)/\True)/\rE ([]:List Int)/\True) (0,[]) λ(v0:Int×List Int)=> .br (decide (v0.1<(words.length:Int))) (.cn (bS 1 1&&bT 0 1&&decide (0<=v0.1/\v0.1<(words.length:Int))) (.cn (decide (1*(v0.2.length+4)<=140737488355328)) (let E1:=words.getD v0.1.toNat 0; .nx ((True/\((Els.Nil (Els.ints u32 words)\/rE (1:Nat))/\rE (words:List Int))/\rE ((words.length:Int):Int)/\rE ((wrap i64 (v0.1+1)):Int)/\True)/\rE ((v0.2++[wrap u8 (words.getD v0.1.toNat 0),wrap u8 (ishr u32 (words.getD v0.1.toNat 0) 8),wrap u8 (ishr u32 (words.getD v0.1.toNat 0) 16),wrap u8 (ishr u32 (words.getD v0.1.toNat 0) 24)]):List Int)/\True) (Sum.inl (wrap i64 (v0.1+1),v0.2++[wrap u8 E1,wrap u8 (ishr u32 E1 8),wrap u8 (ishr u32 E1 16),wrap u8 (ishr u32 E1 24)]))))) (.lf (Sum.inr (bytesOf v0.2))))
def Z0s words:=(Q4p words).m
def Qcd(words:List Int):Prop:=
words.length<=1000000000000
theorem Z3l(words:List Int)(hw:Qcd words):(Q4p words).p:=by
 simp only[Qcd]at hw
 unfold Tree.p Q4p
 repeat'(first|refine w_lp (inv:=Qmr words) (μ:=Q6t words) ?_ (Nat.lt_succ_self _) (λ_ _=> ?_)|exact trivial|refine w_br (λ_=> ?_) (λ_=> ?_)|refine w_cn ?_ ?_|refine w_an ?_ ?_|refine w_lv (λ_ _=> ?_)|refine w_nx ?_|refine w_lf ?_|refine And.intro ?_ ?_)
 all_goals((try simp only[Qmr,Q6t]at*);exact fin0)
def Z55:LInv:={
 α:=(Int)×(List Int)
 F:=λst a=>([(3, .all 0),(10,(lk st 10)),(11,(lk st 11)),(12, .int i64 a.1)],[⟨false,5,1, .ints u8 a.2⟩])
 a0:=λst=>((lk st 12).toInt,(Q2f st.rows (rN st 3)))
 ex0:=λst=>[]++[(rX st 3 0)]}
def Qyh:List (Nat×LInv):=[(3,Z55)]
def Za6:Q0b:=mkP 209 [] true [.one (.ints .u32)] [] (λa r=>Qcd (argL .u32 a 0)) (λa r=>Z0s (argL .u32 a 0)) (λX=> .str X) (λX=>[])
theorem Z4y:Q04 pG Za6:=Q0k drawn Q0g (.nil) Tryz.func209 Tryz.call209 (λa r=>Q4p (argL .u32 a 0)) [] Qyh 3 (hp:=λa r h=>Z3l (argL .u32 a 0) h)
def Q60(m:List Int)(frame:Int):Tree ((List UInt8)×Bool):=
.lv (Q4u m frame) λ(x0:Bool)=> .br (!x0) (.lf ([],false)) (.cn (bS 1 1&&bT 0 1&&decide (0<=wrap i64 (frame*32)/\wrap i64 (frame*32)<=wrap i64 (wrap i64 (frame*32)+32)/\wrap i64 (wrap i64 (frame*32)+32)<=(m.length:Int))) (let E1:=dC (dG (wrap i64 (wrap i64 (frame*32)+32))-dG (wrap i64 (frame*32))) (dD (dG (wrap i64 (frame*32))) m); .an (Qcd E1) (.lv (Z0s E1) λ(x1:List UInt8)=> .lf (x1,true))))
def Q56 m frame:=(Q60 m frame).m
abbrev Qc5 m frame:=(Q60 m frame).p
def Zbk:Q0b:=mT 143 [] true [.one (.ints .u32), .one (.int .i64)] [] (λa r=>Q60 (argL .u32 a 0) (argI a 1)) (λX=> .tup [.str (X.1), .bool (X.2)]) (λX=>[])
theorem Qra:Q04 pG Zbk:=oT (.cons Qkk (.cons Z4y (.nil))) Tryz.func143 Tryz.call143 [] [] 2
def Qre(d0:Q0d)(at0:Int):Tree (Q09×Bool):=
.br (d0.B8 !=1) (.lf ({C3:=0,At:=0,C1:=0,C9:=[]},false)) (.br (d0.D4==1) (.lf ({C3:=3,At:=at0,C1:=d0.B5,C9:=[]},true)) (.br (d0.D4==2) (.lf ({C3:=4,At:=at0,C1:=d0.B5,C9:=d0.B7},true)) (.lf ({C3:=0,At:=0,C1:=0,C9:=[]},false))))
def Qjf d0 at0:=(Qre d0 at0).m
def Z5f:Q0b:=mS 287 [] true [.agg Q0d.sig, .one (.int .u64)] [] (λa r=>Qre (Q0d.of (aC a 0)) (argI a 1)) (λX=> .tup [.agg (Q09.cells (X.1)), .bool (X.2)]) (λX=>[])
theorem Z2t:Q04 pG Z5f:=oS (.nil) Tryz.func287 Tryz.call287 [] [] 2
def Qbr(d0:Q0d)(m:List Int)(cmd at0:Int):Tree (Q0d×(List Q09)):=
.br (d0.B8 !=0) (.lf (d0,[])) (let T1:Tree ((Q0d×(List Q09))):= .lf ({Blocks:=d0.Blocks,C1:=d0.C1,Frame:=d0.Frame,B8:=3,D4:=d0.D4,B5:=d0.B5,B2:=d0.B2,B7:=d0.B7},[]); .br (decide (d0.C1>=d0.Blocks)) T1 (.lv (Q8n m d0.Frame) λ(x0:Bool)=> .br (!x0) T1 (.br (cmd==2) (.an (Qc5 m (wrap i64 d0.Frame)) (.lv (Q56 m (wrap i64 d0.Frame)) λ(x1:List UInt8×Bool)=>let E2:=({Blocks:=d0.Blocks,C1:=d0.C1,Frame:=d0.Frame,B8:=1,D4:=cmd,B5:=d0.C1,B2:=d0.Frame,B7:=x1.1}:Q0d); .lv (Qjf E2 at0) λ(x2:Q09×Bool)=> .lf (E2,[x2.1]))) (let E3:=({Blocks:=d0.Blocks,C1:=d0.C1,Frame:=d0.Frame,B8:=1,D4:=cmd,B5:=d0.C1,B2:=d0.Frame,B7:=[]}:Q0d); .lv (Qjf E3 at0) λ(x3:Q09×Bool)=> .lf (E3,[x3.1])))))
def Qv3 d0 m cmd at0:=(Qbr d0 m cmd at0).m
abbrev Qr4 d0 m cmd at0:=(Qbr d0 m cmd at0).p
def Zgn:Q0b:=mT 251 [] true [.agg Q0d.sig, .one (.ints .u32), .one (.int .i64), .one (.int .u64)] [] (λa r=>Qbr (Q0d.of (aC a 0)) (argL .u32 a 1) (argI a 2) (argI a 3)) (λX=> .tup [.agg (Q0d.cells (X.1)), .sl 4 (.recs .apiOutput (X.2)) true]) (λX=>[])
theorem Zb8:Q04 pG Zgn:=oT (.cons Z40 (.cons Qra (.cons Z2t (.nil)))) Tryz.func251 Tryz.call251 [.sl (.recs .apiOutput) true] [] 2
def Qgt(d0:Q0d)(m:List Int)(port v at0:Int):Tree (Q0d×(List Q09)):=
.br (port==4) (.lf ({Blocks:=d0.Blocks,C1:=v,Frame:=d0.Frame,B8:=d0.B8,D4:=d0.D4,B5:=d0.B5,B2:=d0.B2,B7:=d0.B7},[])) (.br (port==5) (.lf ({Blocks:=d0.Blocks,C1:=d0.C1,Frame:=v,B8:=d0.B8,D4:=d0.D4,B5:=d0.B5,B2:=d0.B2,B7:=d0.B7},[])) (.br (port==6) (let T1:Tree ((Q0d×(List Q09))):= .an (Qr4 d0 m (wrap i64 v) at0) (.lv (Qv3 d0 m (wrap i64 v) at0) λ(x0:Q0d×List Q09)=> .lf (x0.1,x0.2)); .br (v==1) T1 (.br (v==2) T1 (.br (v==0) (.lv (Q8s d0) λ(x2:Bool)=> .br x2 (.lf ({Blocks:=d0.Blocks,C1:=d0.C1,Frame:=d0.Frame,B8:=0,D4:=d0.D4,B5:=d0.B5,B2:=d0.B2,B7:=d0.B7},[])) (.lf (d0,[]))) (.lf (d0,[]))))) (.lf (d0,[]))))
def Qzq d0 m port v at0:=(Qgt d0 m port v at0).m
abbrev Qxz d0 m port v at0:=(Qgt d0 m port v at0).p
def Zo7:Q0b:=mT 201 [] true [.agg Q0d.sig, .one (.ints .u32), .one (.int .i64), .one (.int .u32), .one (.int .u64)] [] (λa r=>Qgt (Q0d.of (aC a 0)) (argL .u32 a 1) (argI a 2) (argI a 3) (argI a 4)) (λX=> .tup [.agg (Q0d.cells (X.1)), .sl 4 (.recs .apiOutput (X.2)) true]) (λX=>[])
theorem Zi3:Q04 pG Zo7:=oT (.cons Zb8 (.cons Qp9 (.nil))) Tryz.func201 Tryz.call201 [.sl (.recs .apiOutput) true] [] 2
def Qf3(m:List Int)(frame:Int):Tree Bool:=
.lv (Q0q m) λ(x0:Int)=> .lf (decide (wrap u64 frame<wrap u64 x0))
def Q9r m frame:=(Qf3 m frame).m
def Zcw:Q0b:=mS 194 [] true [.one (.ints .u32), .one (.int .u32)] [] (λa r=>Qf3 (argL .u32 a 0) (argI a 1)) (λX=> .bool X) (λX=>[])
theorem Qtj:Q04 pG Zcw:=oS (.cons Q3y (.nil)) Tryz.func194 Tryz.call194 [] [] 2
def Qgm(n:Q0n)(m:List Int)(at0:Int):Tree (List Q09):=
.br (decide (n.D8<1)) (.lf ([])) (.br (decide (n.D8>128)) (.lf ([])) (.lv (Q9r m n.Frame) λ(x0:Bool)=> .br (!x0) (.lf ([])) (.an (Qc5 m (wrap i64 n.Frame)) (.lv (Q56 m (wrap i64 n.Frame)) λ(x1:List UInt8×Bool)=> .cn (decide ((0:Int)<=(0:Int)/\0<=n.D8/\n.D8<=(x1.1.length:Int))) (.lf ([{C3:=2,At:=at0,C1:=0,C9:=dC (dG n.D8-dG 0) (dD (dG 0) x1.1)}]))))))
def Z8v n m at0:=(Qgm n m at0).m
abbrev Qx5 n m at0:=(Qgm n m at0).p
def Zmo:Q0b:=mT 252 [] true [.agg Q0n.sig, .one (.ints .u32), .one (.int .u64)] [] (λa r=>Qgm (Q0n.of (aC a 0)) (argL .u32 a 1) (argI a 2)) (λX=> .sl 4 (.recs .apiOutput X) true) (λX=>[])
theorem Zh6:Q04 pG Zmo:=oT (.cons Qtj (.cons Qra (.nil))) Tryz.func252 Tryz.call252 [.sl (.recs .apiOutput) true] [] 2
def Qk6(n:Q0n)(m:List Int)(port v at0:Int):Tree (Q0n×(List Q09)):=
.br (port==7) (.lf ({Frame:=v,D8:=n.D8,C5:=n.C5,C0:=n.C0,B6:=n.B6,D9:=n.D9},[])) (.br (port==8) (.lf ({Frame:=n.Frame,D8:=v,C5:=n.C5,C0:=n.C0,B6:=n.B6,D9:=n.D9},[])) (.br (port==9) (.br (v==1) (.an (Qx5 n m at0) (.lv (Z8v n m at0) λ(x0:List Q09)=> .lf (n,x0))) (.br (v==2) (.lv (Q9r m n.Frame) λ(x1:Bool)=> .br x1 (.br (!n.C5) (.br (!n.B6) (.lf ({Frame:=n.Frame,D8:=n.D8,C5:=true,C0:=n.Frame,B6:=n.B6,D9:=n.D9},[])) (.lf (n,[]))) (.lf (n,[]))) (.lf (n,[]))) (.br (v==0) (.lf ({Frame:=n.Frame,D8:=n.D8,C5:=n.C5,C0:=n.C0,B6:=false,D9:=0},[])) (.lf (n,[]))))) (.lf (n,[]))))
def Zbz n m port v at0:=(Qk6 n m port v at0).m
abbrev Z2w n m port v at0:=(Qk6 n m port v at0).p
def vB:Q0b:=mT 202 [] true [.agg Q0n.sig, .one (.ints .u32), .one (.int .i64), .one (.int .u32), .one (.int .u64)] [] (λa r=>Qk6 (Q0n.of (aC a 0)) (argL .u32 a 1) (argI a 2) (argI a 3) (argI a 4)) (λX=> .tup [.agg (Q0n.cells (X.1)), .sl 4 (.recs .apiOutput (X.2)) true]) (λX=>[])
theorem Zob:Q04 pG vB:=oT (.cons Zh6 (.cons Qtj (.nil))) Tryz.func202 Tryz.call202 [.sl (.recs .apiOutput) true] [] 2
def Qa6(m:List Int)(frame:Int)(s:List UInt8)(z:(Int)×(List Int)):Nat:=(32-z.1).toNat
def Q3a(m:List Int)(frame:Int)(s:List UInt8):Tree ((List Int)×Bool):=
.an (Q06 m) (.lv (Q03 m) λ(x0:List Int)=> .lv (Q4u m frame) λ(x1:Bool)=> .br (!x1) (.lf (x0,false)) (.br ((s.length:Int) !=(128:Int)) (.lf (x0,false)) (.lp inferInstance (Qa6 m frame s (0,x0)+1) ((rE (s:List UInt8)/\True/\rE ((wrap i64 (frame*32)):Int)/\rE (0:Int)/\True)/\rE (x0:List Int)/\True) (0,x0) λ(v0:Int×List Int)=> .br (decide (v0.1<32)) (.cn (decide (0<=wrap i64 (4*v0.1)/\wrap i64 (4*v0.1)<=wrap i64 (wrap i64 (4*v0.1)+4)/\wrap i64 (wrap i64 (4*v0.1)+4)<=(s.length:Int))) (let E1:=dC (dG (wrap i64 (wrap i64 (4*v0.1)+4))-dG (wrap i64 (4*v0.1))) (dD (dG (wrap i64 (4*v0.1))) s); .cn (decide ((0:Int)<=(0:Int)/\0<(↑(dL E1):Int))) (.cn (decide ((0:Int)<=(1:Int)/\1<(↑(dL E1):Int))) (.cn (decide ((0:Int)<=(2:Int)/\2<(↑(dL E1):Int))) (.cn (decide ((0:Int)<=(3:Int)/\3<(↑(dL E1):Int))) (.cn (bS 1 1&&bT 0 1&&decide (0<=wrap i64 (wrap i64 (frame*32)+v0.1)/\wrap i64 (wrap i64 (frame*32)+v0.1)<(v0.2.length:Int))) (.nx ((rE (s:List UInt8)/\True/\rE ((wrap i64 (frame*32)):Int)/\rE ((wrap i64 (v0.1+1)):Int)/\True)/\rE ((dH v0.2 (dG (wrap i64 (wrap i64 (frame*32)+v0.1))) (ior u32 (ior u32 (ior u32 (wrap u32 (↑(fB (aK (dC (dG (wrap i64 (wrap i64 (4*v0.1)+4))-dG (wrap i64 (4*v0.1))) (dD (dG (wrap i64 (4*v0.1))) s)) (dG 0) (0:UInt8))):Int)) (ishl u32 (wrap u32 (↑(fB (aK (dC (dG (wrap i64 (wrap i64 (4*v0.1)+4))-dG (wrap i64 (4*v0.1))) (dD (dG (wrap i64 (4*v0.1))) s)) (dG 1) (0:UInt8))):Int)) 8)) (ishl u32 (wrap u32 (↑(fB (aK (dC (dG (wrap i64 (wrap i64 (4*v0.1)+4))-dG (wrap i64 (4*v0.1))) (dD (dG (wrap i64 (4*v0.1))) s)) (dG 2) (0:UInt8))):Int)) 16)) (ishl u32 (wrap u32 (↑(fB (aK (dC (dG (wrap i64 (wrap i64 (4*v0.1)+4))-dG (wrap i64 (4*v0.1))) (dD (dG (wrap i64 (4*v0.1))) s)) (dG 3) (0:UInt8))):Int)) 24))):List Int)/\True) (Sum.inl (wrap i64 (v0.1+1),dH v0.2 (dG (wrap i64 (wrap i64 (frame*32)+v0.1))) (ior u32 (ior u32 (ior u32 (wrap u32 (↑(fB (aK E1 (dG 0) (0:UInt8))):Int)) (ishl u32 (wrap u32 (↑(fB (aK E1 (dG 1) (0:UInt8))):Int)) 8)) (ishl u32 (wrap u32 (↑(fB (aK E1 (dG 2) (0:UInt8))):Int)) 16)) (ishl u32 (wrap u32 (↑(fB (aK E1 (dG 3) (0:UInt8))):Int)) 24))))))))))) (.lf (Sum.inr (v0.2,true))))))
def Q2m m frame s:=(Q3a m frame s).m
abbrev Q8g m frame s:=(Q3a m frame s).p
def Qvq:LInv:={
 α:=(Int)×(List Int)
 F:=λst a=>([(2,(lk st 2)),(8, .all 0),(9,(lk st 9)),(26, .int i64 a.1)],[⟨false,25,1, .ints u32 a.2⟩])
 a0:=λst=>((lk st 26).toInt,(Q2f st.rows (rN st 8)))
 ex0:=λst=>[]++[(rX st 8 0)]}
def Qry:List (Nat×LInv):=[(6,Qvq)]
def Qyu:Q0b:=mT 144 [] true [.one (.ints .u32), .one (.int .i64), .one (.str)] [] (λa r=>Q3a (argL .u32 a 0) (argI a 1) (argS a 2)) (λX=> .tup [.all 0, .bool (X.2)]) (λX=>[⟨false,25,1, .ints .u32 (X.1)⟩])
theorem Qvt:Q04 pG Qyu:=oT (.cons Q1m (.cons Qkk (.nil))) Tryz.func144 Tryz.call144 [.row 25 1 (.ints .u32)] Qry 3
def strings_Repeat(s:List UInt8)(count:Int):(List UInt8):=
Lib.repeatL s count.toNat
def Qck(s:List UInt8)(count:Int):Prop:=
0<=count/\count<=9223372036854775807/\s.length*count.toNat<=140737488355328
def Qh7(s:List UInt8)(count:Int):List D:=[.str s, .int .i64 count]
def Qhu(s:List UInt8)(count:Int):List Row:=[]
def Qcj(X:List UInt8):D:= .str X
def Qca(X:List UInt8):List Row:=[]
def Qj:List PT:=[.one (.str), .one (.int .i64)]
def Qgz:List RT:=[]
def Qu(args:List D)(rows:List Row):(List UInt8):=strings_Repeat (argS args 0) (argI args 1)
def Qtl(args:List D)(rows:List Row):Prop:=Qck (argS args 0) (argI args 1)
def Qyr:Q0b:=mkP 253 [] true Qj Qgz Qtl Qu Qcj Qca
theorem Qqc(s:List UInt8)(count:Int)(hw:Qck s count):Q4c pG 253 (Qh7 s count) (Qhu s count) (Qcj (strings_Repeat s count)) (Qca (strings_Repeat s count)):=by
 exact xe Tryz.strings_Repeat hw.1 hw.2.1 hw.2.2
set_option maxRecDepth 100000 in
theorem Qrl(args:List D)(rows:List Row):Qek Qj args 0=Qh7 (argS args 0) (argI args 1):=by kernel_rfl
set_option maxRecDepth 100000 in
theorem Qq9(args:List D)(rows:List Row):Q5f Qgz rows 0=Qhu (argS args 0) (argI args 1):=by kernel_rfl
set_option maxRecDepth 100000 in
theorem Qv(X:List UInt8):(ffB (Qcj X)&&ffBR (Qca X))=true:=by kernel_rfl
theorem Qv6:Q04 pG Qyr:=Zfi Tryz.call253 (λargs rows hp=>by rw[Qrl args rows,Qq9 args rows];exact Qqc (argS args 0) (argI args 1) hp) (λ_ X=>Qv X)
def Q3u(b:Q07)(m:List Int)(port v:Int):Tree (Q07×(List Int)):=
let T1:Tree ((Q07×(List Int))):= .an (Q06 m) (.lv (Q03 m) λ(x0:List Int)=> .lf (b,x0)); .br (decide (v>=32)) T1 (.cn (decide (0<=v)) (.br (port==10) (.lv (Q0q m) λ(x1:Int)=> .br (decide (wrap i64 v<x1)) (.br (iand u32 b.C2 (ishl u32 1 v)==0) (.an (Qck [(0:UInt8)] 128) (.lv (strings_Repeat [(0:UInt8)] 128) λ(x2:List UInt8)=> .an (Q8g m (wrap i64 v) x2) (.lv (Q2m m (wrap i64 v) x2) λ(x3:List Int×Bool)=> .lf ({C6:=b.C6,C2:=ior u32 b.C2 (ishl u32 1 v)},x3.1)))) T1) T1) (.br (port==11) (.an (Q06 m) (.lv (Q03 m) λ(x6:List Int)=> .lf ({C6:=b.C6,C2:=Qg7 u32 b.C2 (ishl u32 1 v)},x6))) T1)))
def Q7i b m port v:=(Q3u b m port v).m
abbrev Qnb b m port v:=(Q3u b m port v).p
def Zau:Q0b:=mT 203 [] true [.agg Q07.sig, .one (.ints .u32), .one (.int .i64), .one (.int .u32)] [] (λa r=>Q3u (Q07.of (aC a 0)) (argL .u32 a 1) (argI a 2) (argI a 3)) (λX=> .tup [.agg (Q07.cells (X.1)), .all 0]) (λX=>[⟨false,25,1, .ints .u32 (X.2)⟩])
theorem Z5k:Q04 pG Zau:=oT (.cons Q1m (.cons Q3y (.cons Qvt (.cons Qv6 (.nil))))) Tryz.func203 Tryz.call203 [.row 25 1 (.ints .u32)] [] 2
def Q3l(m:Q00)(port v at0:Int):Tree (Q00×(List Q09)):=
.br (port==0) (.lf (m,[{C3:=1,At:=at0,C1:=0,C9:=[(λ(n:Int)=>UInt8.ofNat n.toNat) (wrap u8 v)]}])) (.br (port==3) (.lv (Ql4 m.A7 v) λ(x0:Q0i)=> .lf ({B1:=m.B1,Mem:=m.Mem,A2:=m.A2,A7:=x0,A9:=m.A9,B9:=m.B9,A1:=m.A1,A4:=m.A4,A3:=m.A3,A6:=m.A6},[])) (let T1:Tree ((Q00×(List Q09))):= .an (Qxz m.A9 m.Mem port v at0) (.lv (Qzq m.A9 m.Mem port v at0) λ(x1:Q0d×List Q09)=> .lf ({B1:=m.B1,Mem:=m.Mem,A2:=m.A2,A7:=m.A7,A9:=x1.1,B9:=m.B9,A1:=m.A1,A4:=m.A4,A3:=m.A3,A6:=m.A6},x1.2)); .br (port==4) T1 (.br (port==5) T1 (.br (port==6) T1 (let T2:Tree ((Q00×(List Q09))):= .an (Z2w m.B9 m.Mem port v at0) (.lv (Zbz m.B9 m.Mem port v at0) λ(x4:Q0n×List Q09)=> .lf ({B1:=m.B1,Mem:=m.Mem,A2:=m.A2,A7:=m.A7,A9:=m.A9,B9:=x4.1,A1:=m.A1,A4:=m.A4,A3:=m.A3,A6:=m.A6},x4.2)); .br (port==7) T2 (.br (port==8) T2 (.br (port==9) T2 (let T3:Tree ((Q00×(List Q09))):= .an (Qnb m.A1 m.Mem port v) (.lv (Q7i m.A1 m.Mem port v) λ(x7:Q07×List Int)=> .lf ({B1:=m.B1,Mem:=x7.2,A2:=m.A2,A7:=m.A7,A9:=m.A9,B9:=m.B9,A1:=x7.1,A4:=m.A4,A3:=m.A3,A6:=m.A6},[])); .br (port==10) T3 (.br (port==11) T3 (.lf (m,[])))))))))))
def Q23 m port v at0:=(Q3l m port v at0).m
abbrev Q9a m port v at0:=(Q3l m port v at0).p
def Qrj:Q0b:=Q0b.fz<|mkP 135 [] false [.agg Q00.sig, .one (.int .i64), .one (.int .u32), .one (.int .u64)] [] (λa r=>Q9a (Q00.of (aC a 0)) (argI a 1) (argI a 2) (argI a 3)) (λa r=>Q23 (Q00.of (aC a 0)) (argI a 1) (argI a 2) (argI a 3)) (λX=> .tup [.agg (Q00.cells (X.1)), .sl 4 (.recs .apiOutput (X.2)) true]) (λX=>[])
theorem Qqd:Q04 pG Qrj:=fz_ok<|Q0k drawn Q0g (.cons Zfy (.cons Zi3 (.cons Zob (.cons Z5k (.nil))))) Tryz.func135 Tryz.call135 (λa r=>Q3l (Q00.of (aC a 0)) (argI a 1) (argI a 2) (argI a 3)) [.sl (.ints .u32) false, .sl (.recs .apiOutput) true] [] 2 (λ_ _ _=>by kernel_rfl) (λ_ _=>rfl) (λ_ _ h=>h) (λh=>by cases h)
def Qjy(m:Q00)(clock:Int):Tree (Q00×(List Q09)):=
.an (Q06 m.Mem) (.lv (Q03 m.Mem) λ(x0:List Int)=>let E1:=({B1:=m.B1,Mem:=x0,A2:=m.A2,A7:=m.A7,A9:=m.A9,B9:=m.B9,A1:=m.A1,A4:=m.A4,A3:=m.A3,A6:=m.A6}:Q00); .an (Q7s E1) (.lv (Q25 E1) λ(x1:Bool)=> .br (!x1) (.lf (E1,[])) (.an (Q7 E1) (.lv (Q0s E1) λ(x2:Q00)=> .an (Qeb x2.B1 x2.Mem) (.lv (Q6j x2.B1 x2.Mem) λ(x3:Q02×List Int×Q0w)=>let E2:=({B1:=x3.1,Mem:=x3.2.1,A2:=x2.A2,A7:=x2.A7,A9:=x2.A9,B9:=x2.B9,A1:=x2.A1,A4:=x2.A4,A3:=x2.A3,A6:=x2.A6}:Q00); .br (x3.2.2.C3==1) (.an (Qa4 E2 x3.2.2.C7 clock) (.lv (Q12 E2 x3.2.2.C7 clock) λ(x4:Q00×Int)=> .br (x3.2.2.D7 !=0) (.cn (bT 0 1&&decide (0<=x3.2.2.D7/\x3.2.2.D7<(↑16:Int))) (.lf ({B1:={X:=A16.of 0 (dH (A16.l x4.1.B1.X) x3.2.2.D7.toNat x4.2),Pc:=x4.1.B1.Pc,B4:=x4.1.B1.B4},Mem:=x4.1.Mem,A2:=x4.1.A2,A7:=x4.1.A7,A9:=x4.1.A9,B9:=x4.1.B9,A1:=x4.1.A1,A4:=wrap u64 (x4.1.A4+1),A3:=x4.1.A3,A6:=x4.1.A6},[]))) (.lf ({B1:=x4.1.B1,Mem:=x4.1.Mem,A2:=x4.1.A2,A7:=x4.1.A7,A9:=x4.1.A9,B9:=x4.1.B9,A1:=x4.1.A1,A4:=wrap u64 (x4.1.A4+1),A3:=x4.1.A3,A6:=x4.1.A6},[])))) (.br (x3.2.2.C3==2) (.an (Q9a E2 x3.2.2.C7 x3.2.2.Value m.A4) (.lv (Q23 E2 x3.2.2.C7 x3.2.2.Value m.A4) λ(x5:Q00×List Q09)=> .lf ({B1:=x5.1.B1,Mem:=x5.1.Mem,A2:=x5.1.A2,A7:=x5.1.A7,A9:=x5.1.A9,B9:=x5.1.B9,A1:=x5.1.A1,A4:=wrap u64 (x5.1.A4+1),A3:=x5.1.A3,A6:=x5.1.A6},x5.2))) (.br (x3.2.2.C3==3) (.lf ({B1:=x3.1,Mem:=x3.2.1,A2:=x2.A2,A7:=x2.A7,A9:=x2.A9,B9:=x2.B9,A1:=x2.A1,A4:=wrap u64 (x2.A4+1),A3:=true,A6:=x2.A6},[])) (.br (x3.2.2.C3==4) (.lf ({B1:=x3.1,Mem:=x3.2.1,A2:=x2.A2,A7:=x2.A7,A9:=x2.A9,B9:=x2.B9,A1:=x2.A1,A4:=wrap u64 (x2.A4+1),A3:=x2.A3,A6:=true},[])) (.lf ({B1:=x3.1,Mem:=x3.2.1,A2:=x2.A2,A7:=x2.A7,A9:=x2.A9,B9:=x2.B9,A1:=x2.A1,A4:=wrap u64 (x2.A4+1),A3:=x2.A3,A6:=x2.A6},[]))))))))))
def Qj0 m clock:=(Qjy m clock).m
end
noncomputable section
def Z1p(op:Int):Tree Int:=
let T1:Tree (Int):= .br (op==49) (.lf 3) (let T2:Tree (Int):= .br (op==24) (.lf 6) (.br (op==48) (.lf 7) (.br (op==58) (.lf 8) (.br (op==59) (.lf 8) (.br (op==60) (.lf 9) (.br (op==61) (.lf 9) (.br (op==56) (.lf 1) (.br (op==57) (.lf 1) (.br (decide (op>=62)) (.br (decide (op<=64)) (.lf 1) (.lf 0)) (.lf 0))))))))); .br (decide (op>=17)) (.br (decide (op<=19)) (.lf 4) (.br (decide (op>=20)) (.br (decide (op<=22)) (.lf 5) T2) T2)) (.br (decide (op>=20)) (.br (decide (op<=22)) (.lf 5) T2) T2));let T3:Tree (Int):= .br (op==16) (.lf 3) (.br (op==23) (.lf 3) (.br (decide (op>=32)) (.br (decide (op<=36)) (.lf 3) (.br (decide (op>=40)) (.br (decide (op<=45)) (.lf 3) T1) T1)) (.br (decide (op>=40)) (.br (decide (op<=45)) (.lf 3) T1) T1))); .br (decide (op>=1)) (.br (decide (op<=13)) (.lf 2) T3) T3
def Q2d op:=(Z1p op).m
def Zgy:Q0b:=mS 191 [] true [.one (.int .i64)] [] (λa r=>Z1p (argI a 0)) (λX=> .int .i64 X) (λX=>[])
theorem Qeh:Q04 pG Zgy:=oS (.nil) Tryz.func191 Tryz.call191 [] [] 2
def Qcs(r:Int):Tree Bool:=
.br (decide (r>=0)) (.lf (decide (r<=15))) (.lf false)
def Q7b r:=(Qcs r).m
def Z22:Q0b:=mS 225 [] true [.one (.int .i64)] [] (λa r=>Qcs (argI a 0)) (λX=> .bool X) (λX=>[])
theorem Qzf:Q04 pG Z22:=oS (.nil) Tryz.func225 Tryz.call225 [] [] 2
def Qlp(f:Int):Tree (Int×Int):=
.br (f==3) (.lf ((-32768),32767)) (.br (f==7) (.lf ((-32768),32767)) (.br (f==4) (.lf (0,65535)) (.br (f==6) (.lf (0,65535)) (.br (f==5) (.lf (0,31)) (.br (f==8) (.lf (0,7)) (.br (f==9) (.lf (0,11)) (.lf (0,0))))))))
def Qld f:=(Qlp f).m
def Z9f:Q0b:=mS 192 [] true [.one (.int .i64)] [] (λa r=>Qlp (argI a 0)) (λX=> .tup [.int .i64 (X.1), .int .i64 (X.2)]) (λX=>[])
theorem Qrb:Q04 pG Z9f:=oS (.nil) Tryz.func192 Tryz.call192 [] [] 2
def Qe9(i:Q0h):Tree Bool:=
.lv (Q2d i.Op) λ(x0:Int)=> .br (x0==0) (.lf false) (.lv (Q7b i.A) λ(x1:Bool)=> .br (!x1) (.lf false) (.lv (Q7b i.B) λ(x2:Bool)=> .br (!x2) (.lf false) (.lv (Q7b i.C) λ(x3:Bool)=> .br (!x3) (.lf false) (.lv (Qld x0) λ(x4:Int×Int)=> .br (decide (wrap i64 i.Imm<x4.1)) (.lf false) (.br (decide (wrap i64 i.Imm>x4.2)) (.lf false) (let T1:Tree (Bool):= .br (x0==1) (.br (i.A !=0) (.lf false) (.br (i.B==0) (.lf true) (.br (decide (x0>=2)) (.lf (decide (x0<=5))) (.lf false)))) (.br (i.B==0) (.lf true) (.br (decide (x0>=2)) (.lf (decide (x0<=5))) (.lf false))); .br (x0 !=2) (.br (i.C !=0) (.lf false) T1) T1))))))
def Q6v i:=(Qe9 i).m
def Ze2:Q0b:=mS 167 [] true [.agg Q0h.sig] [] (λa r=>Qe9 (Q0h.of (aC a 0))) (λX=> .bool X) (λX=>[])
theorem Qsr:Q04 pG Ze2:=oS (.cons Qeh (.cons Qzf (.cons Qrb (.nil)))) Tryz.func167 Tryz.call167 [] [] 2
def Qgc(i:Q0h):Tree (Int×Bool):=
.lv (Q6v i) λ(x0:Bool)=> .br (!x0) (.lf (0,false)) (.lf (ior u32 (ior u32 (ior u32 (ior u32 (ishl u32 (wrap u32 i.Op) 24) (ishl u32 (wrap u32 i.A) 20)) (ishl u32 (wrap u32 i.B) 16)) (iand u32 (wrap u32 i.Imm) 65535)) (wrap u32 i.C),true))
def Q1a i:=(Qgc i).m
def Zah:Q0b:=mS 82 [] true [.agg Q0h.sig] [] (λa r=>Qgc (Q0h.of (aC a 0))) (λX=> .tup [.int .u32 (X.1), .bool (X.2)]) (λX=>[])
theorem Qe3:Q04 pG Zah:=oS (.cons Qsr (.nil)) Tryz.func82 Tryz.call82 [] [] 2
def Z7l:Tree (List Int):=
.lf ([1,2,3,4,5,6,7,8,9,10,11,12,13,16,16,17,18,19,20,21,22,23,24,24,32,32,33,34,35,35,36,40,41,42,43,44,45,48,49,56,57,58,59,60,60,61,61,62,63,64])
def Zb2:(List Int):=(Z7l).m
def Znb:Q0b:=mS 168 [] true [] [] (λa r=>Z7l) (λX=> .sl 1 (.ints .i64 X) true) (λX=>[])
theorem Zhn:Q04 pG Znb:=oS (.nil) Tryz.func168 Tryz.call168 [.sl (.ints .i64) true] [] 2
def Z0n(seed:Int):Tree (Int×Int):=
let E1:=wrap u64 (ixor u64 (wrap u64 (seed+11400714819323198485)) (ishr u64 (wrap u64 (seed+11400714819323198485)) 30)*13787848793156543929);let E2:=wrap u64 (ixor u64 E1 (ishr u64 E1 27)*10723151780598845931); .lf (ixor u64 E2 (ishr u64 E2 31),wrap u64 (seed+11400714819323198485))
def Zd2 seed:=(Z0n seed).m
def Zh3:Q0b:=mS 162 [] true [.one (.int .u64)] [] (λa r=>Z0n (argI a 0)) (λX=> .tup [.int .u64 (X.1), .int .u64 (X.2)]) (λX=>[])
theorem Zce:Q04 pG Zh3:=oS (.nil) Tryz.func162 Tryz.call162 [] [] 2
def Z8c(n k:Int):Tree Int:=
.lv (Zd2 (ixor u64 (wrap u64 n) (wrap u64 (wrap u64 k*11400714819323198485)))) λ(x0:Int×Int)=> .lf (wrap i64 (ishr u64 x0.1 1))
def Qa1 n k:=(Z8c n k).m
def Zmn:Q0b:=mS 77 [] true [.one (.int .i64), .one (.int .i64)] [] (λa r=>Z8c (argI a 0) (argI a 1)) (λX=> .int .i64 X) (λX=>[])
theorem Qmb:Q04 pG Zmn:=oS (.cons Zce (.nil)) Tryz.func77 Tryz.call77 [] [] 2
def Qnp(n k:Int):Tree Int:=
.cn (decide (k≠0)) (.br (decide (dF n k<0)) (.lf (wrap i64 (dF n k+k))) (.lf (dF n k)))
def Q1y n k:=(Qnp n k).m
abbrev Q1l n k:=(Qnp n k).p
def Zco:Q0b:=mT 50 [] true [.one (.int .i64), .one (.int .i64)] [] (λa r=>Qnp (argI a 0) (argI a 1)) (λX=> .int .i64 X) (λX=>[])
theorem Qg5:Q04 pG Zco:=oT (.nil) Tryz.func50 Tryz.call50 [] [] 2
def Qmc(n:Int):Tree Q0h:=
.lv Zb2 λ(x0:List Int)=> .lv (Qa1 n 1) λ(x1:Int)=> .an (Q1l x1 (x0.length:Int)) (.lv (Q1y x1 (x0.length:Int)) λ(x2:Int)=> .cn (bS 1 1&&bT 0 1&&decide (0<=x2/\x2<(x0.length:Int))) (.an (Q1l (ishr i64 x1 8) 6) (.lv (Q1y (ishr i64 x1 8) 6) λ(x3:Int)=> .an (Q1l (ishr i64 x1 12) 6) (.lv (Q1y (ishr i64 x1 12) 6) λ(x4:Int)=> .an (Q1l (ishr i64 x1 16) 6) (.lv (Q1y (ishr i64 x1 16) 6) λ(x5:Int)=> .an (Q1l (ishr i64 x1 20) 24) (.lv (Q1y (ishr i64 x1 20) 24) λ(x6:Int)=> .br (decide (x0.getD x2.toNat (0:Int)<=(13:Int))) (.lf ({Op:=x0.getD x2.toNat 0,A:=x3,B:=x4,C:=x5,Imm:=0})) (let E4:=({Op:=x0.getD x2.toNat 0,A:=x3,B:=x4,C:=0,Imm:=wrap i32 (wrap i64 (wrap i64 (8*x6)-32))}:Q0h);let T1:Tree (Q0h):= .br (x0.getD x2.toNat (0:Int)==(49:Int)) (.lf (E4)) (.br (x0.getD x2.toNat (0:Int)==(24:Int)) (.lf ({Op:=x0.getD x2.toNat 0,A:=x3,B:=0,C:=0,Imm:=wrap i32 (wrap i64 (x6*iand i64 (ishr i64 x1 40) 1))})) (let T2:Tree (Q0h):=let E6:=({Op:=x0.getD x2.toNat 0,A:=x3,B:=0,C:=0,Imm:=wrap i32 (dF x6 8)}:Q0h); .br (x0.getD x2.toNat (0:Int)==(58:Int)) (.lf (E6)) (.br (x0.getD x2.toNat (0:Int)==(59:Int)) (.lf (E6)) (let E5:=({Op:=x0.getD x2.toNat 0,A:=x3,B:=0,C:=0,Imm:=wrap i32 (dF x6 12)}:Q0h); .br (x0.getD x2.toNat (0:Int)==(60:Int)) (.lf (E5)) (.br (x0.getD x2.toNat (0:Int)==(61:Int)) (.lf (E5)) (.lf ({Op:=x0.getD x2.toNat 0,A:=0,B:=0,C:=0,Imm:=0}))))); .br (decide (x0.getD x2.toNat (0:Int)>=(17:Int))) (.br (decide (x0.getD x2.toNat (0:Int)<=(22:Int))) (.lf ({Op:=x0.getD x2.toNat 0,A:=x3,B:=x4,C:=0,Imm:=wrap i32 x6})) T2) T2));let T3:Tree (Q0h):= .br (x0.getD x2.toNat (0:Int)==(16:Int)) (.lf (E4)) (.br (x0.getD x2.toNat (0:Int)==(23:Int)) (.lf (E4)) (.br (decide (x0.getD x2.toNat (0:Int)>=(32:Int))) (.br (decide (x0.getD x2.toNat (0:Int)<=(36:Int))) (.lf (E4)) T1) T1)); .br (decide (x0.getD x2.toNat (0:Int)>=(40:Int))) (.br (decide (x0.getD x2.toNat (0:Int)<=(48:Int))) (.br (x0.getD x2.toNat (0:Int)==(48:Int)) (.lf ({Op:=x0.getD x2.toNat 0,A:=x3,B:=0,C:=0,Imm:=wrap i32 (wrap i64 (x6-12))})) (.lf ({Op:=x0.getD x2.toNat 0,A:=x3,B:=x4,C:=0,Imm:=wrap i32 (wrap i64 (x6-12))}))) T3) T3)))))))
def Z3 n:=(Qmc n).m
abbrev Qc4 n:=(Qmc n).p
def Zh2:Q0b:=mT 83 [] true [.one (.int .i64)] [] (λa r=>Qmc (argI a 0)) (λX=> .agg (Q0h.cells X)) (λX=>[])
theorem Qxu:Q04 pG Zh2:=oT (.cons Zhn (.cons Qmb (.cons Qg5 (.nil)))) Tryz.func83 Tryz.call83 [] [] 2
def Qr9(l:List Int)(z:(Int)×(List Int)):Prop:=0<=z.1/\z.1<=l.length/\(z.2.length:Int)=z.1
def Qc8(l:List Int)(z:(Int)×(List Int)):Nat:=(l.length-z.1).toNat
def Qhg(l:List Int):Tree (List Int):=
.lp inferInstance (Qc8 l (0,[])+1) ((((Els.Nil (Els.ints i64 l)\/rE (1:Nat))/\rE (l:List Int))/\True/\rE (0:Int)/\True)/\rE ([]:List Int)/\True) (0,[]) λ(v0:Int×List Int)=> .br (decide (v0.1<(l.length:Int))) (let E1:=bS 1 1&&bT 0 1&&decide (0<=v0.1/\v0.1<(l.length:Int)); .cn E1 (let E2:=decide (4*(v0.2.length+1)<=140737488355328); .br (dF (l.getD v0.1.toNat 0) (17:Int)==(0:Int)) (.cn E1 (.cn E2 (.nx ((((Els.Nil (Els.ints i64 l)\/rE (1:Nat))/\rE (l:List Int))/\True/\rE ((wrap i64 (v0.1+1)):Int)/\True)/\rE ((v0.2++[wrap u32 (iand i64 (l.getD v0.1.toNat 0) 4294967295)]):List Int)/\True) (Sum.inl (wrap i64 (v0.1+1),v0.2++[wrap u32 (iand i64 (l.getD v0.1.toNat 0) 4294967295)]))))) (.cn E1 (.an (Qc4 (l.getD v0.1.toNat 0)) (.lv (Z3 (l.getD v0.1.toNat 0)) λ(x0:Q0h)=> .lv (Q1a x0) λ(x1:Int×Bool)=> .cn E2 (.nx ((((Els.Nil (Els.ints i64 l)\/rE (1:Nat))/\rE (l:List Int))/\True/\rE ((wrap i64 (v0.1+1)):Int)/\True)/\rE ((v0.2++[x1.1]):List Int)/\True) (Sum.inl (wrap i64 (v0.1+1),v0.2++[x1.1])))))))) (.lf (Sum.inr v0.2))
def Qia l:=(Qhg l).m
abbrev Qlw l:=(Qhg l).p
def Zeb:LInv:={
 α:=(Int)×(List Int)
 F:=λst a=>([(0,(lk st 0)),(3, .all 0),(4, .int i64 a.1)],[⟨false,25,1, .ints u32 a.2⟩])
 a0:=λst=>((lk st 4).toInt,(Q2f st.rows (rN st 3)))
 ex0:=λst=>[]++[(rX st 3 0)]}
def Z5b:List (Nat×LInv):=[(3,Zeb)]
def Zi2:Q0b:=mT 138 [] true [.one (.ints .i64)] [] (λa r=>Qhg (argL .i64 a 0)) (λX=> .all 0) (λX=>[⟨false,25,1, .ints .u32 X⟩])
theorem Zeu:Q04 pG Zi2:=oT (.cons Qe3 (.cons Qxu (.nil))) Tryz.func138 Tryz.call138 [.row 25 1 (.ints .u32)] Z5b 3
def Qjc(pc:Int):Tree Q02:=
.lf ({X:={a0:=0,a1:=0,a2:=0,a3:=0,a4:=0,a5:=0,a6:=0,a7:=0,a8:=0,a9:=0,a10:=0,a11:=0,a12:=0,a13:=0,a14:=0,a15:=0},Pc:=pc,B4:={a0:=1,a1:=0,a2:=0,a3:=0,a4:=0,a5:=0,a6:=0,a7:=0}})
def Qpz pc:=(Qjc pc).m
def Zdt:Q0b:=mS 127 [] true [.one (.int .u32)] [] (λa r=>Qjc (argI a 0)) (λX=> .agg (Q02.cells X)) (λX=>[])
theorem Zbl:Q04 pG Zdt:=oS (.nil) Tryz.func127 Tryz.call127 [] [] 2
def Qk0(pages:Int):Tree (List Int):=
.br (decide (pages<1)) (.lf ([])) (.br (decide (pages>32)) (.lf ([])) (.cn (bT 0 1&&bS 1 1&&List.all [D.int u32 0] D.plain&&decide (0<=wrap i64 (pages*32)/\wrap i64 (pages*32)<=wrap i64 (pages*32)/\wrap i64 (pages*32)<=9223372036854775807/\(↑4:Int)*wrap i64 (pages*32)<=140737488355328)) (.lf (List.replicate (dG (wrap i64 (pages*32))) 0))))
def Qtg pages:=(Qk0 pages).m
abbrev Qj5 pages:=(Qk0 pages).p
def Zno:Q0b:=mT 128 [] true [.one (.int .i64)] [] (λa r=>Qk0 (argI a 0)) (λX=> .all 0) (λX=>[⟨false,25,1, .ints .u32 X⟩])
theorem Zh1:Q04 pG Zno:=oT (.nil) Tryz.func128 Tryz.call128 [.row 25 1 (.ints .u32)] [] 2
def Q88(pages blocks:Int)(image:List Int):Tree (Q00×Bool):=
let T1:Tree ((Q00×Bool)):= .lf ({B1:={X:={a0:=0,a1:=0,a2:=0,a3:=0,a4:=0,a5:=0,a6:=0,a7:=0,a8:=0,a9:=0,a10:=0,a11:=0,a12:=0,a13:=0,a14:=0,a15:=0},Pc:=0,B4:={a0:=0,a1:=0,a2:=0,a3:=0,a4:=0,a5:=0,a6:=0,a7:=0}},Mem:=[],A2:={D0:=[]},A7:={D2:=false,C4:=0,D1:=false},A9:={Blocks:=0,C1:=0,Frame:=0,B8:=0,D4:=0,B5:=0,B2:=0,B7:=[]},B9:={Frame:=0,D8:=0,C5:=false,C0:=0,B6:=false,D9:=0},A1:={C6:=0,C2:=0},A4:=0,A3:=false,A6:=false},false); .br (decide (pages<1)) T1 (.br (decide (pages>32)) T1 (.br (decide (blocks<0)) T1 (.br (decide (blocks>64)) T1 (.br (decide ((image.length:Int)>wrap i64 (pages*32))) T1 (.lv (Qpz 0) λ(x0:Q02)=> .an (Qj5 pages) (.lv (Qtg pages) λ(x1:List Int)=> .lf ({B1:=x0,Mem:=dC (Min.min (image.length) (x1.length)) image++dD (Min.min (image.length) (x1.length)) x1,A2:={D0:=[]},A7:={D2:=false,C4:=0,D1:=false},A9:={Blocks:=wrap u32 blocks,C1:=0,Frame:=0,B8:=0,D4:=0,B5:=0,B2:=0,B7:=[]},B9:={Frame:=0,D8:=0,C5:=false,C0:=0,B6:=false,D9:=0},A1:={C6:=0,C2:=0},A4:=0,A3:=false,A6:=false},true)))))))
def Q1o pages blocks image:=(Q88 pages blocks image).m
abbrev Qem pages blocks image:=(Q88 pages blocks image).p
def Znw:Q0b:=mT 37 [] true [.one (.int .i64), .one (.int .i64), .one (.ints .u32)] [] (λa r=>Q88 (argI a 0) (argI a 1) (argL .u32 a 2)) (λX=> .tup [.agg (Q00.cellsW (X.1) (.all 0)), .bool (X.2)]) (λX=>[⟨false,25,1, .ints .u32 (X.1).Mem⟩])
theorem Ziw:Q04 pG Znw:=oT (.cons Zbl (.cons Zh1 (.nil))) Tryz.func37 Tryz.call37 [.row 25 1 (.ints .u32)] [] 2
def Q4k(m:Q00):Tree Bool:=
.an (Q7s m) (.lv (Q25 m) λ(x0:Bool)=> .br (!x0) (.lf false) (.an (Q7 m) (.lv (Q0s m) λ(x1:Q00)=> .an (Qeb x1.B1 x1.Mem) (.lv (Q6j x1.B1 x1.Mem) λ(x2:Q02×List Int×Q0w)=> .br (x2.2.2.C3==1) (.lf (x2.2.2.C7==2)) (.lf false)))))
def Q8f m:=(Q4k m).m
abbrev Q8a m:=(Q4k m).p
def Qqe:Q0b:=mT 30 [] true [.agg Q00.sig] [] (λa r=>Q4k (Q00.of (aC a 0))) (λX=> .bool X) (λX=>[])
theorem Qo7:Q04 pG Qqe:=oT (.cons Qnq (.cons Qmv (.cons Z1r (.nil)))) Tryz.func30 Tryz.call30 [] [] 2
