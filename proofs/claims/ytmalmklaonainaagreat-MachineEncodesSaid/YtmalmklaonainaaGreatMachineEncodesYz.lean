import Derived.Test.YtmalmklaonainaaGreatMachineEncodesFh
import Derived.Test.YtmalmklaonainaaGreatMachineEncodesYx
open List renaming take->dC, drop->dD, length->dL, set->dH, getD->aK
open Int renaming toNat->dG, tmod->dF
open UInt8 renaming toNat->eZ
open Nat renaming blt->bT, beq->bS, lt_succ_self->cO
set_option maxRecDepth 100000
set_option linter.all false
namespace Go.Proofs.YtmalmklaonainaaGreat
open Go Go.GD Go.IntKind
noncomputable section
def Q3m(m:Q00):Tree Bool:=
.an (Q55 m) (.lv (Q17 m) λ(x0:Bool)=> .br x0 (.br (!m.A6) (.an (Qf1 m) (.lv (Qev m) λ(x1:Bool)=> .br (!x1) (.lf (decide (m.A4<1152921504606846976))) (.lf false))) (.lf false)) (.lf false))
def Q3r m:=(Q3m m).m
abbrev Qag m:=(Q3m m).p
def Z43:Q0b:=mT 112 [] true [.agg Q00.sig] [] (λa r=>Q3m (Q00.of (aC a 0))) (λX=> .bool X) (λX=>[])
theorem Z1f:Q04 pG Z43:=oT (.cons Qq7 (.cons Z1r (.nil))) Tryz.func112 Tryz.call112 [] [] 2
def Qi7(m:Q00)(z:(Int)):Nat:=(5-z).toNat
def Q3x(m:Q00):Tree Q00:=
let E1:=({B1:=m.B1,Mem:=m.Mem,A2:=m.A2,A7:=m.A7,A9:=m.A9,B9:=m.B9,A1:=m.A1,A4:=m.A4,A3:=false,A6:=m.A6}:Q00); .br (iand u32 m.B1.B4.a0 (2:Int)==(0:Int)) (.lf (E1)) (.an (Qao E1) (.lv (Q4u E1) λ(x0:Int)=> .lp inferInstance (Qi7 m 0+1) ((rZ/\rZ/\rE (x0:Int)/\rE (0:Int)/\True)/\(rE m.B1.X.a0/\rE m.B1.X.a1/\rE m.B1.X.a2/\rE m.B1.X.a3/\rE m.B1.X.a4/\rE m.B1.X.a5/\rE m.B1.X.a6/\rE m.B1.X.a7/\rE m.B1.X.a8/\rE m.B1.X.a9/\rE m.B1.X.a10/\rE m.B1.X.a11/\rE m.B1.X.a12/\rE m.B1.X.a13/\rE m.B1.X.a14/\rE m.B1.X.a15/\rE m.B1.Pc/\rE m.B1.B4.a0/\rE m.B1.B4.a1/\rE m.B1.B4.a2/\rE m.B1.B4.a3/\rE m.B1.B4.a4/\rE m.B1.B4.a5/\rE m.B1.B4.a6/\rE m.B1.B4.a7/\((Els.Nil (Els.ints u32 m.Mem)\/rE (1:Nat))/\rE m.Mem)/\rE m.A2.D0/\rE m.A7.D2/\rE m.A7.C3/\rE m.A7.D1/\rE m.A9.Blocks/\rE m.A9.C1/\rE m.A9.Frame/\rE m.A9.B7/\rE m.A9.D4/\rE m.A9.B5/\rE m.A9.B2/\rE m.A9.B8/\rE m.B9.Frame/\rE m.B9.D8/\rE m.B9.C5/\rE m.B9.C0/\rE m.B9.B6/\rE m.B9.D9/\rE m.A1.C6/\rE m.A1.C2/\rE m.A4/\rE (false:Bool)/\rE m.A6/\True)/\(mE zM True True)/\True) 0 λ(v0:Int)=> .br (decide (v0<5)) (.cn (decide (0<=v0)) (.br (iand u32 x0 (ishl u32 1 v0) !=0) (.lv (Q3z m.B1 (wrap i64 (16+v0)) 0) λ(x1:Q02)=> .lf (Sum.inr {B1:=x1,Mem:=m.Mem,A2:=m.A2,A7:=m.A7,A9:=m.A9,B9:=m.B9,A1:=m.A1,A4:=m.A4,A3:=false,A6:=m.A6})) (.nx ((rZ/\rZ/\rE (x0:Int)/\rE ((wrap i64 (v0+1)):Int)/\True)/\(rE m.B1.X.a0/\rE m.B1.X.a1/\rE m.B1.X.a2/\rE m.B1.X.a3/\rE m.B1.X.a4/\rE m.B1.X.a5/\rE m.B1.X.a6/\rE m.B1.X.a7/\rE m.B1.X.a8/\rE m.B1.X.a9/\rE m.B1.X.a10/\rE m.B1.X.a11/\rE m.B1.X.a12/\rE m.B1.X.a13/\rE m.B1.X.a14/\rE m.B1.X.a15/\rE m.B1.Pc/\rE m.B1.B4.a0/\rE m.B1.B4.a1/\rE m.B1.B4.a2/\rE m.B1.B4.a3/\rE m.B1.B4.a4/\rE m.B1.B4.a5/\rE m.B1.B4.a6/\rE m.B1.B4.a7/\((Els.Nil (Els.ints u32 m.Mem)\/rE (1:Nat))/\rE m.Mem)/\rE m.A2.D0/\rE m.A7.D2/\rE m.A7.C3/\rE m.A7.D1/\rE m.A9.Blocks/\rE m.A9.C1/\rE m.A9.Frame/\rE m.A9.B7/\rE m.A9.D4/\rE m.A9.B5/\rE m.A9.B2/\rE m.A9.B8/\rE m.B9.Frame/\rE m.B9.D8/\rE m.B9.C5/\rE m.B9.C0/\rE m.B9.B6/\rE m.B9.D9/\rE m.A1.C6/\rE m.A1.C2/\rE m.A4/\rE (false:Bool)/\rE m.A6/\True)/\(mE zM True True)/\True) (Sum.inl (wrap i64 (v0+1)))))) (.lf (Sum.inr E1))))
def Q0y m:=(Q3x m).m
abbrev Q9l m:=(Q3x m).p
def Qxy:LInv:={
 α:=(Int)
 F:=λst a=>([(1, .ptr 0 0 0),(2, .ptr 1 0 0),(3,(lk st 3)),(15, .int i64 a)],[⟨true,43,49, .gen [mB (cT st 1)]⟩,⟨true,43,49, .gen [mB (cT st 2)]⟩])
 a0:=λst=>(lk st 15).toInt
 ex0:=λst=>[]++[(rX st 1 0),(rX st 2 1)]}
def Qst:List (Nat×LInv):=[(6,Qxy)]
def Z0x:Q0b:=Q0b.fz<|mkP 113 [] false [.agg Q00.sig] [] (λa r=>Q9l (Q00.of (aC a 0))) (λa r=>Q0y (Q00.of (aC a 0))) (λX=> .agg (Q00.cells X)) (λX=>[])
theorem Qya:Q04 pG Z0x:=fz_ok<|Q0j drawn Q0g (.cons Qii (.cons Qhz (.nil))) Tryz.func113 Tryz.call113 (λa r=>Q3x (Q00.of (aC a 0))) [.sl (.ints .u32) false] Qst 3 (λ_ _ _=>by kernel_rfl) (λ_ _=>rfl) (λ_ _ h=>h) (λh=>by cases h)
def Q8q(c:Q0c)(port:Int):Tree (Q0c×Int):=
.br (port==0) (.br (decide (c.D0=[])) (.lf (c,4294967295)) (.cn (decide ((0:Int)<=(0:Int)/\0<(c.D0.length:Int))) (.cn (decide ((0:Int)<=(1:Int)/\1<=(c.D0.length:Int)/\(c.D0.length:Int)<=(c.D0.length:Int))) (.lf ({D0:=dC (dG (c.D0.length:Int)-dG 1) (dD (dG 1) c.D0)},wrap u32 (↑(eZ (c.D0.getD (dG 0) (0:UInt8))):Int)))))) (.br (port==1) (.lf (c,wrap u32 (c.D0.length:Int))) (.lf (c,0)))
def Qox c port:=(Q8q c port).m
theorem Z5(c:Q0c)(port:Int):(Q8q c port).p:=by
 unfold Tree.p Q8q
 repeat'(first|exact trivial|refine w_br (λ_=> ?_) (λ_=> ?_)|refine w_cn ?_ ?_|refine w_an ?_ ?_|refine w_lv (λ_ _=> ?_)|refine w_nx ?_|refine w_lf ?_|refine And.intro ?_ ?_)
 all_goals(exact fin0)
def Zer:Q0b:=mS 195 [] true [.agg Q0c.sig, .one (.int .i64)] [] (λa r=>Q8q (Q0c.of (aC a 0)) (argI a 1)) (λX=> .tup [.agg (Q0c.cells (X.1)), .int .u32 (X.2)]) (λX=>[])
theorem Z8t:Q04 pG Zer:=oS (.nil) Tryz.func195 Tryz.call195 [] [] 2 (λ_ _ _=>by kernel_rfl) (λa r=>Z5 (Q0c.of (aC a 0)) (argI a 1)) (λ_ X=>by kernel_rfl)
def Qot(t:Q0h):Tree Int:=
.br t.D1 (.lf 1) (.lf 0)
def Qz4 t:=(Qot t).m
def Zlr:Q0b:=mS 196 [] true [.agg Q0h.sig] [] (λa r=>Qot (Q0h.of (aC a 0))) (λX=> .int .u32 X) (λX=>[])
theorem Zh3:Q04 pG Zlr:=oS (.nil) Tryz.func196 Tryz.call196 [] [] 2
def Qth(d0:Q0d)(port:Int):Tree Int:=
.br (port==4) (.lf d0.C1) (.br (port==5) (.lf d0.Frame) (.br (port==6) (.lf (wrap u32 d0.B7)) (.lf 0)))
def Qvj d0 port:=(Qth d0 port).m
def vz:Q0b:=mS 197 [] true [.agg Q0d.sig, .one (.int .i64)] [] (λa r=>Qth (Q0d.of (aC a 0)) (argI a 1)) (λX=> .int .u32 X) (λX=>[])
theorem Zmz:Q04 pG vz:=oS (.nil) Tryz.func197 Tryz.call197 [] [] 2
def Qt3(n:Q0m)(port:Int):Tree Int:=
.br (port==7) (.lf n.Frame) (.br (port==8) (.lf n.D9) (.br (port==9) (.br n.C5 (.br n.B6 (.lf (wrap u32 (wrap u32 ((0:Int)+(1:Int))+2))) (.lf (wrap u32 ((0:Int)+(1:Int))))) (.br n.B6 (.lf (wrap u32 ((0:Int)+(2:Int)))) (.lf 0))) (.lf 0)))
def Z13 n port:=(Qt3 n port).m
def xS:Q0b:=mS 198 [] true [.agg Q0m.sig, .one (.int .i64)] [] (λa r=>Qt3 (Q0m.of (aC a 0)) (argI a 1)) (λX=> .int .u32 X) (λX=>[])
theorem qA:Q04 pG xS:=oS (.nil) Tryz.func198 Tryz.call198 [] [] 2
def Qb4(b:Q07)(port:Int):Tree Int:=
.br (port==10) (.lf b.C6) (.br (port==11) (.an (Qda b) (.lv (Qcr b) λ(x0:Int)=> .lf (wrap u32 x0))) (.lf 0))
def Qoq b port:=(Qb4 b port).m
abbrev Qpt b port:=(Qb4 b port).p
def Zci:Q0b:=mT 199 [] true [.agg Q07.sig, .one (.int .i64)] [] (λa r=>Qb4 (Q07.of (aC a 0)) (argI a 1)) (λX=> .int .u32 X) (λX=>[])
theorem Z9d:Q04 pG Zci:=oT (.cons Qm5 (.nil)) Tryz.func199 Tryz.call199 [] [] 2
def Q42(m:Q00)(port clock:Int):Tree (Q00×Int):=
let T1:Tree ((Q00×Int)):= .lv (Qox m.A2 port) λ(x0:Q0c×Int)=> .lf ({B1:=m.B1,Mem:=m.Mem,A2:=x0.1,A7:=m.A7,A9:=m.A9,B9:=m.B9,A1:=m.A1,A4:=m.A4,A3:=m.A3,A6:=m.A6},x0.2); .br (port==0) T1 (.br (port==1) T1 (.br (port==2) (.lf (m,clock)) (.br (port==3) (.lv (Qz4 m.A7) λ(x2:Int)=> .lf (m,x2)) (.br (port==4) (.lv (Qvj m.A9 port) λ(x3:Int)=> .lf (m,x3)) (.br (port==5) (.lv (Qvj m.A9 port) λ(x4:Int)=> .lf (m,x4)) (.br (port==6) (.lv (Qvj m.A9 port) λ(x5:Int)=> .lf (m,x5)) (.br (port==7) (.lv (Z13 m.B9 port) λ(x6:Int)=> .lf (m,x6)) (.br (port==8) (.lv (Z13 m.B9 port) λ(x7:Int)=> .lf (m,x7)) (.br (port==9) (.lv (Z13 m.B9 port) λ(x8:Int)=> .lf (m,x8)) (let T2:Tree ((Q00×Int)):= .an (Qpt m.A1 port) (.lv (Qoq m.A1 port) λ(x9:Int)=> .lf (m,x9)); .br (port==10) T2 (.br (port==11) T2 (.lf (m,0)))))))))))))
def Q10 m port clock:=(Q42 m port clock).m
abbrev Q9q m port clock:=(Q42 m port clock).p
def Qru:Q0b:=Q0b.fz<|mkP 134 [] false [.agg Q00.sig, .one (.int .i64), .one (.int .u32)] [] (λa r=>Q9q (Q00.of (aC a 0)) (argI a 1) (argI a 2)) (λa r=>Q10 (Q00.of (aC a 0)) (argI a 1) (argI a 2)) (λX=> .tup [.agg (Q00.cells (X.1)), .int .u32 (X.2)]) (λX=>[])
theorem Qr6:Q04 pG Qru:=fz_ok<|Q0j drawn Q0g (.cons Z8t (.cons Zh3 (.cons Zmz (.cons qA (.cons Z9d (.nil)))))) Tryz.func134 Tryz.call134 (λa r=>Q42 (Q00.of (aC a 0)) (argI a 1) (argI a 2)) [.sl (.ints .u32) false] [] 2 (λ_ _ _=>by kernel_rfl) (λ_ _=>rfl) (λ_ _ h=>h) (λh=>by cases h)
def Qlh(t:Q0h)(deadline:Int):Tree Q0h:=
.lf ({D2:=deadline !=0,C3:=deadline,D1:=false})
def Qjg t deadline:=(Qlh t deadline).m
def Zi2:Q0b:=mS 200 [] true [.agg Q0h.sig, .one (.int .u32)] [] (λa r=>Qlh (Q0h.of (aC a 0)) (argI a 1)) (λX=> .agg (Q0h.cells X)) (λX=>[])
theorem Ze8:Q04 pG Zi2:=oS (.nil) Tryz.func200 Tryz.call200 [] [] 2
def Qco(m:List Int)(frame:Int):Tree Bool:=
.lv (Q0o m) λ(x0:Int)=> .lf (decide (wrap u64 frame<wrap u64 x0))
def Q8y m frame:=(Qco m frame).m
def Za7:Q0b:=mS 193 [] true [.one (.ints .u32), .one (.int .u32)] [] (λa r=>Qco (argL .u32 a 0) (argI a 1)) (λX=> .bool X) (λX=>[])
theorem Z3d:Q04 pG Za7:=oS (.cons Q3o (.nil)) Tryz.func193 Tryz.call193 [] [] 2
def Q7f(m:List Int)(frame:Int):Tree Bool:=
.br (decide (frame>=0)) (.lv (Q0o m) λ(x0:Int)=> .lf (decide (frame<x0))) (.lf false)
def Q4j m frame:=(Q7f m frame).m
def Qy5:Q0b:=mS 208 [] true [.one (.ints .u32), .one (.int .i64)] [] (λa r=>Q7f (argL .u32 a 0) (argI a 1)) (λX=> .bool X) (λX=>[])
theorem Qjn:Q04 pG Qy5:=oS (.cons Q3o (.nil)) Tryz.func208 Tryz.call208 [] [] 2
def Qlv(words:List Int)(z:(Int)×(List Int)):Prop:=0<=z.1/\z.1<=words.length/\(z.2.length:Int)=4*z.1
def Q6j(words:List Int)(z:(Int)×(List Int)):Nat:=(words.length-z.1).toNat
def Q4g(words:List Int):Tree (List UInt8):=
.cn (bT 0 1&&bS 1 1&&List.all [D.int u8 0] D.plain&&decide ((0:Int)<=(0:Int)/\0<=wrap i64 (4*(words.length:Int))/\wrap i64 (4*(words.length:Int))<=9223372036854775807/\(↑1:Int)*wrap i64 (4*(words.length:Int))<=140737488355328)) (.lp inferInstance (Q6j words (0,[])+1) ((True/\((Els.Nil (Els.ints u32 words)\/rE (1:Nat))/\rE (words:List Int))/\rE ((words.length:Int):Int)/\rE (0:Int)/\True)/\rE ([]:List Int)/\True) (0,[]) λ(v0:Int×List Int)=> .br (decide (v0.1<(words.length:Int))) (.cn (bS 1 1&&bT 0 1&&decide (0<=v0.1/\v0.1<(words.length:Int))) (.cn (decide (1*(v0.2.length+4)<=140737488355328)) (let E1:=words.getD v0.1.toNat 0; .nx ((True/\((Els.Nil (Els.ints u32 words)\/rE (1:Nat))/\rE (words:List Int))/\rE ((words.length:Int):Int)/\rE ((wrap i64 (v0.1+1)):Int)/\True)/\rE ((v0.2++[wrap u8 (words.getD v0.1.toNat 0),wrap u8 (ishr u32 (words.getD v0.1.toNat 0) 8),wrap u8 (ishr u32 (words.getD v0.1.toNat 0) 16),wrap u8 (ishr u32 (words.getD v0.1.toNat 0) 24)]):List Int)/\True) (Sum.inl (wrap i64 (v0.1+1),v0.2++[wrap u8 E1,wrap u8 (ishr u32 E1 8),wrap u8 (ishr u32 E1 16),wrap u8 (ishr u32 E1 24)]))))) (.lf (Sum.inr (bytesOf v0.2))))
def Z1j words:=(Q4g words).m
def Qc3(words:List Int):Prop:=
words.length<=1000000000000
theorem Z09(words:List Int)(hw:Qc3 words):(Q4g words).p:=by
 simp only[Qc3]at hw
 unfold Tree.p Q4g
 repeat'(first|refine w_lp (inv:=Qlv words) (μ:=Q6j words) ?_ (cO _) (λ_ _=> ?_)|exact trivial|refine w_br (λ_=> ?_) (λ_=> ?_)|refine w_cn ?_ ?_|refine w_an ?_ ?_|refine w_lv (λ_ _=> ?_)|refine w_nx ?_|refine w_lf ?_|refine And.intro ?_ ?_)
 all_goals((try simp only[Qlv,Q6j]at*);exact fin0)
def Z3i:LInv:={
 α:=(Int)×(List Int)
 F:=λst a=>([(3, .all 0),(10,(lk st 10)),(11,(lk st 11)),(12, .int i64 a.1)],[⟨false,5,1, .ints u8 a.2⟩])
 a0:=λst=>((lk st 12).toInt,(Q3h st.rows (rN st 3)))
 ex0:=λst=>[]++[(rX st 3 0)]}
def Qyg:List (Nat×LInv):=[(3,Z3i)]
def Zae:Q0b:=mkP 209 [] true [.one (.ints .u32)] [] (λa r=>Qc3 (argL .u32 a 0)) (λa r=>Z1j (argL .u32 a 0)) (λX=> .str X) (λX=>[])
theorem Z3h:Q04 pG Zae:=Q0j drawn Q0g (.nil) Tryz.func209 Tryz.call209 (λa r=>Q4g (argL .u32 a 0)) [] Qyg 3 (hp:=λa r h=>Z09 (argL .u32 a 0) h)
def Q5y(m:List Int)(frame:Int):Tree ((List UInt8)×Bool):=
.lv (Q4j m frame) λ(x0:Bool)=> .br (!x0) (.lf ([],false)) (.cn (bS 1 1&&bT 0 1&&decide (0<=wrap i64 (frame*32)/\wrap i64 (frame*32)<=wrap i64 (wrap i64 (frame*32)+32)/\wrap i64 (wrap i64 (frame*32)+32)<=(m.length:Int))) (let E1:=dC (dG (wrap i64 (wrap i64 (frame*32)+32))-dG (wrap i64 (frame*32))) (dD (dG (wrap i64 (frame*32))) m); .an (Qc3 E1) (.lv (Z1j E1) λ(x1:List UInt8)=> .lf (x1,true))))
def Q54 m frame:=(Q5y m frame).m
abbrev Qcf m frame:=(Q5y m frame).p
def Z8q:Q0b:=mT 143 [] true [.one (.ints .u32), .one (.int .i64)] [] (λa r=>Q5y (argL .u32 a 0) (argI a 1)) (λX=> .tup [.str (X.1), .bool (X.2)]) (λX=>[])
theorem Qps:Q04 pG Z8q:=oT (.cons Qjn (.cons Z3h (.nil))) Tryz.func143 Tryz.call143 [] [] 2
def Qpp(d0:Q0d)(at0:Int):Tree (Q08×Bool):=
.br (d0.B7 !=1) (.lf ({C4:=0,At:=0,C1:=0,C9:=[]},false)) (.br (d0.D4==1) (.lf ({C4:=3,At:=at0,C1:=d0.B5,C9:=[]},true)) (.br (d0.D4==2) (.lf ({C4:=4,At:=at0,C1:=d0.B5,C9:=d0.B8},true)) (.lf ({C4:=0,At:=0,C1:=0,C9:=[]},false))))
def Qis d0 at0:=(Qpp d0 at0).m
def Z3m:Q0b:=mS 287 [] true [.agg Q0d.sig, .one (.int .u64)] [] (λa r=>Qpp (Q0d.of (aC a 0)) (argI a 1)) (λX=> .tup [.agg (Q08.cells (X.1)), .bool (X.2)]) (λX=>[])
theorem Z11:Q04 pG Z3m:=oS (.nil) Tryz.func287 Tryz.call287 [] [] 2
def Qbj(d0:Q0d)(m:List Int)(cmd at0:Int):Tree (Q0d×(List Q08)):=
.br (d0.B7 !=0) (.lf (d0,[])) (let T1:Tree ((Q0d×(List Q08))):= .lf ({Blocks:=d0.Blocks,C1:=d0.C1,Frame:=d0.Frame,B7:=3,D4:=d0.D4,B5:=d0.B5,B2:=d0.B2,B8:=d0.B8},[]); .br (decide (d0.C1>=d0.Blocks)) T1 (.lv (Q8y m d0.Frame) λ(x0:Bool)=> .br (!x0) T1 (.br (cmd==2) (.an (Qcf m (wrap i64 d0.Frame)) (.lv (Q54 m (wrap i64 d0.Frame)) λ(x1:List UInt8×Bool)=>let E2:=({Blocks:=d0.Blocks,C1:=d0.C1,Frame:=d0.Frame,B7:=1,D4:=cmd,B5:=d0.C1,B2:=d0.Frame,B8:=x1.1}:Q0d); .lv (Qis E2 at0) λ(x2:Q08×Bool)=> .lf (E2,[x2.1]))) (let E3:=({Blocks:=d0.Blocks,C1:=d0.C1,Frame:=d0.Frame,B7:=1,D4:=cmd,B5:=d0.C1,B2:=d0.Frame,B8:=[]}:Q0d); .lv (Qis E3 at0) λ(x3:Q08×Bool)=> .lf (E3,[x3.1])))))
def Qvf d0 m cmd at0:=(Qbj d0 m cmd at0).m
abbrev Qpk d0 m cmd at0:=(Qbj d0 m cmd at0).p
def Zfg:Q0b:=mT 251 [] true [.agg Q0d.sig, .one (.ints .u32), .one (.int .i64), .one (.int .u64)] [] (λa r=>Qbj (Q0d.of (aC a 0)) (argL .u32 a 1) (argI a 2) (argI a 3)) (λX=> .tup [.agg (Q0d.cells (X.1)), .sl 4 (.recs .apiOutput (X.2)) true]) (λX=>[])
theorem Z88:Q04 pG Zfg:=oT (.cons Z3d (.cons Qps (.cons Z11 (.nil)))) Tryz.func251 Tryz.call251 [.sl (.recs .apiOutput) true] [] 2
def Qg9(d0:Q0d)(m:List Int)(port v at0:Int):Tree (Q0d×(List Q08)):=
.br (port==4) (.lf ({Blocks:=d0.Blocks,C1:=v,Frame:=d0.Frame,B7:=d0.B7,D4:=d0.D4,B5:=d0.B5,B2:=d0.B2,B8:=d0.B8},[])) (.br (port==5) (.lf ({Blocks:=d0.Blocks,C1:=d0.C1,Frame:=v,B7:=d0.B7,D4:=d0.D4,B5:=d0.B5,B2:=d0.B2,B8:=d0.B8},[])) (.br (port==6) (let T1:Tree ((Q0d×(List Q08))):= .an (Qpk d0 m (wrap i64 v) at0) (.lv (Qvf d0 m (wrap i64 v) at0) λ(x0:Q0d×List Q08)=> .lf (x0.1,x0.2)); .br (v==1) T1 (.br (v==2) T1 (.br (v==0) (.lv (Q8s d0) λ(x2:Bool)=> .br x2 (.lf ({Blocks:=d0.Blocks,C1:=d0.C1,Frame:=d0.Frame,B7:=0,D4:=d0.D4,B5:=d0.B5,B2:=d0.B2,B8:=d0.B8},[])) (.lf (d0,[]))) (.lf (d0,[]))))) (.lf (d0,[]))))
def Qz0 d0 m port v at0:=(Qg9 d0 m port v at0).m
abbrev Qx9 d0 m port v at0:=(Qg9 d0 m port v at0).p
def Zlq:Q0b:=mT 201 [] true [.agg Q0d.sig, .one (.ints .u32), .one (.int .i64), .one (.int .u32), .one (.int .u64)] [] (λa r=>Qg9 (Q0d.of (aC a 0)) (argL .u32 a 1) (argI a 2) (argI a 3) (argI a 4)) (λX=> .tup [.agg (Q0d.cells (X.1)), .sl 4 (.recs .apiOutput (X.2)) true]) (λX=>[])
theorem Zi9:Q04 pG Zlq:=oT (.cons Z88 (.cons Qnj (.nil))) Tryz.func201 Tryz.call201 [.sl (.recs .apiOutput) true] [] 2
def Qdz(m:List Int)(frame:Int):Tree Bool:=
.lv (Q0o m) λ(x0:Int)=> .lf (decide (wrap u64 frame<wrap u64 x0))
def Q93 m frame:=(Qdz m frame).m
def Zdo:Q0b:=mS 194 [] true [.one (.ints .u32), .one (.int .u32)] [] (λa r=>Qdz (argL .u32 a 0) (argI a 1)) (λX=> .bool X) (λX=>[])
theorem Qsk:Q04 pG Zdo:=oS (.cons Q3o (.nil)) Tryz.func194 Tryz.call194 [] [] 2
def Qg2(n:Q0m)(m:List Int)(at0:Int):Tree (List Q08):=
.br (decide (n.D8<1)) (.lf ([])) (.br (decide (n.D8>128)) (.lf ([])) (.lv (Q93 m n.Frame) λ(x0:Bool)=> .br (!x0) (.lf ([])) (.an (Qcf m (wrap i64 n.Frame)) (.lv (Q54 m (wrap i64 n.Frame)) λ(x1:List UInt8×Bool)=> .cn (decide ((0:Int)<=(0:Int)/\0<=n.D8/\n.D8<=(x1.1.length:Int))) (.lf ([{C4:=2,At:=at0,C1:=0,C9:=dC (dG n.D8-dG 0) (dD (dG 0) x1.1)}]))))))
def Z9e n m at0:=(Qg2 n m at0).m
abbrev Qwn n m at0:=(Qg2 n m at0).p
def Zmu:Q0b:=mT 252 [] true [.agg Q0m.sig, .one (.ints .u32), .one (.int .u64)] [] (λa r=>Qg2 (Q0m.of (aC a 0)) (argL .u32 a 1) (argI a 2)) (λX=> .sl 4 (.recs .apiOutput X) true) (λX=>[])
theorem Zi0:Q04 pG Zmu:=oT (.cons Qsk (.cons Qps (.nil))) Tryz.func252 Tryz.call252 [.sl (.recs .apiOutput) true] [] 2
def Qkd(n:Q0m)(m:List Int)(port v at0:Int):Tree (Q0m×(List Q08)):=
.br (port==7) (.lf ({Frame:=v,D8:=n.D8,C5:=n.C5,C0:=n.C0,B6:=n.B6,D9:=n.D9},[])) (.br (port==8) (.lf ({Frame:=n.Frame,D8:=v,C5:=n.C5,C0:=n.C0,B6:=n.B6,D9:=n.D9},[])) (.br (port==9) (.br (v==1) (.an (Qwn n m at0) (.lv (Z9e n m at0) λ(x0:List Q08)=> .lf (n,x0))) (.br (v==2) (.lv (Q93 m n.Frame) λ(x1:Bool)=> .br x1 (.br (!n.C5) (.br (!n.B6) (.lf ({Frame:=n.Frame,D8:=n.D8,C5:=true,C0:=n.Frame,B6:=n.B6,D9:=n.D9},[])) (.lf (n,[]))) (.lf (n,[]))) (.lf (n,[]))) (.br (v==0) (.lf ({Frame:=n.Frame,D8:=n.D8,C5:=n.C5,C0:=n.C0,B6:=false,D9:=0},[])) (.lf (n,[]))))) (.lf (n,[]))))
def Zai n m port v at0:=(Qkd n m port v at0).m
abbrev Qzf n m port v at0:=(Qkd n m port v at0).p
def xA:Q0b:=mT 202 [] true [.agg Q0m.sig, .one (.ints .u32), .one (.int .i64), .one (.int .u32), .one (.int .u64)] [] (λa r=>Qkd (Q0m.of (aC a 0)) (argL .u32 a 1) (argI a 2) (argI a 3) (argI a 4)) (λX=> .tup [.agg (Q0m.cells (X.1)), .sl 4 (.recs .apiOutput (X.2)) true]) (λX=>[])
theorem Zmh:Q04 pG xA:=oT (.cons Zi0 (.cons Qsk (.nil))) Tryz.func202 Tryz.call202 [.sl (.recs .apiOutput) true] [] 2
def Q9t(m:List Int)(frame:Int)(s:List UInt8)(z:(Int)×(List Int)):Nat:=(32-z.1).toNat
def Q31(m:List Int)(frame:Int)(s:List UInt8):Tree ((List Int)×Bool):=
.an (Q06 m) (.lv (Q03 m) λ(x0:List Int)=> .lv (Q4j m frame) λ(x1:Bool)=> .br (!x1) (.lf (x0,false)) (.br ((s.length:Int) !=(128:Int)) (.lf (x0,false)) (.lp inferInstance (Q9t m frame s (0,x0)+1) ((rE (s:List UInt8)/\True/\rE ((wrap i64 (frame*32)):Int)/\rE (0:Int)/\True)/\rE (x0:List Int)/\True) (0,x0) λ(v0:Int×List Int)=> .br (decide (v0.1<32)) (.cn (decide (0<=wrap i64 (4*v0.1)/\wrap i64 (4*v0.1)<=wrap i64 (wrap i64 (4*v0.1)+4)/\wrap i64 (wrap i64 (4*v0.1)+4)<=(s.length:Int))) (let E1:=dC (dG (wrap i64 (wrap i64 (4*v0.1)+4))-dG (wrap i64 (4*v0.1))) (dD (dG (wrap i64 (4*v0.1))) s); .cn (decide ((0:Int)<=(0:Int)/\0<(↑(dL E1):Int))) (.cn (decide ((0:Int)<=(1:Int)/\1<(↑(dL E1):Int))) (.cn (decide ((0:Int)<=(2:Int)/\2<(↑(dL E1):Int))) (.cn (decide ((0:Int)<=(3:Int)/\3<(↑(dL E1):Int))) (.cn (bS 1 1&&bT 0 1&&decide (0<=wrap i64 (wrap i64 (frame*32)+v0.1)/\wrap i64 (wrap i64 (frame*32)+v0.1)<(v0.2.length:Int))) (.nx ((rE (s:List UInt8)/\True/\rE ((wrap i64 (frame*32)):Int)/\rE ((wrap i64 (v0.1+1)):Int)/\True)/\rE ((dH v0.2 (dG (wrap i64 (wrap i64 (frame*32)+v0.1))) (ior u32 (ior u32 (ior u32 (wrap u32 (↑(eZ (aK (dC (dG (wrap i64 (wrap i64 (4*v0.1)+4))-dG (wrap i64 (4*v0.1))) (dD (dG (wrap i64 (4*v0.1))) s)) (dG 0) (0:UInt8))):Int)) (ishl u32 (wrap u32 (↑(eZ (aK (dC (dG (wrap i64 (wrap i64 (4*v0.1)+4))-dG (wrap i64 (4*v0.1))) (dD (dG (wrap i64 (4*v0.1))) s)) (dG 1) (0:UInt8))):Int)) 8)) (ishl u32 (wrap u32 (↑(eZ (aK (dC (dG (wrap i64 (wrap i64 (4*v0.1)+4))-dG (wrap i64 (4*v0.1))) (dD (dG (wrap i64 (4*v0.1))) s)) (dG 2) (0:UInt8))):Int)) 16)) (ishl u32 (wrap u32 (↑(eZ (aK (dC (dG (wrap i64 (wrap i64 (4*v0.1)+4))-dG (wrap i64 (4*v0.1))) (dD (dG (wrap i64 (4*v0.1))) s)) (dG 3) (0:UInt8))):Int)) 24))):List Int)/\True) (Sum.inl (wrap i64 (v0.1+1),dH v0.2 (dG (wrap i64 (wrap i64 (frame*32)+v0.1))) (ior u32 (ior u32 (ior u32 (wrap u32 (↑(eZ (aK E1 (dG 0) (0:UInt8))):Int)) (ishl u32 (wrap u32 (↑(eZ (aK E1 (dG 1) (0:UInt8))):Int)) 8)) (ishl u32 (wrap u32 (↑(eZ (aK E1 (dG 2) (0:UInt8))):Int)) 16)) (ishl u32 (wrap u32 (↑(eZ (aK E1 (dG 3) (0:UInt8))):Int)) 24))))))))))) (.lf (Sum.inr (v0.2,true))))))
def Q2f m frame s:=(Q31 m frame s).m
abbrev Q81 m frame s:=(Q31 m frame s).p
def Qv:LInv:={
 α:=(Int)×(List Int)
 F:=λst a=>([(2,(lk st 2)),(8, .all 0),(9,(lk st 9)),(26, .int i64 a.1)],[⟨false,25,1, .ints u32 a.2⟩])
 a0:=λst=>((lk st 26).toInt,(Q3h st.rows (rN st 8)))
 ex0:=λst=>[]++[(rX st 8 0)]}
def Qqp:List (Nat×LInv):=[(6,Qv)]
def Qxi:Q0b:=mT 144 [] true [.one (.ints .u32), .one (.int .i64), .one (.str)] [] (λa r=>Q31 (argL .u32 a 0) (argI a 1) (argS a 2)) (λX=> .tup [.all 0, .bool (X.2)]) (λX=>[⟨false,25,1, .ints .u32 (X.1)⟩])
theorem Qui:Q04 pG Qxi:=oT (.cons Q1j (.cons Qjn (.nil))) Tryz.func144 Tryz.call144 [.row 25 1 (.ints .u32)] Qqp 3
def strings_Repeat(s:List UInt8)(count:Int):(List UInt8):=
Lib.repeatL s count.toNat
def Qbq(s:List UInt8)(count:Int):Prop:=
0<=count/\count<=9223372036854775807/\s.length*count.toNat<=140737488355328
def Qi3(s:List UInt8)(count:Int):List D:=[.str s, .int .i64 count]
def Qhg(s:List UInt8)(count:Int):List Row:=[]
def Qc6(X:List UInt8):D:= .str X
def Qbp(X:List UInt8):List Row:=[]
def Qiu:List PT:=[.one (.str), .one (.int .i64)]
def Qhu:List RT:=[]
def Qrv(args:List D)(rows:List Row):(List UInt8):=strings_Repeat (argS args 0) (argI args 1)
def Qtd(args:List D)(rows:List Row):Prop:=Qbq (argS args 0) (argI args 1)
def Qyc:Q0b:=mkP 253 [] true Qiu Qhu Qtd Qrv Qc6 Qbp
theorem Qpc(s:List UInt8)(count:Int)(hw:Qbq s count):Q41 pG 253 (Qi3 s count) (Qhg s count) (Qc6 (strings_Repeat s count)) (Qbp (strings_Repeat s count)):=by
 exact qe Tryz.strings_Repeat hw.1 hw.2.1 hw.2.2
set_option maxRecDepth 100000 in
theorem Qr5(args:List D)(rows:List Row):Qeh Qiu args 0=Qi3 (argS args 0) (argI args 1):=by kernel_rfl
set_option maxRecDepth 100000 in
theorem Qpg(args:List D)(rows:List Row):Q58 Qhu rows 0=Qhg (argS args 0) (argI args 1):=by kernel_rfl
set_option maxRecDepth 100000 in
theorem Qv3(X:List UInt8):(ffB (Qc6 X)&&ffBR (Qbp X))=true:=by kernel_rfl
theorem Qug:Q04 pG Qyc:=Zdb Tryz.call253 (λargs rows hp=>by rw[Qr5 args rows,Qpg args rows];exact Qpc (argS args 0) (argI args 1) hp) (λ_ X=>Qv3 X)
def Q3i(b:Q07)(m:List Int)(port v:Int):Tree (Q07×(List Int)):=
let T1:Tree ((Q07×(List Int))):= .an (Q06 m) (.lv (Q03 m) λ(x0:List Int)=> .lf (b,x0)); .br (decide (v>=32)) T1 (.cn (decide (0<=v)) (.br (port==10) (.lv (Q0o m) λ(x1:Int)=> .br (decide (wrap i64 v<x1)) (.br (iand u32 b.C2 (ishl u32 1 v)==0) (.an (Qbq [(0:UInt8)] 128) (.lv (strings_Repeat [(0:UInt8)] 128) λ(x2:List UInt8)=> .an (Q81 m (wrap i64 v) x2) (.lv (Q2f m (wrap i64 v) x2) λ(x3:List Int×Bool)=> .lf ({C6:=b.C6,C2:=ior u32 b.C2 (ishl u32 1 v)},x3.1)))) T1) T1) (.br (port==11) (.an (Q06 m) (.lv (Q03 m) λ(x6:List Int)=> .lf ({C6:=b.C6,C2:=Qg u32 b.C2 (ishl u32 1 v)},x6))) T1)))
def Q7 b m port v:=(Q3i b m port v).m
abbrev Qml b m port v:=(Q3i b m port v).p
def Z9k:Q0b:=mT 203 [] true [.agg Q07.sig, .one (.ints .u32), .one (.int .i64), .one (.int .u32)] [] (λa r=>Q3i (Q07.of (aC a 0)) (argL .u32 a 1) (argI a 2) (argI a 3)) (λX=> .tup [.agg (Q07.cells (X.1)), .all 0]) (λX=>[⟨false,25,1, .ints .u32 (X.2)⟩])
theorem Z3t:Q04 pG Z9k:=oT (.cons Q1j (.cons Q3o (.cons Qui (.cons Qug (.nil))))) Tryz.func203 Tryz.call203 [.row 25 1 (.ints .u32)] [] 2
def Q3a(m:Q00)(port v at0:Int):Tree (Q00×(List Q08)):=
.br (port==0) (.lf (m,[{C4:=1,At:=at0,C1:=0,C9:=[(λ(n:Int)=>UInt8.ofNat n.toNat) (wrap u8 v)]}])) (.br (port==3) (.lv (Qjg m.A7 v) λ(x0:Q0h)=> .lf ({B1:=m.B1,Mem:=m.Mem,A2:=m.A2,A7:=x0,A9:=m.A9,B9:=m.B9,A1:=m.A1,A4:=m.A4,A3:=m.A3,A6:=m.A6},[])) (let T1:Tree ((Q00×(List Q08))):= .an (Qx9 m.A9 m.Mem port v at0) (.lv (Qz0 m.A9 m.Mem port v at0) λ(x1:Q0d×List Q08)=> .lf ({B1:=m.B1,Mem:=m.Mem,A2:=m.A2,A7:=m.A7,A9:=x1.1,B9:=m.B9,A1:=m.A1,A4:=m.A4,A3:=m.A3,A6:=m.A6},x1.2)); .br (port==4) T1 (.br (port==5) T1 (.br (port==6) T1 (let T2:Tree ((Q00×(List Q08))):= .an (Qzf m.B9 m.Mem port v at0) (.lv (Zai m.B9 m.Mem port v at0) λ(x4:Q0m×List Q08)=> .lf ({B1:=m.B1,Mem:=m.Mem,A2:=m.A2,A7:=m.A7,A9:=m.A9,B9:=x4.1,A1:=m.A1,A4:=m.A4,A3:=m.A3,A6:=m.A6},x4.2)); .br (port==7) T2 (.br (port==8) T2 (.br (port==9) T2 (let T3:Tree ((Q00×(List Q08))):= .an (Qml m.A1 m.Mem port v) (.lv (Q7 m.A1 m.Mem port v) λ(x7:Q07×List Int)=> .lf ({B1:=m.B1,Mem:=x7.2,A2:=m.A2,A7:=m.A7,A9:=m.A9,B9:=m.B9,A1:=x7.1,A4:=m.A4,A3:=m.A3,A6:=m.A6},[])); .br (port==10) T3 (.br (port==11) T3 (.lf (m,[])))))))))))
def Q1x m port v at0:=(Q3a m port v at0).m
abbrev Q8i m port v at0:=(Q3a m port v at0).p
def Qqn:Q0b:=Q0b.fz<|mkP 135 [] false [.agg Q00.sig, .one (.int .i64), .one (.int .u32), .one (.int .u64)] [] (λa r=>Q8i (Q00.of (aC a 0)) (argI a 1) (argI a 2) (argI a 3)) (λa r=>Q1x (Q00.of (aC a 0)) (argI a 1) (argI a 2) (argI a 3)) (λX=> .tup [.agg (Q00.cells (X.1)), .sl 4 (.recs .apiOutput (X.2)) true]) (λX=>[])
theorem Qp9:Q04 pG Qqn:=fz_ok<|Q0j drawn Q0g (.cons Ze8 (.cons Zi9 (.cons Zmh (.cons Z3t (.nil))))) Tryz.func135 Tryz.call135 (λa r=>Q3a (Q00.of (aC a 0)) (argI a 1) (argI a 2) (argI a 3)) [.sl (.ints .u32) false, .sl (.recs .apiOutput) true] [] 2 (λ_ _ _=>by kernel_rfl) (λ_ _=>rfl) (λ_ _ h=>h) (λh=>by cases h)
def Qj2(m:Q00)(clock:Int):Tree (Q00×(List Q08)):=
.an (Q06 m.Mem) (.lv (Q03 m.Mem) λ(x0:List Int)=>let E1:=({B1:=m.B1,Mem:=x0,A2:=m.A2,A7:=m.A7,A9:=m.A9,B9:=m.B9,A1:=m.A1,A4:=m.A4,A3:=m.A3,A6:=m.A6}:Q00); .an (Qag E1) (.lv (Q3r E1) λ(x1:Bool)=> .br (!x1) (.lf (E1,[])) (.an (Q9l E1) (.lv (Q0y E1) λ(x2:Q00)=> .an (Qir x2.B1 x2.Mem) (.lv (Q9h x2.B1 x2.Mem) λ(x3:Q02×List Int×Q0v)=>let E2:=({B1:=x3.1,Mem:=x3.2.1,A2:=x2.A2,A7:=x2.A7,A9:=x2.A9,B9:=x2.B9,A1:=x2.A1,A4:=x2.A4,A3:=x2.A3,A6:=x2.A6}:Q00); .br (x3.2.2.C4==1) (.an (Q9q E2 x3.2.2.C8 clock) (.lv (Q10 E2 x3.2.2.C8 clock) λ(x4:Q00×Int)=> .br (x3.2.2.D7 !=0) (.cn (bT 0 1&&decide (0<=x3.2.2.D7/\x3.2.2.D7<(↑16:Int))) (.lf ({B1:={X:=A16.of 0 (dH (A16.l x4.1.B1.X) x3.2.2.D7.toNat x4.2),Pc:=x4.1.B1.Pc,B4:=x4.1.B1.B4},Mem:=x4.1.Mem,A2:=x4.1.A2,A7:=x4.1.A7,A9:=x4.1.A9,B9:=x4.1.B9,A1:=x4.1.A1,A4:=wrap u64 (x4.1.A4+1),A3:=x4.1.A3,A6:=x4.1.A6},[]))) (.lf ({B1:=x4.1.B1,Mem:=x4.1.Mem,A2:=x4.1.A2,A7:=x4.1.A7,A9:=x4.1.A9,B9:=x4.1.B9,A1:=x4.1.A1,A4:=wrap u64 (x4.1.A4+1),A3:=x4.1.A3,A6:=x4.1.A6},[])))) (.br (x3.2.2.C4==2) (.an (Q8i E2 x3.2.2.C8 x3.2.2.Value m.A4) (.lv (Q1x E2 x3.2.2.C8 x3.2.2.Value m.A4) λ(x5:Q00×List Q08)=> .lf ({B1:=x5.1.B1,Mem:=x5.1.Mem,A2:=x5.1.A2,A7:=x5.1.A7,A9:=x5.1.A9,B9:=x5.1.B9,A1:=x5.1.A1,A4:=wrap u64 (x5.1.A4+1),A3:=x5.1.A3,A6:=x5.1.A6},x5.2))) (.br (x3.2.2.C4==3) (.lf ({B1:=x3.1,Mem:=x3.2.1,A2:=x2.A2,A7:=x2.A7,A9:=x2.A9,B9:=x2.B9,A1:=x2.A1,A4:=wrap u64 (x2.A4+1),A3:=true,A6:=x2.A6},[])) (.br (x3.2.2.C4==4) (.lf ({B1:=x3.1,Mem:=x3.2.1,A2:=x2.A2,A7:=x2.A7,A9:=x2.A9,B9:=x2.B9,A1:=x2.A1,A4:=wrap u64 (x2.A4+1),A3:=x2.A3,A6:=true},[])) (.lf ({B1:=x3.1,Mem:=x3.2.1,A2:=x2.A2,A7:=x2.A7,A9:=x2.A9,B9:=x2.B9,A1:=x2.A1,A4:=wrap u64 (x2.A4+1),A3:=x2.A3,A6:=x2.A6},[]))))))))))
def Qip m clock:=(Qj2 m clock).m
end
noncomputable section
def Z0(op:Int):Tree Int:=
let T1:Tree (Int):= .br (op==49) (.lf 3) (let T2:Tree (Int):= .br (op==24) (.lf 6) (.br (op==48) (.lf 7) (.br (op==58) (.lf 8) (.br (op==59) (.lf 8) (.br (op==60) (.lf 9) (.br (op==61) (.lf 9) (.br (op==56) (.lf 1) (.br (op==57) (.lf 1) (.br (decide (op>=62)) (.br (decide (op<=64)) (.lf 1) (.lf 0)) (.lf 0))))))))); .br (decide (op>=17)) (.br (decide (op<=19)) (.lf 4) (.br (decide (op>=20)) (.br (decide (op<=22)) (.lf 5) T2) T2)) (.br (decide (op>=20)) (.br (decide (op<=22)) (.lf 5) T2) T2));let T3:Tree (Int):= .br (op==16) (.lf 3) (.br (op==23) (.lf 3) (.br (decide (op>=32)) (.br (decide (op<=36)) (.lf 3) (.br (decide (op>=40)) (.br (decide (op<=45)) (.lf 3) T1) T1)) (.br (decide (op>=40)) (.br (decide (op<=45)) (.lf 3) T1) T1))); .br (decide (op>=1)) (.br (decide (op<=13)) (.lf 2) T3) T3
def Q23 op:=(Z0 op).m
def Zfr:Q0b:=mS 191 [] true [.one (.int .i64)] [] (λa r=>Z0 (argI a 0)) (λX=> .int .i64 X) (λX=>[])
theorem Qeg:Q04 pG Zfr:=oS (.nil) Tryz.func191 Tryz.call191 [] [] 2
def Qcm(r:Int):Tree Bool:=
.br (decide (r>=0)) (.lf (decide (r<=15))) (.lf false)
def Q76 r:=(Qcm r).m
def Z0i:Q0b:=mS 225 [] true [.one (.int .i64)] [] (λa r=>Qcm (argI a 0)) (λX=> .bool X) (λX=>[])
theorem Qxm:Q04 pG Z0i:=oS (.nil) Tryz.func225 Tryz.call225 [] [] 2
def Ql6(f:Int):Tree (Int×Int):=
.br (f==3) (.lf ((-32768),32767)) (.br (f==7) (.lf ((-32768),32767)) (.br (f==4) (.lf (0,65535)) (.br (f==6) (.lf (0,65535)) (.br (f==5) (.lf (0,31)) (.br (f==8) (.lf (0,7)) (.br (f==9) (.lf (0,11)) (.lf (0,0))))))))
def Qkj f:=(Ql6 f).m
def Z8e:Q0b:=mS 192 [] true [.one (.int .i64)] [] (λa r=>Ql6 (argI a 0)) (λX=> .tup [.int .i64 (X.1), .int .i64 (X.2)]) (λX=>[])
theorem Qq8:Q04 pG Z8e:=oS (.nil) Tryz.func192 Tryz.call192 [] [] 2
def Qee(i:Q0i):Tree Bool:=
.lv (Q23 i.Op) λ(x0:Int)=> .br (x0==0) (.lf false) (.lv (Q76 i.A) λ(x1:Bool)=> .br (!x1) (.lf false) (.lv (Q76 i.B) λ(x2:Bool)=> .br (!x2) (.lf false) (.lv (Q76 i.C) λ(x3:Bool)=> .br (!x3) (.lf false) (.lv (Qkj x0) λ(x4:Int×Int)=> .br (decide (wrap i64 i.Imm<x4.1)) (.lf false) (.br (decide (wrap i64 i.Imm>x4.2)) (.lf false) (let T1:Tree (Bool):= .br (x0==1) (.br (i.A !=0) (.lf false) (.br (i.B==0) (.lf true) (.br (decide (x0>=2)) (.lf (decide (x0<=5))) (.lf false)))) (.br (i.B==0) (.lf true) (.br (decide (x0>=2)) (.lf (decide (x0<=5))) (.lf false))); .br (x0 !=2) (.br (i.C !=0) (.lf false) T1) T1))))))
def Q7k i:=(Qee i).m
def Zbp:Q0b:=mS 167 [] true [.agg Q0i.sig] [] (λa r=>Qee (Q0i.of (aC a 0))) (λX=> .bool X) (λX=>[])
theorem Qt0:Q04 pG Zbp:=oS (.cons Qeg (.cons Qxm (.cons Qq8 (.nil)))) Tryz.func167 Tryz.call167 [] [] 2
def Qfj(i:Q0i):Tree (Int×Bool):=
.lv (Q7k i) λ(x0:Bool)=> .br (!x0) (.lf (0,false)) (.lf (ior u32 (ior u32 (ior u32 (ior u32 (ishl u32 (wrap u32 i.Op) 24) (ishl u32 (wrap u32 i.A) 20)) (ishl u32 (wrap u32 i.B) 16)) (iand u32 (wrap u32 i.Imm) 65535)) (wrap u32 i.C),true))
def Q18 i:=(Qfj i).m
def Z8d:Q0b:=mS 82 [] true [.agg Q0i.sig] [] (λa r=>Qfj (Q0i.of (aC a 0))) (λX=> .tup [.int .u32 (X.1), .bool (X.2)]) (λX=>[])
theorem Qdk:Q04 pG Z8d:=oS (.cons Qt0 (.nil)) Tryz.func82 Tryz.call82 [] [] 2
def Z6i:Tree (List Int):=
.lf ([1,2,3,4,5,6,7,8,9,10,11,12,13,16,16,17,18,19,20,21,22,23,24,24,32,32,33,34,35,35,36,40,41,42,43,44,45,48,49,56,57,58,59,60,60,61,61,62,63,64])
def Z9i:(List Int):=(Z6i).m
def Zmw:Q0b:=mS 168 [] true [] [] (λa r=>Z6i) (λX=> .sl 1 (.ints .i64 X) true) (λX=>[])
theorem Zhn:Q04 pG Zmw:=oS (.nil) Tryz.func168 Tryz.call168 [.sl (.ints .i64) true] [] 2
def Qz9(seed:Int):Tree (Int×Int):=
let E1:=wrap u64 (ixor u64 (wrap u64 (seed+11400714819323198485)) (ishr u64 (wrap u64 (seed+11400714819323198485)) 30)*13787848793156543929);let E2:=wrap u64 (ixor u64 E1 (ishr u64 E1 27)*10723151780598845931); .lf (ixor u64 E2 (ishr u64 E2 31),wrap u64 (seed+11400714819323198485))
def Zem seed:=(Qz9 seed).m
def Zg2:Q0b:=mS 162 [] true [.one (.int .u64)] [] (λa r=>Qz9 (argI a 0)) (λX=> .tup [.int .u64 (X.1), .int .u64 (X.2)]) (λX=>[])
theorem Zf1:Q04 pG Zg2:=oS (.nil) Tryz.func162 Tryz.call162 [] [] 2
def Z5g(n k:Int):Tree Int:=
.lv (Zem (ixor u64 (wrap u64 n) (wrap u64 (wrap u64 k*11400714819323198485)))) λ(x0:Int×Int)=> .lf (wrap i64 (ishr u64 x0.1 1))
def Q99 n k:=(Z5g n k).m
def Zle:Q0b:=mS 77 [] true [.one (.int .i64), .one (.int .i64)] [] (λa r=>Z5g (argI a 0) (argI a 1)) (λX=> .int .i64 X) (λX=>[])
theorem Ql:Q04 pG Zle:=oS (.cons Zf1 (.nil)) Tryz.func77 Tryz.call77 [] [] 2
def Qnv(n k:Int):Tree Int:=
.cn (decide (k≠0)) (.br (decide (dF n k<0)) (.lf (wrap i64 (dF n k+k))) (.lf (dF n k)))
def Q1s n k:=(Qnv n k).m
abbrev Q1i n k:=(Qnv n k).p
def Zdc:Q0b:=mT 50 [] true [.one (.int .i64), .one (.int .i64)] [] (λa r=>Qnv (argI a 0) (argI a 1)) (λX=> .int .i64 X) (λX=>[])
theorem Qfn:Q04 pG Zdc:=oT (.nil) Tryz.func50 Tryz.call50 [] [] 2
def Qkq(n:Int):Tree Q0i:=
.lv Z9i λ(x0:List Int)=> .lv (Q99 n 1) λ(x1:Int)=> .an (Q1i x1 (x0.length:Int)) (.lv (Q1s x1 (x0.length:Int)) λ(x2:Int)=> .cn (bS 1 1&&bT 0 1&&decide (0<=x2/\x2<(x0.length:Int))) (.an (Q1i (ishr i64 x1 8) 6) (.lv (Q1s (ishr i64 x1 8) 6) λ(x3:Int)=> .an (Q1i (ishr i64 x1 12) 6) (.lv (Q1s (ishr i64 x1 12) 6) λ(x4:Int)=> .an (Q1i (ishr i64 x1 16) 6) (.lv (Q1s (ishr i64 x1 16) 6) λ(x5:Int)=> .an (Q1i (ishr i64 x1 20) 24) (.lv (Q1s (ishr i64 x1 20) 24) λ(x6:Int)=> .br (decide (x0.getD x2.toNat (0:Int)<=(13:Int))) (.lf ({Op:=x0.getD x2.toNat 0,A:=x3,B:=x4,C:=x5,Imm:=0})) (let E4:=({Op:=x0.getD x2.toNat 0,A:=x3,B:=x4,C:=0,Imm:=wrap i32 (wrap i64 (wrap i64 (8*x6)-32))}:Q0i);let T1:Tree (Q0i):= .br (x0.getD x2.toNat (0:Int)==(49:Int)) (.lf (E4)) (.br (x0.getD x2.toNat (0:Int)==(24:Int)) (.lf ({Op:=x0.getD x2.toNat 0,A:=x3,B:=0,C:=0,Imm:=wrap i32 (wrap i64 (x6*iand i64 (ishr i64 x1 40) 1))})) (let T2:Tree (Q0i):=let E6:=({Op:=x0.getD x2.toNat 0,A:=x3,B:=0,C:=0,Imm:=wrap i32 (dF x6 8)}:Q0i); .br (x0.getD x2.toNat (0:Int)==(58:Int)) (.lf (E6)) (.br (x0.getD x2.toNat (0:Int)==(59:Int)) (.lf (E6)) (let E5:=({Op:=x0.getD x2.toNat 0,A:=x3,B:=0,C:=0,Imm:=wrap i32 (dF x6 12)}:Q0i); .br (x0.getD x2.toNat (0:Int)==(60:Int)) (.lf (E5)) (.br (x0.getD x2.toNat (0:Int)==(61:Int)) (.lf (E5)) (.lf ({Op:=x0.getD x2.toNat 0,A:=0,B:=0,C:=0,Imm:=0}))))); .br (decide (x0.getD x2.toNat (0:Int)>=(17:Int))) (.br (decide (x0.getD x2.toNat (0:Int)<=(22:Int))) (.lf ({Op:=x0.getD x2.toNat 0,A:=x3,B:=x4,C:=0,Imm:=wrap i32 x6})) T2) T2));let T3:Tree (Q0i):= .br (x0.getD x2.toNat (0:Int)==(16:Int)) (.lf (E4)) (.br (x0.getD x2.toNat (0:Int)==(23:Int)) (.lf (E4)) (.br (decide (x0.getD x2.toNat (0:Int)>=(32:Int))) (.br (decide (x0.getD x2.toNat (0:Int)<=(36:Int))) (.lf (E4)) T1) T1)); .br (decide (x0.getD x2.toNat (0:Int)>=(40:Int))) (.br (decide (x0.getD x2.toNat (0:Int)<=(48:Int))) (.br (x0.getD x2.toNat (0:Int)==(48:Int)) (.lf ({Op:=x0.getD x2.toNat 0,A:=x3,B:=0,C:=0,Imm:=wrap i32 (wrap i64 (x6-12))})) (.lf ({Op:=x0.getD x2.toNat 0,A:=x3,B:=x4,C:=0,Imm:=wrap i32 (wrap i64 (x6-12))}))) T3) T3)))))))
def Z1w n:=(Qkq n).m
abbrev Qc1 n:=(Qkq n).p
def Zgn:Q0b:=mT 83 [] true [.one (.int .i64)] [] (λa r=>Qkq (argI a 0)) (λX=> .agg (Q0i.cells X)) (λX=>[])
theorem Qx6:Q04 pG Zgn:=oT (.cons Zhn (.cons Ql (.cons Qfn (.nil)))) Tryz.func83 Tryz.call83 [] [] 2
def Qpl(l:List Int)(z:(Int)×(List Int)):Prop:=0<=z.1/\z.1<=l.length/\(z.2.length:Int)=z.1
def Qci(l:List Int)(z:(Int)×(List Int)):Nat:=(l.length-z.1).toNat
def Qho(l:List Int):Tree (List Int):=
.lp inferInstance (Qci l (0,[])+1) ((((Els.Nil (Els.ints i64 l)\/rE (1:Nat))/\rE (l:List Int))/\True/\rE (0:Int)/\True)/\rE ([]:List Int)/\True) (0,[]) λ(v0:Int×List Int)=> .br (decide (v0.1<(l.length:Int))) (let E1:=bS 1 1&&bT 0 1&&decide (0<=v0.1/\v0.1<(l.length:Int)); .cn E1 (let E2:=decide (4*(v0.2.length+1)<=140737488355328); .br (dF (l.getD v0.1.toNat 0) (17:Int)==(0:Int)) (.cn E1 (.cn E2 (.nx ((((Els.Nil (Els.ints i64 l)\/rE (1:Nat))/\rE (l:List Int))/\True/\rE ((wrap i64 (v0.1+1)):Int)/\True)/\rE ((v0.2++[wrap u32 (iand i64 (l.getD v0.1.toNat 0) 4294967295)]):List Int)/\True) (Sum.inl (wrap i64 (v0.1+1),v0.2++[wrap u32 (iand i64 (l.getD v0.1.toNat 0) 4294967295)]))))) (.cn E1 (.an (Qc1 (l.getD v0.1.toNat 0)) (.lv (Z1w (l.getD v0.1.toNat 0)) λ(x0:Q0i)=> .lv (Q18 x0) λ(x1:Int×Bool)=> .cn E2 (.nx ((((Els.Nil (Els.ints i64 l)\/rE (1:Nat))/\rE (l:List Int))/\True/\rE ((wrap i64 (v0.1+1)):Int)/\True)/\rE ((v0.2++[x1.1]):List Int)/\True) (Sum.inl (wrap i64 (v0.1+1),v0.2++[x1.1])))))))) (.lf (Sum.inr v0.2))
def Qgh l:=(Qho l).m
abbrev Qky l:=(Qho l).p
def Zbs:LInv:={
 α:=(Int)×(List Int)
 F:=λst a=>([(0,(lk st 0)),(3, .all 0),(4, .int i64 a.1)],[⟨false,25,1, .ints u32 a.2⟩])
 a0:=λst=>((lk st 4).toInt,(Q3h st.rows (rN st 3)))
 ex0:=λst=>[]++[(rX st 3 0)]}
def Z39:List (Nat×LInv):=[(3,Zbs)]
def Zg4:Q0b:=mT 138 [] true [.one (.ints .i64)] [] (λa r=>Qho (argL .i64 a 0)) (λX=> .all 0) (λX=>[⟨false,25,1, .ints .u32 X⟩])
theorem Zbn:Q04 pG Zg4:=oT (.cons Qdk (.cons Qx6 (.nil))) Tryz.func138 Tryz.call138 [.row 25 1 (.ints .u32)] Z39 3
def Qin(pc:Int):Tree Q02:=
.lf ({X:={a0:=0,a1:=0,a2:=0,a3:=0,a4:=0,a5:=0,a6:=0,a7:=0,a8:=0,a9:=0,a10:=0,a11:=0,a12:=0,a13:=0,a14:=0,a15:=0},Pc:=pc,B4:={a0:=1,a1:=0,a2:=0,a3:=0,a4:=0,a5:=0,a6:=0,a7:=0}})
def Qor pc:=(Qin pc).m
def Zby:Q0b:=mS 127 [] true [.one (.int .u32)] [] (λa r=>Qin (argI a 0)) (λX=> .agg (Q02.cells X)) (λX=>[])
theorem Z7v:Q04 pG Zby:=oS (.nil) Tryz.func127 Tryz.call127 [] [] 2
def Qk8(pages:Int):Tree (List Int):=
.br (decide (pages<1)) (.lf ([])) (.br (decide (pages>32)) (.lf ([])) (.cn (bT 0 1&&bS 1 1&&List.all [D.int u32 0] D.plain&&decide (0<=wrap i64 (pages*32)/\wrap i64 (pages*32)<=wrap i64 (pages*32)/\wrap i64 (pages*32)<=9223372036854775807/\(↑4:Int)*wrap i64 (pages*32)<=140737488355328)) (.lf (List.replicate (dG (wrap i64 (pages*32))) 0))))
def Qrb pages:=(Qk8 pages).m
abbrev Qij pages:=(Qk8 pages).p
def Zmn:Q0b:=mT 128 [] true [.one (.int .i64)] [] (λa r=>Qk8 (argI a 0)) (λX=> .all 0) (λX=>[⟨false,25,1, .ints .u32 X⟩])
theorem Zho:Q04 pG Zmn:=oT (.nil) Tryz.func128 Tryz.call128 [.row 25 1 (.ints .u32)] [] 2
def Q7p(pages blocks:Int)(image:List Int):Tree (Q00×Bool):=
let T1:Tree ((Q00×Bool)):= .lf ({B1:={X:={a0:=0,a1:=0,a2:=0,a3:=0,a4:=0,a5:=0,a6:=0,a7:=0,a8:=0,a9:=0,a10:=0,a11:=0,a12:=0,a13:=0,a14:=0,a15:=0},Pc:=0,B4:={a0:=0,a1:=0,a2:=0,a3:=0,a4:=0,a5:=0,a6:=0,a7:=0}},Mem:=[],A2:={D0:=[]},A7:={D2:=false,C3:=0,D1:=false},A9:={Blocks:=0,C1:=0,Frame:=0,B7:=0,D4:=0,B5:=0,B2:=0,B8:=[]},B9:={Frame:=0,D8:=0,C5:=false,C0:=0,B6:=false,D9:=0},A1:={C6:=0,C2:=0},A4:=0,A3:=false,A6:=false},false); .br (decide (pages<1)) T1 (.br (decide (pages>32)) T1 (.br (decide (blocks<0)) T1 (.br (decide (blocks>64)) T1 (.br (decide ((image.length:Int)>wrap i64 (pages*32))) T1 (.lv (Qor 0) λ(x0:Q02)=> .an (Qij pages) (.lv (Qrb pages) λ(x1:List Int)=> .lf ({B1:=x0,Mem:=dC (Min.min (image.length) (x1.length)) image++dD (Min.min (image.length) (x1.length)) x1,A2:={D0:=[]},A7:={D2:=false,C3:=0,D1:=false},A9:={Blocks:=wrap u32 blocks,C1:=0,Frame:=0,B7:=0,D4:=0,B5:=0,B2:=0,B8:=[]},B9:={Frame:=0,D8:=0,C5:=false,C0:=0,B6:=false,D9:=0},A1:={C6:=0,C2:=0},A4:=0,A3:=false,A6:=false},true)))))))
def Q1l pages blocks image:=(Q7p pages blocks image).m
abbrev Qeq pages blocks image:=(Q7p pages blocks image).p
def Zla:Q0b:=mT 37 [] true [.one (.int .i64), .one (.int .i64), .one (.ints .u32)] [] (λa r=>Q7p (argI a 0) (argI a 1) (argL .u32 a 2)) (λX=> .tup [.agg (Q00.cellsW (X.1) (.all 0)), .bool (X.2)]) (λX=>[⟨false,25,1, .ints .u32 (X.1).Mem⟩])
theorem Zhy:Q04 pG Zla:=oT (.cons Z7v (.cons Zho (.nil))) Tryz.func37 Tryz.call37 [.row 25 1 (.ints .u32)] [] 2
def Qi5(a b:List Int)(z:(Int)):Prop:=0<=z/\z<=a.length/\a.length=b.length
def Q6a(a b:List Int)(z:(Int)):Nat:=(a.length-z).toNat
def Q5e(a b:List Int):Tree Bool:=
.br ((a.length:Int) !=(b.length:Int)) (.lf false) (.lp inferInstance (Q6a a b 0+1) ((((Els.Nil (Els.ints u32 a)\/rE (1:Nat))/\rE (a:List Int))/\((Els.Nil (Els.ints u32 b)\/rE (1:Nat))/\rE (b:List Int))/\rE (0:Int)/\True)/\True) 0 λ(v0:Int)=> .br (decide (v0<(a.length:Int))) (.cn (bS 1 1&&bT 0 1&&decide (0<=v0/\v0<(a.length:Int))) (.cn (bS 1 1&&bT 0 1&&decide (0<=v0/\v0<(b.length:Int))) (.br (a.getD v0.toNat 0 !=b.getD v0.toNat 0) (.lf (Sum.inr false)) (.nx ((((Els.Nil (Els.ints u32 a)\/rE (1:Nat))/\rE (a:List Int))/\((Els.Nil (Els.ints u32 b)\/rE (1:Nat))/\rE (b:List Int))/\rE ((wrap i64 (v0+1)):Int)/\True)/\True) (Sum.inl (wrap i64 (v0+1))))))) (.lf (Sum.inr true)))
def Qjc a b:=(Q5e a b).m
def Q7y(a b:List Int):Prop:=
a.length<=1000000000000
theorem Qro(a b:List Int)(hw:Q7y a b):(Q5e a b).p:=by
 simp only[Q7y]at hw
 unfold Tree.p Q5e
 repeat'(first|refine w_lp (inv:=Qi5 a b) (μ:=Q6a a b) ?_ (cO _) (λ_ _=> ?_)|exact trivial|refine w_br (λ_=> ?_) (λ_=> ?_)|refine w_cn ?_ ?_|refine w_an ?_ ?_|refine w_lv (λ_ _=> ?_)|refine w_nx ?_|refine w_lf ?_|refine And.intro ?_ ?_)
 all_goals((try simp only[Qi5,Q6a]at*);exact fin0)
def Qvp:LInv:={
 α:=(Int)
 F:=λst a=>([(0,(lk st 0)),(1,(lk st 1)),(5, .int i64 a)],[])
 a0:=λst=>(lk st 5).toInt
 ex0:=λst=>[]++[]}
def Qqg:List (Nat×LInv):=[(4,Qvp)]
def Qym:Q0b:=mkP 49 [] true [.one (.ints .u32), .one (.ints .u32)] [] (λa r=>Q7y (argL .u32 a 0) (argL .u32 a 1)) (λa r=>Qjc (argL .u32 a 0) (argL .u32 a 1)) (λX=> .bool X) (λX=>[])
theorem Qu4:Q04 pG Qym:=Q0j drawn Q0g (.nil) Tryz.func49 Tryz.call49 (λa r=>Q5e (argL .u32 a 0) (argL .u32 a 1)) [] Qqg 3 (hp:=λa r h=>Qro (argL .u32 a 0) (argL .u32 a 1) h)
def Qi0(a b:Q00):Tree Bool:=
.br (eqs [D.int u32 a.B1.X.a0,D.int u32 a.B1.X.a1,D.int u32 a.B1.X.a2,D.int u32 a.B1.X.a3,D.int u32 a.B1.X.a4,D.int u32 a.B1.X.a5,D.int u32 a.B1.X.a6,D.int u32 a.B1.X.a7,D.int u32 a.B1.X.a8,D.int u32 a.B1.X.a9,D.int u32 a.B1.X.a10,D.int u32 a.B1.X.a11,D.int u32 a.B1.X.a12,D.int u32 a.B1.X.a13,D.int u32 a.B1.X.a14,D.int u32 a.B1.X.a15,D.int u32 a.B1.Pc,D.int u32 a.B1.B4.a0,D.int u32 a.B1.B4.a1,D.int u32 a.B1.B4.a2,D.int u32 a.B1.B4.a3,D.int u32 a.B1.B4.a4,D.int u32 a.B1.B4.a5,D.int u32 a.B1.B4.a6,D.int u32 a.B1.B4.a7] [D.int u32 b.B1.X.a0,D.int u32 b.B1.X.a1,D.int u32 b.B1.X.a2,D.int u32 b.B1.X.a3,D.int u32 b.B1.X.a4,D.int u32 b.B1.X.a5,D.int u32 b.B1.X.a6,D.int u32 b.B1.X.a7,D.int u32 b.B1.X.a8,D.int u32 b.B1.X.a9,D.int u32 b.B1.X.a10,D.int u32 b.B1.X.a11,D.int u32 b.B1.X.a12,D.int u32 b.B1.X.a13,D.int u32 b.B1.X.a14,D.int u32 b.B1.X.a15,D.int u32 b.B1.Pc,D.int u32 b.B1.B4.a0,D.int u32 b.B1.B4.a1,D.int u32 b.B1.B4.a2,D.int u32 b.B1.B4.a3,D.int u32 b.B1.B4.a4,D.int u32 b.B1.B4.a5,D.int u32 b.B1.B4.a6,D.int u32 b.B1.B4.a7]) (.an (Q7y a.Mem b.Mem) (.lv (Qjc a.Mem b.Mem) λ(x0:Bool)=> .br x0 (.br (eqs [D.str a.A2.D0] [D.str b.A2.D0]) (.br (eqs [D.bool a.A7.D2,D.int u32 a.A7.C3,D.bool a.A7.D1] [D.bool b.A7.D2,D.int u32 b.A7.C3,D.bool b.A7.D1]) (.br (eqs [D.int u32 a.A9.Blocks,D.int u32 a.A9.C1,D.int u32 a.A9.Frame,D.int i64 a.A9.B7,D.int i64 a.A9.D4,D.int u32 a.A9.B5,D.int u32 a.A9.B2,D.str a.A9.B8] [D.int u32 b.A9.Blocks,D.int u32 b.A9.C1,D.int u32 b.A9.Frame,D.int i64 b.A9.B7,D.int i64 b.A9.D4,D.int u32 b.A9.B5,D.int u32 b.A9.B2,D.str b.A9.B8]) (.br (eqs [D.int u32 a.B9.Frame,D.int u32 a.B9.D8,D.bool a.B9.C5,D.int u32 a.B9.C0,D.bool a.B9.B6,D.int u32 a.B9.D9] [D.int u32 b.B9.Frame,D.int u32 b.B9.D8,D.bool b.B9.C5,D.int u32 b.B9.C0,D.bool b.B9.B6,D.int u32 b.B9.D9]) (.br (eqs [D.int u32 a.A1.C6,D.int u32 a.A1.C2] [D.int u32 b.A1.C6,D.int u32 b.A1.C2]) (.br (a.A4==b.A4) (.br (a.A3==b.A3) (.lf (a.A6==b.A6)) (.lf false)) (.lf false)) (.lf false)) (.lf false)) (.lf false)) (.lf false)) (.lf false)) (.lf false))) (.lf false)
def Zb8 a b:=(Qi0 a b).m
abbrev Qsm a b:=(Qi0 a b).p
def Zg6:Q0b:=mT 19 [] true [.agg Q00.sig, .agg Q00.sig] [] (λa r=>Qi0 (Q00.of (aC a 0)) (Q00.of (aC a 1))) (λX=> .bool X) (λX=>[])
theorem Zed:Q04 pG Zg6:=oT (.cons Qu4 (.nil)) Tryz.func19 Tryz.call19 [] [] 2
