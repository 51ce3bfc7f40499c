import Derived.Test.YtmalmklaonainaaGreatReplayTellsFh
import Derived.Test.YtmalmklaonainaaGreatReplayTellsYx
open List renaming take->cY, drop->dA, length->dF, set->dB, getD->aK
open Int renaming toNat->cZ, tmod->cX
open UInt8 renaming toNat->eR
open Nat renaming blt->bT, beq->bS, lt_succ_self->cK
set_option maxRecDepth 100000
set_option linter.all false
namespace Go.Proofs.YtmalmklaonainaaGreat
open Go Go.GD Go.IntKind
noncomputable section
def Q4e(m:Q00):Tree Bool:=
.an (Q7u m) (.lv (Q18 m) λ(x0:Bool)=> .br x0 (.br (!m.A6) (.an (Q9 m) (.lv (Q4l m) λ(x1:Bool)=> .br (!x1) (.lf (decide (m.A2<1152921504606846976))) (.lf false))) (.lf false)) (.lf false))
def Q2u m:=(Q4e m).m
abbrev Qd4 m:=(Q4e m).p
def Z9:Q0f:=mT 112 [] true [.agg Q00.sig] [] (λa r=>Q4e (Q00.of (aC a 0))) (λX=> .bool X) (λX=>[])
theorem Qqx:Q06 pG Z9:=oT (.cons Qca (.cons Qkt (.nil))) Tryz.func112 Tryz.call112 [] [] 2
def Qdj(m:Q00)(z:(Int)):Nat:=(5-z).toNat
def Q2w(m:Q00):Tree Q00:=
let E1:=({B2:=m.B2,Mem:=m.Mem,A3:=m.A3,B0:=m.B0,B1:=m.B1,C2:=m.C2,A1:=m.A1,A2:=m.A2,A4:=false,A6:=m.A6}:Q00); .br (iand u32 m.B2.B8.a0 (2:Int)==(0:Int)) (.lf (E1)) (.an (Qdr E1) (.lv (Q68 E1) λ(x0:Int)=> .lp inferInstance (Qdj m 0+1) ((rZ/\rZ/\rE (x0:Int)/\rE (0:Int)/\True)/\(rE m.B2.X.a0/\rE m.B2.X.a1/\rE m.B2.X.a2/\rE m.B2.X.a3/\rE m.B2.X.a4/\rE m.B2.X.a5/\rE m.B2.X.a6/\rE m.B2.X.a7/\rE m.B2.X.a8/\rE m.B2.X.a9/\rE m.B2.X.a10/\rE m.B2.X.a11/\rE m.B2.X.a12/\rE m.B2.X.a13/\rE m.B2.X.a14/\rE m.B2.X.a15/\rE m.B2.Pc/\rE m.B2.B8.a0/\rE m.B2.B8.a1/\rE m.B2.B8.a2/\rE m.B2.B8.a3/\rE m.B2.B8.a4/\rE m.B2.B8.a5/\rE m.B2.B8.a6/\rE m.B2.B8.a7/\((Els.Nil (Els.ints u32 m.Mem)\/rE (1:Nat))/\rE m.Mem)/\rE m.A3.D2/\rE m.B0.D4/\rE m.B0.C8/\rE m.B0.D3/\rE m.B1.Blocks/\rE m.B1.C3/\rE m.B1.Frame/\rE m.B1.C4/\rE m.B1.D8/\rE m.B1.B9/\rE m.B1.B4/\rE m.B1.C6/\rE m.C2.Frame/\rE m.C2.E0/\rE m.C2.C7/\rE m.C2.C1/\rE m.C2.C0/\rE m.C2.F1/\rE m.A1.C9/\rE m.A1.C5/\rE m.A2/\rE (false:Bool)/\rE m.A6/\True)/\(mE zM True True)/\True) 0 λ(v0:Int)=> .br (decide (v0<5)) (.cn (decide (0<=v0)) (.br (iand u32 x0 (ishl u32 1 v0) !=0) (.lv (Q4u m.B2 (wrap i64 (16+v0)) 0) λ(x1:Q05)=> .lf (Sum.inr {B2:=x1,Mem:=m.Mem,A3:=m.A3,B0:=m.B0,B1:=m.B1,C2:=m.C2,A1:=m.A1,A2:=m.A2,A4:=false,A6:=m.A6})) (.nx ((rZ/\rZ/\rE (x0:Int)/\rE ((wrap i64 (v0+1)):Int)/\True)/\(rE m.B2.X.a0/\rE m.B2.X.a1/\rE m.B2.X.a2/\rE m.B2.X.a3/\rE m.B2.X.a4/\rE m.B2.X.a5/\rE m.B2.X.a6/\rE m.B2.X.a7/\rE m.B2.X.a8/\rE m.B2.X.a9/\rE m.B2.X.a10/\rE m.B2.X.a11/\rE m.B2.X.a12/\rE m.B2.X.a13/\rE m.B2.X.a14/\rE m.B2.X.a15/\rE m.B2.Pc/\rE m.B2.B8.a0/\rE m.B2.B8.a1/\rE m.B2.B8.a2/\rE m.B2.B8.a3/\rE m.B2.B8.a4/\rE m.B2.B8.a5/\rE m.B2.B8.a6/\rE m.B2.B8.a7/\((Els.Nil (Els.ints u32 m.Mem)\/rE (1:Nat))/\rE m.Mem)/\rE m.A3.D2/\rE m.B0.D4/\rE m.B0.C8/\rE m.B0.D3/\rE m.B1.Blocks/\rE m.B1.C3/\rE m.B1.Frame/\rE m.B1.C4/\rE m.B1.D8/\rE m.B1.B9/\rE m.B1.B4/\rE m.B1.C6/\rE m.C2.Frame/\rE m.C2.E0/\rE m.C2.C7/\rE m.C2.C1/\rE m.C2.C0/\rE m.C2.F1/\rE m.A1.C9/\rE m.A1.C5/\rE m.A2/\rE (false:Bool)/\rE m.A6/\True)/\(mE zM True True)/\True) (Sum.inl (wrap i64 (v0+1)))))) (.lf (Sum.inr E1))))
def Q11 m:=(Q2w m).m
abbrev Qbi m:=(Q2w m).p
def Z0w:LInv:={
 α:=(Int)
 F:=λst a=>([(1, .ptr 0 0 0),(2, .ptr 1 0 0),(3,(lk st 3)),(15, .int i64 a)],[⟨true,43,49, .gen [mB (cT st 1)]⟩,⟨true,43,49, .gen [mB (cT st 2)]⟩])
 a0:=λst=>(lk st 15).toInt
 ex0:=λst=>[]++[(rX st 1 0),(rX st 2 1)]}
def Qvz:List (Nat×LInv):=[(6,Z0w)]
def Z3b:Q0f:=Q0f.fz<|mkP 113 [] false [.agg Q00.sig] [] (λa r=>Qbi (Q00.of (aC a 0))) (λa r=>Q11 (Q00.of (aC a 0))) (λX=> .agg (Q00.cells X)) (λX=>[])
theorem Qp2:Q06 pG Z3b:=Zn<|Q0m drawn Q0k (.cons Qlt (.cons Qke (.nil))) Tryz.func113 Tryz.call113 (λa r=>Q2w (Q00.of (aC a 0))) [.sl (.ints .u32) false] Qvz 3 (λ_ _ _=>by kernel_rfl) (λ_ _=>rfl) (λ_ _ h=>h) (λh=>by cases h)
def Qal(c:Q0e)(port:Int):Tree (Q0e×Int):=
.br (port==0) (.br (decide (c.D2=[])) (.lf (c,4294967295)) (.cn (decide ((0:Int)<=(0:Int)/\0<(c.D2.length:Int))) (.cn (decide ((0:Int)<=(1:Int)/\1<=(c.D2.length:Int)/\(c.D2.length:Int)<=(c.D2.length:Int))) (.lf ({D2:=cY (cZ (c.D2.length:Int)-cZ 1) (dA (cZ 1) c.D2)},wrap u32 (↑(eR (c.D2.getD (cZ 0) (0:UInt8))):Int)))))) (.br (port==1) (.lf (c,wrap u32 (c.D2.length:Int))) (.lf (c,0)))
def Qs7 c port:=(Qal c port).m
theorem Z7s(c:Q0e)(port:Int):(Qal c port).p:=by
 unfold Tree.p Qal
 repeat'(first|exact trivial|refine w_br (λ_=> ?_) (λ_=> ?_)|refine w_cn ?_ ?_|refine w_an ?_ ?_|refine w_lv (λ_ _=> ?_)|refine w_nx ?_|refine w_lf ?_|refine And.intro ?_ ?_)
 all_goals(exact fin0)
def Zhu:Q0f:=mS 195 [] true [.agg Q0e.sig, .one (.int .i64)] [] (λa r=>Qal (Q0e.of (aC a 0)) (argI a 1)) (λX=> .tup [.agg (Q0e.cells (X.1)), .int .u32 (X.2)]) (λX=>[])
theorem Zck:Q06 pG Zhu:=oS (.nil) Tryz.func195 Tryz.call195 [] [] 2 (λ_ _ _=>by kernel_rfl) (λa r=>Z7s (Q0e.of (aC a 0)) (argI a 1)) (λ_ X=>by kernel_rfl)
def Qrp(t:Q0j):Tree Int:=
.br t.D3 (.lf 1) (.lf 0)
def Z2n t:=(Qrp t).m
def Zph:Q0f:=mS 196 [] true [.agg Q0j.sig] [] (λa r=>Qrp (Q0j.of (aC a 0))) (λX=> .int .u32 X) (λX=>[])
theorem Zm2:Q06 pG Zph:=oS (.nil) Tryz.func196 Tryz.call196 [] [] 2
def Qvd(d0:Q0h)(port:Int):Tree Int:=
.br (port==4) (.lf d0.C3) (.br (port==5) (.lf d0.Frame) (.br (port==6) (.lf (wrap u32 d0.C4)) (.lf 0)))
def Qyx d0 port:=(Qvd d0 port).m
def zB:Q0f:=mS 197 [] true [.agg Q0h.sig, .one (.int .i64)] [] (λa r=>Qvd (Q0h.of (aC a 0)) (argI a 1)) (λX=> .int .u32 X) (λX=>[])
theorem Zp9:Q06 pG zB:=oS (.nil) Tryz.func197 Tryz.call197 [] [] 2
def Qw4(n:Q0q)(port:Int):Tree Int:=
.br (port==7) (.lf n.Frame) (.br (port==8) (.lf n.F1) (.br (port==9) (.br n.C7 (.br n.C0 (.lf (wrap u32 (wrap u32 ((0:Int)+(1:Int))+2))) (.lf (wrap u32 ((0:Int)+(1:Int))))) (.br n.C0 (.lf (wrap u32 ((0:Int)+(2:Int)))) (.lf 0))) (.lf 0)))
def Z6g n port:=(Qw4 n port).m
def yV:Q0f:=mS 198 [] true [.agg Q0q.sig, .one (.int .i64)] [] (λa r=>Qw4 (Q0q.of (aC a 0)) (argI a 1)) (λX=> .int .u32 X) (λX=>[])
theorem yB:Q06 pG yV:=oS (.nil) Tryz.func198 Tryz.call198 [] [] 2
def Qdz(b:Q07)(port:Int):Tree Int:=
.br (port==10) (.lf b.C9) (.br (port==11) (.an (Qfv b) (.lv (Qen b) λ(x0:Int)=> .lf (wrap u32 x0))) (.lf 0))
def Qs3 b port:=(Qdz b port).m
abbrev Qtf b port:=(Qdz b port).p
def Zjo:Q0f:=mT 199 [] true [.agg Q07.sig, .one (.int .i64)] [] (λa r=>Qdz (Q07.of (aC a 0)) (argI a 1)) (λX=> .int .u32 X) (λX=>[])
theorem Zei:Q06 pG Zjo:=oT (.cons Qp0 (.nil)) Tryz.func199 Tryz.call199 [] [] 2
def Q4z(m:Q00)(port clock:Int):Tree (Q00×Int):=
let T1:Tree ((Q00×Int)):= .lv (Qs7 m.A3 port) λ(x0:Q0e×Int)=> .lf ({B2:=m.B2,Mem:=m.Mem,A3:=x0.1,B0:=m.B0,B1:=m.B1,C2:=m.C2,A1:=m.A1,A2:=m.A2,A4:=m.A4,A6:=m.A6},x0.2); .br (port==0) T1 (.br (port==1) T1 (.br (port==2) (.lf (m,clock)) (.br (port==3) (.lv (Z2n m.B0) λ(x2:Int)=> .lf (m,x2)) (.br (port==4) (.lv (Qyx m.B1 port) λ(x3:Int)=> .lf (m,x3)) (.br (port==5) (.lv (Qyx m.B1 port) λ(x4:Int)=> .lf (m,x4)) (.br (port==6) (.lv (Qyx m.B1 port) λ(x5:Int)=> .lf (m,x5)) (.br (port==7) (.lv (Z6g m.C2 port) λ(x6:Int)=> .lf (m,x6)) (.br (port==8) (.lv (Z6g m.C2 port) λ(x7:Int)=> .lf (m,x7)) (.br (port==9) (.lv (Z6g m.C2 port) λ(x8:Int)=> .lf (m,x8)) (let T2:Tree ((Q00×Int)):= .an (Qtf m.A1 port) (.lv (Qs3 m.A1 port) λ(x9:Int)=> .lf (m,x9)); .br (port==10) T2 (.br (port==11) T2 (.lf (m,0)))))))))))))
def Q1m m port clock:=(Q4z m port clock).m
abbrev Qi9 m port clock:=(Q4z m port clock).p
def Qvl:Q0f:=Q0f.fz<|mkP 134 [] false [.agg Q00.sig, .one (.int .i64), .one (.int .u32)] [] (λa r=>Qi9 (Q00.of (aC a 0)) (argI a 1) (argI a 2)) (λa r=>Q1m (Q00.of (aC a 0)) (argI a 1) (argI a 2)) (λX=> .tup [.agg (Q00.cells (X.1)), .int .u32 (X.2)]) (λX=>[])
theorem Qtr:Q06 pG Qvl:=Zn<|Q0m drawn Q0k (.cons Zck (.cons Zm2 (.cons Zp9 (.cons yB (.cons Zei (.nil)))))) Tryz.func134 Tryz.call134 (λa r=>Q4z (Q00.of (aC a 0)) (argI a 1) (argI a 2)) [.sl (.ints .u32) false] [] 2 (λ_ _ _=>by kernel_rfl) (λ_ _=>rfl) (λ_ _ h=>h) (λh=>by cases h)
def Qnn(t:Q0j)(deadline:Int):Tree Q0j:=
.lf ({D4:=deadline !=0,C8:=deadline,D3:=false})
def Qnb t deadline:=(Qnn t deadline).m
def Zl:Q0f:=mS 200 [] true [.agg Q0j.sig, .one (.int .u32)] [] (λa r=>Qnn (Q0j.of (aC a 0)) (argI a 1)) (λX=> .agg (Q0j.cells X)) (λX=>[])
theorem Zjg:Q06 pG Zl:=oS (.nil) Tryz.func200 Tryz.call200 [] [] 2
def Qf8(m:List Int)(frame:Int):Tree Bool:=
.lv (Q1 m) λ(x0:Int)=> .lf (decide (wrap u64 frame<wrap u64 x0))
def Qap m frame:=(Qf8 m frame).m
def Zdu:Q0f:=mS 193 [] true [.one (.ints .u32), .one (.int .u32)] [] (λa r=>Qf8 (argL .u32 a 0) (argI a 1)) (λX=> .bool X) (λX=>[])
theorem Qt2:Q06 pG Zdu:=oS (.cons Q4n (.nil)) Tryz.func193 Tryz.call193 [] [] 2
def Q94(m:List Int)(frame:Int):Tree Bool:=
.br (decide (frame>=0)) (.lv (Q1 m) λ(x0:Int)=> .lf (decide (frame<x0))) (.lf false)
def Q5n m frame:=(Q94 m frame).m
def Z1m:Q0f:=mS 208 [] true [.one (.ints .u32), .one (.int .i64)] [] (λa r=>Q94 (argL .u32 a 0) (argI a 1)) (λX=> .bool X) (λX=>[])
theorem Qn5:Q06 pG Z1m:=oS (.cons Q4n (.nil)) Tryz.func208 Tryz.call208 [] [] 2
def Qpe(words:List Int)(z:(Int)×(List Int)):Prop:=0<=z.1/\z.1<=words.length/\(z.2.length:Int)=4*z.1
def Q82(words:List Int)(z:(Int)×(List Int)):Nat:=(words.length-z.1).toNat
def Q5j(words:List Int):Tree (List UInt8):=
.cn (bT 0 1&&bS 1 1&&List.all [D.int u8 0] D.plain&&decide ((0:Int)<=(0:Int)/\0<=wrap i64 (4*(words.length:Int))/\wrap i64 (4*(words.length:Int))<=9223372036854775807/\(↑1:Int)*wrap i64 (4*(words.length:Int))<=140737488355328)) (.lp inferInstance (Q82 words (0,[])+1) ((True/\((Els.Nil (Els.ints u32 words)\/rE (1:Nat))/\rE (words:List Int))/\rE ((words.length:Int):Int)/\rE (0:Int)/\True)/\rE ([]:List Int)/\True) (0,[]) λ(v0:Int×List Int)=> .br (decide (v0.1<(words.length:Int))) (.cn (bS 1 1&&bT 0 1&&decide (0<=v0.1/\v0.1<(words.length:Int))) (.cn (decide (1*(v0.2.length+4)<=140737488355328)) (let E1:=words.getD v0.1.toNat 0; .nx ((True/\((Els.Nil (Els.ints u32 words)\/rE (1:Nat))/\rE (words:List Int))/\rE ((words.length:Int):Int)/\rE ((wrap i64 (v0.1+1)):Int)/\True)/\rE ((v0.2++[wrap u8 (words.getD v0.1.toNat 0),wrap u8 (ishr u32 (words.getD v0.1.toNat 0) 8),wrap u8 (ishr u32 (words.getD v0.1.toNat 0) 16),wrap u8 (ishr u32 (words.getD v0.1.toNat 0) 24)]):List Int)/\True) (Sum.inl (wrap i64 (v0.1+1),v0.2++[wrap u8 E1,wrap u8 (ishr u32 E1 8),wrap u8 (ishr u32 E1 16),wrap u8 (ishr u32 E1 24)]))))) (.lf (Sum.inr (bytesOf v0.2))))
def Z44 words:=(Q5j words).m
def Qet(words:List Int):Prop:=
words.length<=1000000000000
theorem Z45(words:List Int)(hw:Qet words):(Q5j words).p:=by
 simp only[Qet]at hw
 unfold Tree.p Q5j
 repeat'(first|refine w_lp (inv:=Qpe words) (μ:=Q82 words) ?_ (cK _) (λ_ _=> ?_)|exact trivial|refine w_br (λ_=> ?_) (λ_=> ?_)|refine w_cn ?_ ?_|refine w_an ?_ ?_|refine w_lv (λ_ _=> ?_)|refine w_nx ?_|refine w_lf ?_|refine And.intro ?_ ?_)
 all_goals((try simp only[Qpe,Q82]at*);exact fin0)
def Z85:LInv:={
 α:=(Int)×(List Int)
 F:=λst a=>([(3, .all 0),(10,(lk st 10)),(11,(lk st 11)),(12, .int i64 a.1)],[⟨false,5,1, .ints u8 a.2⟩])
 a0:=λst=>((lk st 12).toInt,(Q3u st.rows (rN st 3)))
 ex0:=λst=>[]++[(rX st 3 0)]}
def Z18:List (Nat×LInv):=[(3,Z85)]
def Zdw:Q0f:=mkP 209 [] true [.one (.ints .u32)] [] (λa r=>Qet (argL .u32 a 0)) (λa r=>Z44 (argL .u32 a 0)) (λX=> .str X) (λX=>[])
theorem Z8c:Q06 pG Zdw:=Q0m drawn Q0k (.nil) Tryz.func209 Tryz.call209 (λa r=>Q5j (argL .u32 a 0)) [] Z18 3 (hp:=λa r h=>Z45 (argL .u32 a 0) h)
def Q74(m:List Int)(frame:Int):Tree ((List UInt8)×Bool):=
.lv (Q5n m frame) λ(x0:Bool)=> .br (!x0) (.lf ([],false)) (.cn (bS 1 1&&bT 0 1&&decide (0<=wrap i64 (frame*32)/\wrap i64 (frame*32)<=wrap i64 (wrap i64 (frame*32)+32)/\wrap i64 (wrap i64 (frame*32)+32)<=(m.length:Int))) (let E1:=cY (cZ (wrap i64 (wrap i64 (frame*32)+32))-cZ (wrap i64 (frame*32))) (dA (cZ (wrap i64 (frame*32))) m); .an (Qet E1) (.lv (Z44 E1) λ(x1:List UInt8)=> .lf (x1,true))))
def Q5z m frame:=(Q74 m frame).m
abbrev Qfe m frame:=(Q74 m frame).p
def Ze8:Q0f:=mT 143 [] true [.one (.ints .u32), .one (.int .i64)] [] (λa r=>Q74 (argL .u32 a 0) (argI a 1)) (λX=> .tup [.str (X.1), .bool (X.2)]) (λX=>[])
theorem Qm2:Q06 pG Ze8:=oT (.cons Qn5 (.cons Z8c (.nil))) Tryz.func143 Tryz.call143 [] [] 2
def Qth(d0:Q0h)(at0:Int):Tree (Q03×Bool):=
.br (d0.C4 !=1) (.lf ({B7:=0,At:=0,C3:=0,D0:=[]},false)) (.br (d0.D8==1) (.lf ({B7:=3,At:=at0,C3:=d0.B9,D0:=[]},true)) (.br (d0.D8==2) (.lf ({B7:=4,At:=at0,C3:=d0.B9,D0:=d0.C6},true)) (.lf ({B7:=0,At:=0,C3:=0,D0:=[]},false))))
def Qlq d0 at0:=(Qth d0 at0).m
def Z8o:Q0f:=mS 287 [] true [.agg Q0h.sig, .one (.int .u64)] [] (λa r=>Qth (Q0h.of (aC a 0)) (argI a 1)) (λX=> .tup [.agg (Q03.cells (X.1)), .bool (X.2)]) (λX=>[])
theorem Z6s:Q06 pG Z8o:=oS (.nil) Tryz.func287 Tryz.call287 [] [] 2
def Qe2(d0:Q0h)(m:List Int)(cmd at0:Int):Tree (Q0h×(List Q03)):=
.br (d0.C4 !=0) (.lf (d0,[])) (let T1:Tree ((Q0h×(List Q03))):= .lf ({Blocks:=d0.Blocks,C3:=d0.C3,Frame:=d0.Frame,C4:=3,D8:=d0.D8,B9:=d0.B9,B4:=d0.B4,C6:=d0.C6},[]); .br (decide (d0.C3>=d0.Blocks)) T1 (.lv (Qap m d0.Frame) λ(x0:Bool)=> .br (!x0) T1 (.br (cmd==2) (.an (Qfe m (wrap i64 d0.Frame)) (.lv (Q5z m (wrap i64 d0.Frame)) λ(x1:List UInt8×Bool)=>let E2:=({Blocks:=d0.Blocks,C3:=d0.C3,Frame:=d0.Frame,C4:=1,D8:=cmd,B9:=d0.C3,B4:=d0.Frame,C6:=x1.1}:Q0h); .lv (Qlq E2 at0) λ(x2:Q03×Bool)=> .lf (E2,[x2.1]))) (let E3:=({Blocks:=d0.Blocks,C3:=d0.C3,Frame:=d0.Frame,C4:=1,D8:=cmd,B9:=d0.C3,B4:=d0.Frame,C6:=[]}:Q0h); .lv (Qlq E3 at0) λ(x3:Q03×Bool)=> .lf (E3,[x3.1])))))
def Qxx d0 m cmd at0:=(Qe2 d0 m cmd at0).m
abbrev Qt7 d0 m cmd at0:=(Qe2 d0 m cmd at0).p
def Zif:Q0f:=mT 251 [] true [.agg Q0h.sig, .one (.ints .u32), .one (.int .i64), .one (.int .u64)] [] (λa r=>Qe2 (Q0h.of (aC a 0)) (argL .u32 a 1) (argI a 2) (argI a 3)) (λX=> .tup [.agg (Q0h.cells (X.1)), .sl 4 (.recs .apiOutput (X.2)) true]) (λX=>[])
theorem Zem:Q06 pG Zif:=oT (.cons Qt2 (.cons Qm2 (.cons Z6s (.nil)))) Tryz.func251 Tryz.call251 [.sl (.recs .apiOutput) true] [] 2
def Qj4(d0:Q0h)(m:List Int)(port v at0:Int):Tree (Q0h×(List Q03)):=
.br (port==4) (.lf ({Blocks:=d0.Blocks,C3:=v,Frame:=d0.Frame,C4:=d0.C4,D8:=d0.D8,B9:=d0.B9,B4:=d0.B4,C6:=d0.C6},[])) (.br (port==5) (.lf ({Blocks:=d0.Blocks,C3:=d0.C3,Frame:=v,C4:=d0.C4,D8:=d0.D8,B9:=d0.B9,B4:=d0.B4,C6:=d0.C6},[])) (.br (port==6) (let T1:Tree ((Q0h×(List Q03))):= .an (Qt7 d0 m (wrap i64 v) at0) (.lv (Qxx d0 m (wrap i64 v) at0) λ(x0:Q0h×List Q03)=> .lf (x0.1,x0.2)); .br (v==1) T1 (.br (v==2) T1 (.br (v==0) (.lv (Qa2 d0) λ(x2:Bool)=> .br x2 (.lf ({Blocks:=d0.Blocks,C3:=d0.C3,Frame:=d0.Frame,C4:=0,D8:=d0.D8,B9:=d0.B9,B4:=d0.B4,C6:=d0.C6},[])) (.lf (d0,[]))) (.lf (d0,[]))))) (.lf (d0,[]))))
def Z26 d0 m port v at0:=(Qj4 d0 m port v at0).m
abbrev Z0d d0 m port v at0:=(Qj4 d0 m port v at0).p
def Zpo:Q0f:=mT 201 [] true [.agg Q0h.sig, .one (.ints .u32), .one (.int .i64), .one (.int .u32), .one (.int .u64)] [] (λa r=>Qj4 (Q0h.of (aC a 0)) (argL .u32 a 1) (argI a 2) (argI a 3) (argI a 4)) (λX=> .tup [.agg (Q0h.cells (X.1)), .sl 4 (.recs .apiOutput (X.2)) true]) (λX=>[])
theorem Zmt:Q06 pG Zpo:=oT (.cons Zem (.cons Qq (.nil))) Tryz.func201 Tryz.call201 [.sl (.recs .apiOutput) true] [] 2
def Qhq(m:List Int)(frame:Int):Tree Bool:=
.lv (Q1 m) λ(x0:Int)=> .lf (decide (wrap u64 frame<wrap u64 x0))
def Qbg m frame:=(Qhq m frame).m
def Zji:Q0f:=mS 194 [] true [.one (.ints .u32), .one (.int .u32)] [] (λa r=>Qhq (argL .u32 a 0) (argI a 1)) (λX=> .bool X) (λX=>[])
theorem Qo:Q06 pG Zji:=oS (.cons Q4n (.nil)) Tryz.func194 Tryz.call194 [] [] 2
def Qiz(n:Q0q)(m:List Int)(at0:Int):Tree (List Q03):=
.br (decide (n.E0<1)) (.lf ([])) (.br (decide (n.E0>128)) (.lf ([])) (.lv (Qbg m n.Frame) λ(x0:Bool)=> .br (!x0) (.lf ([])) (.an (Qfe m (wrap i64 n.Frame)) (.lv (Q5z m (wrap i64 n.Frame)) λ(x1:List UInt8×Bool)=> .cn (decide ((0:Int)<=(0:Int)/\0<=n.E0/\n.E0<=(x1.1.length:Int))) (.lf ([{B7:=2,At:=at0,C3:=0,D0:=cY (cZ n.E0-cZ 0) (dA (cZ 0) x1.1)}]))))))
def Zc7 n m at0:=(Qiz n m at0).m
abbrev Qzm n m at0:=(Qiz n m at0).p
def Zq7:Q0f:=mT 252 [] true [.agg Q0q.sig, .one (.ints .u32), .one (.int .u64)] [] (λa r=>Qiz (Q0q.of (aC a 0)) (argL .u32 a 1) (argI a 2)) (λX=> .sl 4 (.recs .apiOutput X) true) (λX=>[])
theorem Zl6:Q06 pG Zq7:=oT (.cons Qo (.cons Qm2 (.nil))) Tryz.func252 Tryz.call252 [.sl (.recs .apiOutput) true] [] 2
def Qn1(n:Q0q)(m:List Int)(port v at0:Int):Tree (Q0q×(List Q03)):=
.br (port==7) (.lf ({Frame:=v,E0:=n.E0,C7:=n.C7,C1:=n.C1,C0:=n.C0,F1:=n.F1},[])) (.br (port==8) (.lf ({Frame:=n.Frame,E0:=v,C7:=n.C7,C1:=n.C1,C0:=n.C0,F1:=n.F1},[])) (.br (port==9) (.br (v==1) (.an (Qzm n m at0) (.lv (Zc7 n m at0) λ(x0:List Q03)=> .lf (n,x0))) (.br (v==2) (.lv (Qbg m n.Frame) λ(x1:Bool)=> .br x1 (.br (!n.C7) (.br (!n.C0) (.lf ({Frame:=n.Frame,E0:=n.E0,C7:=true,C1:=n.Frame,C0:=n.C0,F1:=n.F1},[])) (.lf (n,[]))) (.lf (n,[]))) (.lf (n,[]))) (.br (v==0) (.lf ({Frame:=n.Frame,E0:=n.E0,C7:=n.C7,C1:=n.C1,C0:=false,F1:=0},[])) (.lf (n,[]))))) (.lf (n,[]))))
def Zdn n m port v at0:=(Qn1 n m port v at0).m
abbrev Z6n n m port v at0:=(Qn1 n m port v at0).p
def vB:Q0f:=mT 202 [] true [.agg Q0q.sig, .one (.ints .u32), .one (.int .i64), .one (.int .u32), .one (.int .u64)] [] (λa r=>Qn1 (Q0q.of (aC a 0)) (argL .u32 a 1) (argI a 2) (argI a 3) (argI a 4)) (λX=> .tup [.agg (Q0q.cells (X.1)), .sl 4 (.recs .apiOutput (X.2)) true]) (λX=>[])
theorem Zqf:Q06 pG vB:=oT (.cons Zl6 (.cons Qo (.nil))) Tryz.func202 Tryz.call202 [.sl (.recs .apiOutput) true] [] 2
def Qbv(m:List Int)(frame:Int)(s:List UInt8)(z:(Int)×(List Int)):Nat:=(32-z.1).toNat
def Q3w(m:List Int)(frame:Int)(s:List UInt8):Tree ((List Int)×Bool):=
.an (Q09 m) (.lv (Q04 m) λ(x0:List Int)=> .lv (Q5n m frame) λ(x1:Bool)=> .br (!x1) (.lf (x0,false)) (.br ((s.length:Int) !=(128:Int)) (.lf (x0,false)) (.lp inferInstance (Qbv m frame s (0,x0)+1) ((rE (s:List UInt8)/\True/\rE ((wrap i64 (frame*32)):Int)/\rE (0:Int)/\True)/\rE (x0:List Int)/\True) (0,x0) λ(v0:Int×List Int)=> .br (decide (v0.1<32)) (.cn (decide (0<=wrap i64 (4*v0.1)/\wrap i64 (4*v0.1)<=wrap i64 (wrap i64 (4*v0.1)+4)/\wrap i64 (wrap i64 (4*v0.1)+4)<=(s.length:Int))) (let E1:=cY (cZ (wrap i64 (wrap i64 (4*v0.1)+4))-cZ (wrap i64 (4*v0.1))) (dA (cZ (wrap i64 (4*v0.1))) s); .cn (decide ((0:Int)<=(0:Int)/\0<(↑(dF E1):Int))) (.cn (decide ((0:Int)<=(1:Int)/\1<(↑(dF E1):Int))) (.cn (decide ((0:Int)<=(2:Int)/\2<(↑(dF E1):Int))) (.cn (decide ((0:Int)<=(3:Int)/\3<(↑(dF E1):Int))) (.cn (bS 1 1&&bT 0 1&&decide (0<=wrap i64 (wrap i64 (frame*32)+v0.1)/\wrap i64 (wrap i64 (frame*32)+v0.1)<(v0.2.length:Int))) (.nx ((rE (s:List UInt8)/\True/\rE ((wrap i64 (frame*32)):Int)/\rE ((wrap i64 (v0.1+1)):Int)/\True)/\rE ((dB v0.2 (cZ (wrap i64 (wrap i64 (frame*32)+v0.1))) (ior u32 (ior u32 (ior u32 (wrap u32 (↑(eR (aK (cY (cZ (wrap i64 (wrap i64 (4*v0.1)+4))-cZ (wrap i64 (4*v0.1))) (dA (cZ (wrap i64 (4*v0.1))) s)) (cZ 0) (0:UInt8))):Int)) (ishl u32 (wrap u32 (↑(eR (aK (cY (cZ (wrap i64 (wrap i64 (4*v0.1)+4))-cZ (wrap i64 (4*v0.1))) (dA (cZ (wrap i64 (4*v0.1))) s)) (cZ 1) (0:UInt8))):Int)) 8)) (ishl u32 (wrap u32 (↑(eR (aK (cY (cZ (wrap i64 (wrap i64 (4*v0.1)+4))-cZ (wrap i64 (4*v0.1))) (dA (cZ (wrap i64 (4*v0.1))) s)) (cZ 2) (0:UInt8))):Int)) 16)) (ishl u32 (wrap u32 (↑(eR (aK (cY (cZ (wrap i64 (wrap i64 (4*v0.1)+4))-cZ (wrap i64 (4*v0.1))) (dA (cZ (wrap i64 (4*v0.1))) s)) (cZ 3) (0:UInt8))):Int)) 24))):List Int)/\True) (Sum.inl (wrap i64 (v0.1+1),dB v0.2 (cZ (wrap i64 (wrap i64 (frame*32)+v0.1))) (ior u32 (ior u32 (ior u32 (wrap u32 (↑(eR (aK E1 (cZ 0) (0:UInt8))):Int)) (ishl u32 (wrap u32 (↑(eR (aK E1 (cZ 1) (0:UInt8))):Int)) 8)) (ishl u32 (wrap u32 (↑(eR (aK E1 (cZ 2) (0:UInt8))):Int)) 16)) (ishl u32 (wrap u32 (↑(eR (aK E1 (cZ 3) (0:UInt8))):Int)) 24))))))))))) (.lf (Sum.inr (v0.2,true))))))
def Q2y m frame s:=(Q3w m frame s).m
abbrev Q9l m frame s:=(Q3w m frame s).p
def Qxk:LInv:={
 α:=(Int)×(List Int)
 F:=λst a=>([(2,(lk st 2)),(8, .all 0),(9,(lk st 9)),(26, .int i64 a.1)],[⟨false,25,1, .ints u32 a.2⟩])
 a0:=λst=>((lk st 26).toInt,(Q3u st.rows (rN st 8)))
 ex0:=λst=>[]++[(rX st 8 0)]}
def Qtz:List (Nat×LInv):=[(6,Qxk)]
def Z1c:Q0f:=mT 144 [] true [.one (.ints .u32), .one (.int .i64), .one (.str)] [] (λa r=>Q3w (argL .u32 a 0) (argI a 1) (argS a 2)) (λX=> .tup [.all 0, .bool (X.2)]) (λX=>[⟨false,25,1, .ints .u32 (X.1)⟩])
theorem Qfn:Q06 pG Z1c:=oT (.cons Q0w (.cons Qn5 (.nil))) Tryz.func144 Tryz.call144 [.row 25 1 (.ints .u32)] Qtz 3
def strings_Repeat(s:List UInt8)(count:Int):(List UInt8):=
Lib.repeatL s count.toNat
def Qew(s:List UInt8)(count:Int):Prop:=
0<=count/\count<=9223372036854775807/\s.length*count.toNat<=140737488355328
def Qkq(s:List UInt8)(count:Int):List D:=[.str s, .int .i64 count]
def Qjj(s:List UInt8)(count:Int):List Row:=[]
def Qee(X:List UInt8):D:= .str X
def Qel(X:List UInt8):List Row:=[]
def Qlr:List PT:=[.one (.str), .one (.int .i64)]
def Qjw:List RT:=[]
def Qvk(args:List D)(rows:List Row):(List UInt8):=strings_Repeat (argS args 0) (argI args 1)
def Qwg(args:List D)(rows:List Row):Prop:=Qew (argS args 0) (argI args 1)
def Z1b:Q0f:=mkP 253 [] true Qlr Qjw Qwg Qvk Qee Qel
theorem Qsn(s:List UInt8)(count:Int)(hw:Qew s count):Q4b pG 253 (Qkq s count) (Qjj s count) (Qee (strings_Repeat s count)) (Qel (strings_Repeat s count)):=by
 exact vc Tryz.strings_Repeat hw.1 hw.2.1 hw.2.2
set_option maxRecDepth 100000 in
theorem Qtq(args:List D)(rows:List Row):Qh2 Qlr args 0=Qkq (argS args 0) (argI args 1):=by kernel_rfl
set_option maxRecDepth 100000 in
theorem Qso(args:List D)(rows:List Row):Q6j Qjw rows 0=Qjj (argS args 0) (argI args 1):=by kernel_rfl
set_option maxRecDepth 100000 in
theorem Qze(X:List UInt8):(ffB (Qee X)&&ffBR (Qel X))=true:=by kernel_rfl
theorem Qyl:Q06 pG Z1b:=Qzx Tryz.call253 (λargs rows hp=>by rw[Qtq args rows,Qso args rows];exact Qsn (argS args 0) (argI args 1) hp) (λ_ X=>Qze X)
def Q4g(b:Q07)(m:List Int)(port v:Int):Tree (Q07×(List Int)):=
let T1:Tree ((Q07×(List Int))):= .an (Q09 m) (.lv (Q04 m) λ(x0:List Int)=> .lf (b,x0)); .br (decide (v>=32)) T1 (.cn (decide (0<=v)) (.br (port==10) (.lv (Q1 m) λ(x1:Int)=> .br (decide (wrap i64 v<x1)) (.br (iand u32 b.C5 (ishl u32 1 v)==0) (.an (Qew [(0:UInt8)] 128) (.lv (strings_Repeat [(0:UInt8)] 128) λ(x2:List UInt8)=> .an (Q9l m (wrap i64 v) x2) (.lv (Q2y m (wrap i64 v) x2) λ(x3:List Int×Bool)=> .lf ({C9:=b.C9,C5:=ior u32 b.C5 (ishl u32 1 v)},x3.1)))) T1) T1) (.br (port==11) (.an (Q09 m) (.lv (Q04 m) λ(x6:List Int)=> .lf ({C9:=b.C9,C5:=Qir u32 b.C5 (ishl u32 1 v)},x6))) T1)))
def Q8q b m port v:=(Q4g b m port v).m
abbrev Qr5 b m port v:=(Q4g b m port v).p
def Zf3:Q0f:=mT 203 [] true [.agg Q07.sig, .one (.ints .u32), .one (.int .i64), .one (.int .u32)] [] (λa r=>Q4g (Q07.of (aC a 0)) (argL .u32 a 1) (argI a 2) (argI a 3)) (λX=> .tup [.agg (Q07.cells (X.1)), .all 0]) (λX=>[⟨false,25,1, .ints .u32 (X.2)⟩])
theorem Z96:Q06 pG Zf3:=oT (.cons Q0w (.cons Q4n (.cons Qfn (.cons Qyl (.nil))))) Tryz.func203 Tryz.call203 [.row 25 1 (.ints .u32)] [] 2
def Q46(m:Q00)(port v at0:Int):Tree (Q00×(List Q03)):=
.br (port==0) (.lf (m,[{B7:=1,At:=at0,C3:=0,D0:=[(λ(n:Int)=>UInt8.ofNat n.toNat) (wrap u8 v)]}])) (.br (port==3) (.lv (Qnb m.B0 v) λ(x0:Q0j)=> .lf ({B2:=m.B2,Mem:=m.Mem,A3:=m.A3,B0:=x0,B1:=m.B1,C2:=m.C2,A1:=m.A1,A2:=m.A2,A4:=m.A4,A6:=m.A6},[])) (let T1:Tree ((Q00×(List Q03))):= .an (Z0d m.B1 m.Mem port v at0) (.lv (Z26 m.B1 m.Mem port v at0) λ(x1:Q0h×List Q03)=> .lf ({B2:=m.B2,Mem:=m.Mem,A3:=m.A3,B0:=m.B0,B1:=x1.1,C2:=m.C2,A1:=m.A1,A2:=m.A2,A4:=m.A4,A6:=m.A6},x1.2)); .br (port==4) T1 (.br (port==5) T1 (.br (port==6) T1 (let T2:Tree ((Q00×(List Q03))):= .an (Z6n m.C2 m.Mem port v at0) (.lv (Zdn m.C2 m.Mem port v at0) λ(x4:Q0q×List Q03)=> .lf ({B2:=m.B2,Mem:=m.Mem,A3:=m.A3,B0:=m.B0,B1:=m.B1,C2:=x4.1,A1:=m.A1,A2:=m.A2,A4:=m.A4,A6:=m.A6},x4.2)); .br (port==7) T2 (.br (port==8) T2 (.br (port==9) T2 (let T3:Tree ((Q00×(List Q03))):= .an (Qr5 m.A1 m.Mem port v) (.lv (Q8q m.A1 m.Mem port v) λ(x7:Q07×List Int)=> .lf ({B2:=m.B2,Mem:=x7.2,A3:=m.A3,B0:=m.B0,B1:=m.B1,C2:=m.C2,A1:=x7.1,A2:=m.A2,A4:=m.A4,A6:=m.A6},[])); .br (port==10) T3 (.br (port==11) T3 (.lf (m,[])))))))))))
def Q2m m port v at0:=(Q46 m port v at0).m
abbrev Qhl m port v at0:=(Q46 m port v at0).p
def Qu:Q0f:=Q0f.fz<|mkP 135 [] false [.agg Q00.sig, .one (.int .i64), .one (.int .u32), .one (.int .u64)] [] (λa r=>Qhl (Q00.of (aC a 0)) (argI a 1) (argI a 2) (argI a 3)) (λa r=>Q2m (Q00.of (aC a 0)) (argI a 1) (argI a 2) (argI a 3)) (λX=> .tup [.agg (Q00.cells (X.1)), .sl 4 (.recs .apiOutput (X.2)) true]) (λX=>[])
theorem Qsz:Q06 pG Qu:=Zn<|Q0m drawn Q0k (.cons Zjg (.cons Zmt (.cons Zqf (.cons Z96 (.nil))))) Tryz.func135 Tryz.call135 (λa r=>Q46 (Q00.of (aC a 0)) (argI a 1) (argI a 2) (argI a 3)) [.sl (.ints .u32) false, .sl (.recs .apiOutput) true] [] 2 (λ_ _ _=>by kernel_rfl) (λ_ _=>rfl) (λ_ _ h=>h) (λh=>by cases h)
def Q3f(m:Q00)(clock:Int):Tree (Q00×(List Q03)):=
.an (Q09 m.Mem) (.lv (Q04 m.Mem) λ(x0:List Int)=>let E1:=({B2:=m.B2,Mem:=x0,A3:=m.A3,B0:=m.B0,B1:=m.B1,C2:=m.C2,A1:=m.A1,A2:=m.A2,A4:=m.A4,A6:=m.A6}:Q00); .an (Qd4 E1) (.lv (Q2u E1) λ(x1:Bool)=> .br (!x1) (.lf (E1,[])) (.an (Qbi E1) (.lv (Q11 E1) λ(x2:Q00)=> .an (Qly x2.B2 x2.Mem) (.lv (Q8j x2.B2 x2.Mem) λ(x3:Q05×List Int×Q16)=>let E2:=({B2:=x3.1,Mem:=x3.2.1,A3:=x2.A3,B0:=x2.B0,B1:=x2.B1,C2:=x2.C2,A1:=x2.A1,A2:=x2.A2,A4:=x2.A4,A6:=x2.A6}:Q00); .br (x3.2.2.B7==1) (.an (Qi9 E2 x3.2.2.D1 clock) (.lv (Q1m E2 x3.2.2.D1 clock) λ(x4:Q00×Int)=> .br (x3.2.2.D9 !=0) (.cn (bT 0 1&&decide (0<=x3.2.2.D9/\x3.2.2.D9<(↑16:Int))) (.lf ({B2:={X:=A16.of 0 (dB (A16.l x4.1.B2.X) x3.2.2.D9.toNat x4.2),Pc:=x4.1.B2.Pc,B8:=x4.1.B2.B8},Mem:=x4.1.Mem,A3:=x4.1.A3,B0:=x4.1.B0,B1:=x4.1.B1,C2:=x4.1.C2,A1:=x4.1.A1,A2:=wrap u64 (x4.1.A2+1),A4:=x4.1.A4,A6:=x4.1.A6},[]))) (.lf ({B2:=x4.1.B2,Mem:=x4.1.Mem,A3:=x4.1.A3,B0:=x4.1.B0,B1:=x4.1.B1,C2:=x4.1.C2,A1:=x4.1.A1,A2:=wrap u64 (x4.1.A2+1),A4:=x4.1.A4,A6:=x4.1.A6},[])))) (.br (x3.2.2.B7==2) (.an (Qhl E2 x3.2.2.D1 x3.2.2.Value m.A2) (.lv (Q2m E2 x3.2.2.D1 x3.2.2.Value m.A2) λ(x5:Q00×List Q03)=> .lf ({B2:=x5.1.B2,Mem:=x5.1.Mem,A3:=x5.1.A3,B0:=x5.1.B0,B1:=x5.1.B1,C2:=x5.1.C2,A1:=x5.1.A1,A2:=wrap u64 (x5.1.A2+1),A4:=x5.1.A4,A6:=x5.1.A6},x5.2))) (.br (x3.2.2.B7==3) (.lf ({B2:=x3.1,Mem:=x3.2.1,A3:=x2.A3,B0:=x2.B0,B1:=x2.B1,C2:=x2.C2,A1:=x2.A1,A2:=wrap u64 (x2.A2+1),A4:=true,A6:=x2.A6},[])) (.br (x3.2.2.B7==4) (.lf ({B2:=x3.1,Mem:=x3.2.1,A3:=x2.A3,B0:=x2.B0,B1:=x2.B1,C2:=x2.C2,A1:=x2.A1,A2:=wrap u64 (x2.A2+1),A4:=x2.A4,A6:=true},[])) (.lf ({B2:=x3.1,Mem:=x3.2.1,A3:=x2.A3,B0:=x2.B0,B1:=x2.B1,C2:=x2.C2,A1:=x2.A1,A2:=wrap u64 (x2.A2+1),A4:=x2.A4,A6:=x2.A6},[]))))))))))
def Q3t m clock:=(Q3f m clock).m
abbrev Q6o m clock:=(Q3f m clock).p
def Z90:Q0f:=Q0f.fz<|mkP 39 [] false [.agg Q00.sig, .one (.int .u32)] [] (λa r=>Q6o (Q00.of (aC a 0)) (argI a 1)) (λa r=>Q3t (Q00.of (aC a 0)) (argI a 1)) (λX=> .tup [.agg (Q00.cells (X.1)), .sl 4 (.recs .apiOutput (X.2)) false]) (λX=>[])
theorem Qpu:Q06 pG Z90:=Zn<|Q0m drawn Q0k (.cons Q0w (.cons Qqx (.cons Qp2 (.cons Z3g (.cons Qtr (.cons Qsz (.nil))))))) Tryz.func39 Tryz.call39 (λa r=>Q3f (Q00.of (aC a 0)) (argI a 1)) [.sl (.ints .u32) false, .sl (.recs .apiOutput) false] [] 2 (λ_ _ _=>by kernel_rfl) (λ_ _=>rfl) (λ_ _ h=>h) (λh=>by cases h)
end
noncomputable section
def Z5m(op:Int):Tree Int:=
let T1:Tree (Int):= .br (op==49) (.lf 3) (let T2:Tree (Int):= .br (op==24) (.lf 6) (.br (op==48) (.lf 7) (.br (op==58) (.lf 8) (.br (op==59) (.lf 8) (.br (op==60) (.lf 9) (.br (op==61) (.lf 9) (.br (op==56) (.lf 1) (.br (op==57) (.lf 1) (.br (decide (op>=62)) (.br (decide (op<=64)) (.lf 1) (.lf 0)) (.lf 0))))))))); .br (decide (op>=17)) (.br (decide (op<=19)) (.lf 4) (.br (decide (op>=20)) (.br (decide (op<=22)) (.lf 5) T2) T2)) (.br (decide (op>=20)) (.br (decide (op<=22)) (.lf 5) T2) T2));let T3:Tree (Int):= .br (op==16) (.lf 3) (.br (op==23) (.lf 3) (.br (decide (op>=32)) (.br (decide (op<=36)) (.lf 3) (.br (decide (op>=40)) (.br (decide (op<=45)) (.lf 3) T1) T1)) (.br (decide (op>=40)) (.br (decide (op<=45)) (.lf 3) T1) T1))); .br (decide (op>=1)) (.br (decide (op<=13)) (.lf 2) T3) T3
def Q2i op:=(Z5m op).m
def Zkn:Q0f:=mS 191 [] true [.one (.int .i64)] [] (λa r=>Z5m (argI a 0)) (λX=> .int .i64 X) (λX=>[])
theorem Qh3:Q06 pG Zkn:=oS (.nil) Tryz.func191 Tryz.call191 [] [] 2
def Qf3(r:Int):Tree Bool:=
.br (decide (r>=0)) (.lf (decide (r<=15))) (.lf false)
def Q8w r:=(Qf3 r).m
def Z4:Q0f:=mS 225 [] true [.one (.int .i64)] [] (λa r=>Qf3 (argI a 0)) (λX=> .bool X) (λX=>[])
theorem Z0u:Q06 pG Z4:=oS (.nil) Tryz.func225 Tryz.call225 [] [] 2
def Qod(f:Int):Tree (Int×Int):=
.br (f==3) (.lf ((-32768),32767)) (.br (f==7) (.lf ((-32768),32767)) (.br (f==4) (.lf (0,65535)) (.br (f==6) (.lf (0,65535)) (.br (f==5) (.lf (0,31)) (.br (f==8) (.lf (0,7)) (.br (f==9) (.lf (0,11)) (.lf (0,0))))))))
def Qo9 f:=(Qod f).m
def Zby:Q0f:=mS 192 [] true [.one (.int .i64)] [] (λa r=>Qod (argI a 0)) (λX=> .tup [.int .i64 (X.1), .int .i64 (X.2)]) (λX=>[])
theorem Qtd:Q06 pG Zby:=oS (.nil) Tryz.func192 Tryz.call192 [] [] 2
def Qh6(i:Q0o):Tree Bool:=
.lv (Q2i i.Op) λ(x0:Int)=> .br (x0==0) (.lf false) (.lv (Q8w i.A) λ(x1:Bool)=> .br (!x1) (.lf false) (.lv (Q8w i.B) λ(x2:Bool)=> .br (!x2) (.lf false) (.lv (Q8w i.C) λ(x3:Bool)=> .br (!x3) (.lf false) (.lv (Qo9 x0) λ(x4:Int×Int)=> .br (decide (wrap i64 i.Imm<x4.1)) (.lf false) (.br (decide (wrap i64 i.Imm>x4.2)) (.lf false) (let T1:Tree (Bool):= .br (x0==1) (.br (i.A !=0) (.lf false) (.br (i.B==0) (.lf true) (.br (decide (x0>=2)) (.lf (decide (x0<=5))) (.lf false)))) (.br (i.B==0) (.lf true) (.br (decide (x0>=2)) (.lf (decide (x0<=5))) (.lf false))); .br (x0 !=2) (.br (i.C !=0) (.lf false) T1) T1))))))
def Q81 i:=(Qh6 i).m
def Zfr:Q0f:=mS 167 [] true [.agg Q0o.sig] [] (λa r=>Qh6 (Q0o.of (aC a 0))) (λX=> .bool X) (λX=>[])
theorem Qx7:Q06 pG Zfr:=oS (.cons Qh3 (.cons Z0u (.cons Qtd (.nil)))) Tryz.func167 Tryz.call167 [] [] 2
def Qik(i:Q0o):Tree (Int×Bool):=
.lv (Q81 i) λ(x0:Bool)=> .br (!x0) (.lf (0,false)) (.lf (ior u32 (ior u32 (ior u32 (ior u32 (ishl u32 (wrap u32 i.Op) 24) (ishl u32 (wrap u32 i.A) 20)) (ishl u32 (wrap u32 i.B) 16)) (iand u32 (wrap u32 i.Imm) 65535)) (wrap u32 i.C),true))
def Q1t i:=(Qik i).m
def Zea:Q0f:=mS 82 [] true [.agg Q0o.sig] [] (λa r=>Qik (Q0o.of (aC a 0))) (λX=> .tup [.int .u32 (X.1), .bool (X.2)]) (λX=>[])
theorem Qm3:Q06 pG Zea:=oS (.cons Qx7 (.nil)) Tryz.func82 Tryz.call82 [] [] 2
def Z9q:Tree (List Int):=
.lf ([1,2,3,4,5,6,7,8,9,10,11,12,13,16,16,17,18,19,20,21,22,23,24,24,32,32,33,34,35,35,36,40,41,42,43,44,45,48,49,56,57,58,59,60,60,61,61,62,63,64])
def Zdi:(List Int):=(Z9q).m
def Zql:Q0f:=mS 168 [] true [] [] (λa r=>Z9q) (λX=> .sl 1 (.ints .i64 X) true) (λX=>[])
theorem Zli:Q06 pG Zql:=oS (.nil) Tryz.func168 Tryz.call168 [.sl (.ints .i64) true] [] 2
def Z68(seed:Int):Tree (Int×Int):=
let E1:=wrap u64 (ixor u64 (wrap u64 (seed+11400714819323198485)) (ishr u64 (wrap u64 (seed+11400714819323198485)) 30)*13787848793156543929);let E2:=wrap u64 (ixor u64 E1 (ishr u64 E1 27)*10723151780598845931); .lf (ixor u64 E2 (ishr u64 E2 31),wrap u64 (seed+11400714819323198485))
def Zhf seed:=(Z68 seed).m
def Zlc:Q0f:=mS 162 [] true [.one (.int .u64)] [] (λa r=>Z68 (argI a 0)) (λX=> .tup [.int .u64 (X.1), .int .u64 (X.2)]) (λX=>[])
theorem Zfb:Q06 pG Zlc:=oS (.nil) Tryz.func162 Tryz.call162 [] [] 2
def Zav(n k:Int):Tree Int:=
.lv (Zhf (ixor u64 (wrap u64 n) (wrap u64 (wrap u64 k*11400714819323198485)))) λ(x0:Int×Int)=> .lf (wrap i64 (ishr u64 x0.1 1))
def Q9q n k:=(Zav n k).m
def Zqt:Q0f:=mS 77 [] true [.one (.int .i64), .one (.int .i64)] [] (λa r=>Zav (argI a 0) (argI a 1)) (λX=> .int .i64 X) (λX=>[])
theorem Qo3:Q06 pG Zqt:=oS (.cons Zfb (.nil)) Tryz.func77 Tryz.call77 [] [] 2
def Qq3(n k:Int):Tree Int:=
.cn (decide (k≠0)) (.br (decide (cX n k<0)) (.lf (wrap i64 (cX n k+k))) (.lf (cX n k)))
def Q3q n k:=(Qq3 n k).m
abbrev Q2z n k:=(Qq3 n k).p
def Zhr:Q0f:=mT 50 [] true [.one (.int .i64), .one (.int .i64)] [] (λa r=>Qq3 (argI a 0) (argI a 1)) (λX=> .int .i64 X) (λX=>[])
theorem Qia:Q06 pG Zhr:=oT (.nil) Tryz.func50 Tryz.call50 [] [] 2
def Qno(n:Int):Tree Q0o:=
.lv Zdi λ(x0:List Int)=> .lv (Q9q n 1) λ(x1:Int)=> .an (Q2z x1 (x0.length:Int)) (.lv (Q3q x1 (x0.length:Int)) λ(x2:Int)=> .cn (bS 1 1&&bT 0 1&&decide (0<=x2/\x2<(x0.length:Int))) (.an (Q2z (ishr i64 x1 8) 6) (.lv (Q3q (ishr i64 x1 8) 6) λ(x3:Int)=> .an (Q2z (ishr i64 x1 12) 6) (.lv (Q3q (ishr i64 x1 12) 6) λ(x4:Int)=> .an (Q2z (ishr i64 x1 16) 6) (.lv (Q3q (ishr i64 x1 16) 6) λ(x5:Int)=> .an (Q2z (ishr i64 x1 20) 24) (.lv (Q3q (ishr i64 x1 20) 24) λ(x6:Int)=> .br (decide (x0.getD x2.toNat (0:Int)<=(13:Int))) (.lf ({Op:=x0.getD x2.toNat 0,A:=x3,B:=x4,C:=x5,Imm:=0})) (let E4:=({Op:=x0.getD x2.toNat 0,A:=x3,B:=x4,C:=0,Imm:=wrap i32 (wrap i64 (wrap i64 (8*x6)-32))}:Q0o);let T1:Tree (Q0o):= .br (x0.getD x2.toNat (0:Int)==(49:Int)) (.lf (E4)) (.br (x0.getD x2.toNat (0:Int)==(24:Int)) (.lf ({Op:=x0.getD x2.toNat 0,A:=x3,B:=0,C:=0,Imm:=wrap i32 (wrap i64 (x6*iand i64 (ishr i64 x1 40) 1))})) (let T2:Tree (Q0o):=let E6:=({Op:=x0.getD x2.toNat 0,A:=x3,B:=0,C:=0,Imm:=wrap i32 (cX x6 8)}:Q0o); .br (x0.getD x2.toNat (0:Int)==(58:Int)) (.lf (E6)) (.br (x0.getD x2.toNat (0:Int)==(59:Int)) (.lf (E6)) (let E5:=({Op:=x0.getD x2.toNat 0,A:=x3,B:=0,C:=0,Imm:=wrap i32 (cX x6 12)}:Q0o); .br (x0.getD x2.toNat (0:Int)==(60:Int)) (.lf (E5)) (.br (x0.getD x2.toNat (0:Int)==(61:Int)) (.lf (E5)) (.lf ({Op:=x0.getD x2.toNat 0,A:=0,B:=0,C:=0,Imm:=0}))))); .br (decide (x0.getD x2.toNat (0:Int)>=(17:Int))) (.br (decide (x0.getD x2.toNat (0:Int)<=(22:Int))) (.lf ({Op:=x0.getD x2.toNat 0,A:=x3,B:=x4,C:=0,Imm:=wrap i32 x6})) T2) T2));let T3:Tree (Q0o):= .br (x0.getD x2.toNat (0:Int)==(16:Int)) (.lf (E4)) (.br (x0.getD x2.toNat (0:Int)==(23:Int)) (.lf (E4)) (.br (decide (x0.getD x2.toNat (0:Int)>=(32:Int))) (.br (decide (x0.getD x2.toNat (0:Int)<=(36:Int))) (.lf (E4)) T1) T1)); .br (decide (x0.getD x2.toNat (0:Int)>=(40:Int))) (.br (decide (x0.getD x2.toNat (0:Int)<=(48:Int))) (.br (x0.getD x2.toNat (0:Int)==(48:Int)) (.lf ({Op:=x0.getD x2.toNat 0,A:=x3,B:=0,C:=0,Imm:=wrap i32 (wrap i64 (x6-12))})) (.lf ({Op:=x0.getD x2.toNat 0,A:=x3,B:=x4,C:=0,Imm:=wrap i32 (wrap i64 (x6-12))}))) T3) T3)))))))
def Zhm n:=(Qno n).m
abbrev Qib n:=(Qno n).p
def Zkg:Q0f:=mT 83 [] true [.one (.int .i64)] [] (λa r=>Qno (argI a 0)) (λX=> .agg (Q0o.cells X)) (λX=>[])
theorem Zj7:Q06 pG Zkg:=oT (.cons Zli (.cons Qo3 (.cons Qia (.nil)))) Tryz.func83 Tryz.call83 [] [] 2
def Qt1(l:List Int)(z:(Int)×(List Int)):Prop:=0<=z.1/\z.1<=l.length/\(z.2.length:Int)=z.1
def Qeo(l:List Int)(z:(Int)×(List Int)):Nat:=(l.length-z.1).toNat
def Qkh(l:List Int):Tree (List Int):=
.lp inferInstance (Qeo l (0,[])+1) ((((Els.Nil (Els.ints i64 l)\/rE (1:Nat))/\rE (l:List Int))/\True/\rE (0:Int)/\True)/\rE ([]:List Int)/\True) (0,[]) λ(v0:Int×List Int)=> .br (decide (v0.1<(l.length:Int))) (let E1:=bS 1 1&&bT 0 1&&decide (0<=v0.1/\v0.1<(l.length:Int)); .cn E1 (let E2:=decide (4*(v0.2.length+1)<=140737488355328); .br (cX (l.getD v0.1.toNat 0) (17:Int)==(0:Int)) (.cn E1 (.cn E2 (.nx ((((Els.Nil (Els.ints i64 l)\/rE (1:Nat))/\rE (l:List Int))/\True/\rE ((wrap i64 (v0.1+1)):Int)/\True)/\rE ((v0.2++[wrap u32 (iand i64 (l.getD v0.1.toNat 0) 4294967295)]):List Int)/\True) (Sum.inl (wrap i64 (v0.1+1),v0.2++[wrap u32 (iand i64 (l.getD v0.1.toNat 0) 4294967295)]))))) (.cn E1 (.an (Qib (l.getD v0.1.toNat 0)) (.lv (Zhm (l.getD v0.1.toNat 0)) λ(x0:Q0o)=> .lv (Q1t x0) λ(x1:Int×Bool)=> .cn E2 (.nx ((((Els.Nil (Els.ints i64 l)\/rE (1:Nat))/\rE (l:List Int))/\True/\rE ((wrap i64 (v0.1+1)):Int)/\True)/\rE ((v0.2++[x1.1]):List Int)/\True) (Sum.inl (wrap i64 (v0.1+1),v0.2++[x1.1])))))))) (.lf (Sum.inr v0.2))
def Z6t l:=(Qkh l).m
abbrev Qnl l:=(Qkh l).p
def Zi6:LInv:={
 α:=(Int)×(List Int)
 F:=λst a=>([(0,(lk st 0)),(3, .all 0),(4, .int i64 a.1)],[⟨false,25,1, .ints u32 a.2⟩])
 a0:=λst=>((lk st 4).toInt,(Q3u st.rows (rN st 3)))
 ex0:=λst=>[]++[(rX st 3 0)]}
def Z89:List (Nat×LInv):=[(3,Zi6)]
def Zle:Q0f:=mT 138 [] true [.one (.ints .i64)] [] (λa r=>Qkh (argL .i64 a 0)) (λX=> .all 0) (λX=>[⟨false,25,1, .ints .u32 X⟩])
theorem Zi3:Q06 pG Zle:=oT (.cons Qm3 (.cons Zj7 (.nil))) Tryz.func138 Tryz.call138 [.row 25 1 (.ints .u32)] Z89 3
def Qlz(pc:Int):Tree Q05:=
.lf ({X:={a0:=0,a1:=0,a2:=0,a3:=0,a4:=0,a5:=0,a6:=0,a7:=0,a8:=0,a9:=0,a10:=0,a11:=0,a12:=0,a13:=0,a14:=0,a15:=0},Pc:=pc,B8:={a0:=1,a1:=0,a2:=0,a3:=0,a4:=0,a5:=0,a6:=0,a7:=0}})
def Qs pc:=(Qlz pc).m
def Zid:Q0f:=mS 127 [] true [.one (.int .u32)] [] (λa r=>Qlz (argI a 0)) (λX=> .agg (Q05.cells X)) (λX=>[])
theorem Ze1:Q06 pG Zid:=oS (.nil) Tryz.func127 Tryz.call127 [] [] 2
def Qj0(pages:Int):Tree (List Int):=
.br (decide (pages<1)) (.lf ([])) (.br (decide (pages>32)) (.lf ([])) (.cn (bT 0 1&&bS 1 1&&List.all [D.int u32 0] D.plain&&decide (0<=wrap i64 (pages*32)/\wrap i64 (pages*32)<=wrap i64 (pages*32)/\wrap i64 (pages*32)<=9223372036854775807/\(↑4:Int)*wrap i64 (pages*32)<=140737488355328)) (.lf (List.replicate (cZ (wrap i64 (pages*32))) 0))))
def Znh pages:=(Qj0 pages).m
abbrev Qgy pages:=(Qj0 pages).p
def Zp6:Q0f:=mT 128 [] true [.one (.int .i64)] [] (λa r=>Qj0 (argI a 0)) (λX=> .all 0) (λX=>[⟨false,25,1, .ints .u32 X⟩])
theorem Zn7:Q06 pG Zp6:=oT (.nil) Tryz.func128 Tryz.call128 [.row 25 1 (.ints .u32)] [] 2
def Qfx(pages blocks:Int)(image:List Int):Tree (Q00×Bool):=
let T1:Tree ((Q00×Bool)):= .lf ({B2:={X:={a0:=0,a1:=0,a2:=0,a3:=0,a4:=0,a5:=0,a6:=0,a7:=0,a8:=0,a9:=0,a10:=0,a11:=0,a12:=0,a13:=0,a14:=0,a15:=0},Pc:=0,B8:={a0:=0,a1:=0,a2:=0,a3:=0,a4:=0,a5:=0,a6:=0,a7:=0}},Mem:=[],A3:={D2:=[]},B0:={D4:=false,C8:=0,D3:=false},B1:={Blocks:=0,C3:=0,Frame:=0,C4:=0,D8:=0,B9:=0,B4:=0,C6:=[]},C2:={Frame:=0,E0:=0,C7:=false,C1:=0,C0:=false,F1:=0},A1:={C9:=0,C5:=0},A2:=0,A4:=false,A6:=false},false); .br (decide (pages<1)) T1 (.br (decide (pages>32)) T1 (.br (decide (blocks<0)) T1 (.br (decide (blocks>64)) T1 (.br (decide ((image.length:Int)>wrap i64 (pages*32))) T1 (.lv (Qs 0) λ(x0:Q05)=> .an (Qgy pages) (.lv (Znh pages) λ(x1:List Int)=> .lf ({B2:=x0,Mem:=cY (Min.min (image.length) (x1.length)) image++dA (Min.min (image.length) (x1.length)) x1,A3:={D2:=[]},B0:={D4:=false,C8:=0,D3:=false},B1:={Blocks:=wrap u32 blocks,C3:=0,Frame:=0,C4:=0,D8:=0,B9:=0,B4:=0,C6:=[]},C2:={Frame:=0,E0:=0,C7:=false,C1:=0,C0:=false,F1:=0},A1:={C9:=0,C5:=0},A2:=0,A4:=false,A6:=false},true)))))))
def Qs8 pages blocks image:=(Qfx pages blocks image).m
abbrev Qa9 pages blocks image:=(Qfx pages blocks image).p
def Zq8:Q0f:=mT 37 [] true [.one (.int .i64), .one (.int .i64), .one (.ints .u32)] [] (λa r=>Qfx (argI a 0) (argI a 1) (argL .u32 a 2)) (λX=> .tup [.agg (Q00.cellsW (X.1) (.all 0)), .bool (X.2)]) (λX=>[⟨false,25,1, .ints .u32 (X.1).Mem⟩])
theorem Z30:Q06 pG Zq8:=oT (.cons Ze1 (.cons Zn7 (.nil))) Tryz.func37 Tryz.call37 [.row 25 1 (.ints .u32)] [] 2
def Qj8(a b:List Int)(z:(Int)):Prop:=0<=z/\z<=a.length/\a.length=b.length
def Q5b(a b:List Int)(z:(Int)):Nat:=(a.length-z).toNat
def Q93(a b:List Int):Tree Bool:=
.br ((a.length:Int) !=(b.length:Int)) (.lf false) (.lp inferInstance (Q5b a b 0+1) ((((Els.Nil (Els.ints u32 a)\/rE (1:Nat))/\rE (a:List Int))/\((Els.Nil (Els.ints u32 b)\/rE (1:Nat))/\rE (b:List Int))/\rE (0:Int)/\True)/\True) 0 λ(v0:Int)=> .br (decide (v0<(a.length:Int))) (.cn (bS 1 1&&bT 0 1&&decide (0<=v0/\v0<(a.length:Int))) (.cn (bS 1 1&&bT 0 1&&decide (0<=v0/\v0<(b.length:Int))) (.br (a.getD v0.toNat 0 !=b.getD v0.toNat 0) (.lf (Sum.inr false)) (.nx ((((Els.Nil (Els.ints u32 a)\/rE (1:Nat))/\rE (a:List Int))/\((Els.Nil (Els.ints u32 b)\/rE (1:Nat))/\rE (b:List Int))/\rE ((wrap i64 (v0+1)):Int)/\True)/\True) (Sum.inl (wrap i64 (v0+1))))))) (.lf (Sum.inr true)))
def Qgj a b:=(Q93 a b).m
def Q9s(a b:List Int):Prop:=
a.length<=1000000000000
theorem Qvj(a b:List Int)(hw:Q9s a b):(Q93 a b).p:=by
 simp only[Q9s]at hw
 unfold Tree.p Q93
 repeat'(first|refine w_lp (inv:=Qj8 a b) (μ:=Q5b a b) ?_ (cK _) (λ_ _=> ?_)|exact trivial|refine w_br (λ_=> ?_) (λ_=> ?_)|refine w_cn ?_ ?_|refine w_an ?_ ?_|refine w_lv (λ_ _=> ?_)|refine w_nx ?_|refine w_lf ?_|refine And.intro ?_ ?_)
 all_goals((try simp only[Qj8,Q5b]at*);exact fin0)
def Qz6:LInv:={
 α:=(Int)
 F:=λst a=>([(0,(lk st 0)),(1,(lk st 1)),(5, .int i64 a)],[])
 a0:=λst=>(lk st 5).toInt
 ex0:=λst=>[]++[]}
def Qu0:List (Nat×LInv):=[(4,Qz6)]
def Z1p:Q0f:=mkP 49 [] true [.one (.ints .u32), .one (.ints .u32)] [] (λa r=>Q9s (argL .u32 a 0) (argL .u32 a 1)) (λa r=>Qgj (argL .u32 a 0) (argL .u32 a 1)) (λX=> .bool X) (λX=>[])
theorem Qy5:Q06 pG Z1p:=Q0m drawn Q0k (.nil) Tryz.func49 Tryz.call49 (λa r=>Q93 (argL .u32 a 0) (argL .u32 a 1)) [] Qu0 3 (hp:=λa r h=>Qvj (argL .u32 a 0) (argL .u32 a 1) h)
def Qjl(a b:Q00):Tree Bool:=
.br (eqs [D.int u32 a.B2.X.a0,D.int u32 a.B2.X.a1,D.int u32 a.B2.X.a2,D.int u32 a.B2.X.a3,D.int u32 a.B2.X.a4,D.int u32 a.B2.X.a5,D.int u32 a.B2.X.a6,D.int u32 a.B2.X.a7,D.int u32 a.B2.X.a8,D.int u32 a.B2.X.a9,D.int u32 a.B2.X.a10,D.int u32 a.B2.X.a11,D.int u32 a.B2.X.a12,D.int u32 a.B2.X.a13,D.int u32 a.B2.X.a14,D.int u32 a.B2.X.a15,D.int u32 a.B2.Pc,D.int u32 a.B2.B8.a0,D.int u32 a.B2.B8.a1,D.int u32 a.B2.B8.a2,D.int u32 a.B2.B8.a3,D.int u32 a.B2.B8.a4,D.int u32 a.B2.B8.a5,D.int u32 a.B2.B8.a6,D.int u32 a.B2.B8.a7] [D.int u32 b.B2.X.a0,D.int u32 b.B2.X.a1,D.int u32 b.B2.X.a2,D.int u32 b.B2.X.a3,D.int u32 b.B2.X.a4,D.int u32 b.B2.X.a5,D.int u32 b.B2.X.a6,D.int u32 b.B2.X.a7,D.int u32 b.B2.X.a8,D.int u32 b.B2.X.a9,D.int u32 b.B2.X.a10,D.int u32 b.B2.X.a11,D.int u32 b.B2.X.a12,D.int u32 b.B2.X.a13,D.int u32 b.B2.X.a14,D.int u32 b.B2.X.a15,D.int u32 b.B2.Pc,D.int u32 b.B2.B8.a0,D.int u32 b.B2.B8.a1,D.int u32 b.B2.B8.a2,D.int u32 b.B2.B8.a3,D.int u32 b.B2.B8.a4,D.int u32 b.B2.B8.a5,D.int u32 b.B2.B8.a6,D.int u32 b.B2.B8.a7]) (.an (Q9s a.Mem b.Mem) (.lv (Qgj a.Mem b.Mem) λ(x0:Bool)=> .br x0 (.br (eqs [D.str a.A3.D2] [D.str b.A3.D2]) (.br (eqs [D.bool a.B0.D4,D.int u32 a.B0.C8,D.bool a.B0.D3] [D.bool b.B0.D4,D.int u32 b.B0.C8,D.bool b.B0.D3]) (.br (eqs [D.int u32 a.B1.Blocks,D.int u32 a.B1.C3,D.int u32 a.B1.Frame,D.int i64 a.B1.C4,D.int i64 a.B1.D8,D.int u32 a.B1.B9,D.int u32 a.B1.B4,D.str a.B1.C6] [D.int u32 b.B1.Blocks,D.int u32 b.B1.C3,D.int u32 b.B1.Frame,D.int i64 b.B1.C4,D.int i64 b.B1.D8,D.int u32 b.B1.B9,D.int u32 b.B1.B4,D.str b.B1.C6]) (.br (eqs [D.int u32 a.C2.Frame,D.int u32 a.C2.E0,D.bool a.C2.C7,D.int u32 a.C2.C1,D.bool a.C2.C0,D.int u32 a.C2.F1] [D.int u32 b.C2.Frame,D.int u32 b.C2.E0,D.bool b.C2.C7,D.int u32 b.C2.C1,D.bool b.C2.C0,D.int u32 b.C2.F1]) (.br (eqs [D.int u32 a.A1.C9,D.int u32 a.A1.C5] [D.int u32 b.A1.C9,D.int u32 b.A1.C5]) (.br (a.A2==b.A2) (.br (a.A4==b.A4) (.lf (a.A6==b.A6)) (.lf false)) (.lf false)) (.lf false)) (.lf false)) (.lf false)) (.lf false)) (.lf false)) (.lf false))) (.lf false)
def Z5r a b:=(Qjl a b).m
abbrev Qom a b:=(Qjl a b).p
def Zn1:Q0f:=mT 19 [] true [.agg Q00.sig, .agg Q00.sig] [] (λa r=>Qjl (Q00.of (aC a 0)) (Q00.of (aC a 1))) (λX=> .bool X) (λX=>[])
theorem Z02:Q06 pG Zn1:=oT (.cons Qy5 (.nil)) Tryz.func19 Tryz.call19 [] [] 2
def Q2p(m:Q00):Tree Bool:=
.an (Qd4 m) (.lv (Q2u m) λ(x0:Bool)=> .br (!x0) (.lf false) (.an (Qbi m) (.lv (Q11 m) λ(x1:Q00)=> .an (Qly x1.B2 x1.Mem) (.lv (Q8j x1.B2 x1.Mem) λ(x2:Q05×List Int×Q16)=> .br (x2.2.2.B7==1) (.lf (x2.2.2.D1==2)) (.lf false)))))
def Q3n m:=(Q2p m).m
abbrev Q2v m:=(Q2p m).p
def Qsh:Q0f:=mT 30 [] true [.agg Q00.sig] [] (λa r=>Q2p (Q00.of (aC a 0))) (λX=> .bool X) (λX=>[])
theorem Qpl:Q06 pG Qsh:=oT (.cons Qqx (.cons Qp2 (.cons Z3g (.nil)))) Tryz.func30 Tryz.call30 [] [] 2
