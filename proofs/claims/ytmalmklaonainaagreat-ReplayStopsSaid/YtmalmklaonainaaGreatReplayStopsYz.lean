import Derived.Test.YtmalmklaonainaaGreatReplayStopsFh
import Derived.Test.YtmalmklaonainaaGreatReplayStopsYx
open List renaming take->cY, drop->cZ, length->dH, set->dD, getD->aK
open Int renaming toNat->dC, tmod->dB
open UInt8 renaming toNat->eU
open Nat renaming blt->bT, beq->bS, lt_succ_self->cK
set_option maxRecDepth 100000
set_option linter.all false
namespace Go.Proofs.YtmalmklaonainaaGreat
open Go Go.GD Go.IntKind
noncomputable section
def Q47(m:Q00):Tree Bool:=
.an (Q4q m) (.lv (Q1f m) λ(x0:Bool)=> .br x0 (.br (!m.A9) (.an (Q8o m) (.lv (Q4c m) λ(x1:Bool)=> .br (!x1) (.lf (decide (m.A1<1152921504606846976))) (.lf false))) (.lf false)) (.lf false))
def Q2s m:=(Q47 m).m
abbrev Qc8 m:=(Q47 m).p
def Z5e:Q0e:=mT 112 [] true [.agg Q00.sig] [] (λa r=>Q47 (Q00.of (aC a 0))) (λX=> .bool X) (λX=>[])
theorem Qon:Q06 pG Z5e:=oT (.cons Qbo (.cons Qim (.nil))) Tryz.func112 Tryz.call112 [] [] 2
def Qcq(m:Q00)(z:(Int)):Nat:=(5-z).toNat
def Q2z(m:Q00):Tree Q00:=
let E1:=({B2:=m.B2,Mem:=m.Mem,A4:=m.A4,B0:=m.B0,B1:=m.B1,C5:=m.C5,A2:=m.A2,A1:=m.A1,A7:=false,A9:=m.A9}:Q00); .br (iand u32 m.B2.B5.a0 (2:Int)==(0:Int)) (.lf (E1)) (.an (Qck E1) (.lv (Q6 E1) λ(x0:Int)=> .lp inferInstance (Qcq m 0+1) ((rZ/\rZ/\rE (x0:Int)/\rE (0:Int)/\True)/\(rE m.B2.X.a0/\rE m.B2.X.a1/\rE m.B2.X.a2/\rE m.B2.X.a3/\rE m.B2.X.a4/\rE m.B2.X.a5/\rE m.B2.X.a6/\rE m.B2.X.a7/\rE m.B2.X.a8/\rE m.B2.X.a9/\rE m.B2.X.a10/\rE m.B2.X.a11/\rE m.B2.X.a12/\rE m.B2.X.a13/\rE m.B2.X.a14/\rE m.B2.X.a15/\rE m.B2.Pc/\rE m.B2.B5.a0/\rE m.B2.B5.a1/\rE m.B2.B5.a2/\rE m.B2.B5.a3/\rE m.B2.B5.a4/\rE m.B2.B5.a5/\rE m.B2.B5.a6/\rE m.B2.B5.a7/\((Els.Nil (Els.ints u32 m.Mem)\/rE (1:Nat))/\rE m.Mem)/\rE m.A4.D3/\rE m.B0.D2/\rE m.B0.C8/\rE m.B0.D5/\rE m.B1.Blocks/\rE m.B1.C2/\rE m.B1.Frame/\rE m.B1.C1/\rE m.B1.D8/\rE m.B1.B7/\rE m.B1.B3/\rE m.B1.C4/\rE m.C5.Frame/\rE m.C5.E0/\rE m.C5.C7/\rE m.C5.B9/\rE m.C5.B8/\rE m.C5.F1/\rE m.A2.C9/\rE m.A2.C3/\rE m.A1/\rE (false:Bool)/\rE m.A9/\True)/\(mE zM True True)/\True) 0 λ(v0:Int)=> .br (decide (v0<5)) (.cn (decide (0<=v0)) (.br (iand u32 x0 (ishl u32 1 v0) !=0) (.lv (Q4y m.B2 (wrap i64 (16+v0)) 0) λ(x1:Q05)=> .lf (Sum.inr {B2:=x1,Mem:=m.Mem,A4:=m.A4,B0:=m.B0,B1:=m.B1,C5:=m.C5,A2:=m.A2,A1:=m.A1,A7:=false,A9:=m.A9})) (.nx ((rZ/\rZ/\rE (x0:Int)/\rE ((wrap i64 (v0+1)):Int)/\True)/\(rE m.B2.X.a0/\rE m.B2.X.a1/\rE m.B2.X.a2/\rE m.B2.X.a3/\rE m.B2.X.a4/\rE m.B2.X.a5/\rE m.B2.X.a6/\rE m.B2.X.a7/\rE m.B2.X.a8/\rE m.B2.X.a9/\rE m.B2.X.a10/\rE m.B2.X.a11/\rE m.B2.X.a12/\rE m.B2.X.a13/\rE m.B2.X.a14/\rE m.B2.X.a15/\rE m.B2.Pc/\rE m.B2.B5.a0/\rE m.B2.B5.a1/\rE m.B2.B5.a2/\rE m.B2.B5.a3/\rE m.B2.B5.a4/\rE m.B2.B5.a5/\rE m.B2.B5.a6/\rE m.B2.B5.a7/\((Els.Nil (Els.ints u32 m.Mem)\/rE (1:Nat))/\rE m.Mem)/\rE m.A4.D3/\rE m.B0.D2/\rE m.B0.C8/\rE m.B0.D5/\rE m.B1.Blocks/\rE m.B1.C2/\rE m.B1.Frame/\rE m.B1.C1/\rE m.B1.D8/\rE m.B1.B7/\rE m.B1.B3/\rE m.B1.C4/\rE m.C5.Frame/\rE m.C5.E0/\rE m.C5.C7/\rE m.C5.B9/\rE m.C5.B8/\rE m.C5.F1/\rE m.A2.C9/\rE m.A2.C3/\rE m.A1/\rE (false:Bool)/\rE m.A9/\True)/\(mE zM True True)/\True) (Sum.inl (wrap i64 (v0+1)))))) (.lf (Sum.inr E1))))
def Q1 m:=(Q2z m).m
abbrev Qam m:=(Q2z m).p
def Qzr:LInv:={
 α:=(Int)
 F:=λst a=>([(1, .ptr 0 0 0),(2, .ptr 1 0 0),(3,(lk st 3)),(15, .int i64 a)],[⟨true,43,49, .gen [mB (cT st 1)]⟩,⟨true,43,49, .gen [mB (cT st 2)]⟩])
 a0:=λst=>(lk st 15).toInt
 ex0:=λst=>[]++[(rX st 1 0),(rX st 2 1)]}
def Qtn:List (Nat×LInv):=[(6,Qzr)]
def Z58:Q0e:=Q0e.fz<|mkP 113 [] false [.agg Q00.sig] [] (λa r=>Qam (Q00.of (aC a 0))) (λa r=>Q1 (Q00.of (aC a 0))) (λX=> .agg (Q00.cells X)) (λX=>[])
theorem Qns:Q06 pG Z58:=Zil<|Q0p drawn Q0l (.cons Qkc (.cons Qjq (.nil))) Tryz.func113 Tryz.call113 (λa r=>Q2z (Q00.of (aC a 0))) [.sl (.ints .u32) false] Qtn 3 (λ_ _ _=>by kernel_rfl) (λ_ _=>rfl) (λ_ _ h=>h) (λh=>by cases h)
def Qa5(c:Q0d)(port:Int):Tree (Q0d×Int):=
.br (port==0) (.br (decide (c.D3=[])) (.lf (c,4294967295)) (.cn (decide ((0:Int)<=(0:Int)/\0<(c.D3.length:Int))) (.cn (decide ((0:Int)<=(1:Int)/\1<=(c.D3.length:Int)/\(c.D3.length:Int)<=(c.D3.length:Int))) (.lf ({D3:=cY (dC (c.D3.length:Int)-dC 1) (cZ (dC 1) c.D3)},wrap u32 (↑(eU (c.D3.getD (dC 0) (0:UInt8))):Int)))))) (.br (port==1) (.lf (c,wrap u32 (c.D3.length:Int))) (.lf (c,0)))
def Qqp c port:=(Qa5 c port).m
theorem Z7f(c:Q0d)(port:Int):(Qa5 c port).p:=by
 unfold Tree.p Qa5
 repeat'(first|exact trivial|refine w_br (λ_=> ?_) (λ_=> ?_)|refine w_cn ?_ ?_|refine w_an ?_ ?_|refine w_lv (λ_ _=> ?_)|refine w_nx ?_|refine w_lf ?_|refine And.intro ?_ ?_)
 all_goals(exact fin0)
def Zhg:Q0e:=mS 195 [] true [.agg Q0d.sig, .one (.int .i64)] [] (λa r=>Qa5 (Q0d.of (aC a 0)) (argI a 1)) (λX=> .tup [.agg (Q0d.cells (X.1)), .int .u32 (X.2)]) (λX=>[])
theorem Zab:Q06 pG Zhg:=oS (.nil) Tryz.func195 Tryz.call195 [] [] 2 (λ_ _ _=>by kernel_rfl) (λa r=>Z7f (Q0d.of (aC a 0)) (argI a 1)) (λ_ X=>by kernel_rfl)
def Qpz(t:Q0i):Tree Int:=
.br t.D5 (.lf 1) (.lf 0)
def Z11 t:=(Qpz t).m
def Zof:Q0e:=mS 196 [] true [.agg Q0i.sig] [] (λa r=>Qpz (Q0i.of (aC a 0))) (λX=> .int .u32 X) (λX=>[])
theorem Zjg:Q06 pG Zof:=oS (.nil) Tryz.func196 Tryz.call196 [] [] 2
def Que(d0:Q0g)(port:Int):Tree Int:=
.br (port==4) (.lf d0.C2) (.br (port==5) (.lf d0.Frame) (.br (port==6) (.lf (wrap u32 d0.C1)) (.lf 0)))
def Qx1 d0 port:=(Que d0 port).m
def vA:Q0e:=mS 197 [] true [.agg Q0g.sig, .one (.int .i64)] [] (λa r=>Que (Q0g.of (aC a 0)) (argI a 1)) (λX=> .int .u32 X) (λX=>[])
theorem Znq:Q06 pG vA:=oS (.nil) Tryz.func197 Tryz.call197 [] [] 2
def Qv8(n:Q0r)(port:Int):Tree Int:=
.br (port==7) (.lf n.Frame) (.br (port==8) (.lf n.F1) (.br (port==9) (.br n.C7 (.br n.B8 (.lf (wrap u32 (wrap u32 ((0:Int)+(1:Int))+2))) (.lf (wrap u32 ((0:Int)+(1:Int))))) (.br n.B8 (.lf (wrap u32 ((0:Int)+(2:Int)))) (.lf 0))) (.lf 0)))
def Z41 n port:=(Qv8 n port).m
def qW:Q0e:=mS 198 [] true [.agg Q0r.sig, .one (.int .i64)] [] (λa r=>Qv8 (Q0r.of (aC a 0)) (argI a 1)) (λX=> .int .u32 X) (λX=>[])
theorem qB:Q06 pG qW:=oS (.nil) Tryz.func198 Tryz.call198 [] [] 2
def Qd4(b:Q07)(port:Int):Tree Int:=
.br (port==10) (.lf b.C9) (.br (port==11) (.an (Qeo b) (.lv (Qef b) λ(x0:Int)=> .lf (wrap u32 x0))) (.lf 0))
def Qpy b port:=(Qd4 b port).m
abbrev Qrp b port:=(Qd4 b port).p
def Zep:Q0e:=mT 199 [] true [.agg Q07.sig, .one (.int .i64)] [] (λa r=>Qd4 (Q07.of (aC a 0)) (argI a 1)) (λX=> .int .u32 X) (λX=>[])
theorem Zca:Q06 pG Zep:=oT (.cons Qnh (.nil)) Tryz.func199 Tryz.call199 [] [] 2
def Q4z(m:Q00)(port clock:Int):Tree (Q00×Int):=
let T1:Tree ((Q00×Int)):= .lv (Qqp m.A4 port) λ(x0:Q0d×Int)=> .lf ({B2:=m.B2,Mem:=m.Mem,A4:=x0.1,B0:=m.B0,B1:=m.B1,C5:=m.C5,A2:=m.A2,A1:=m.A1,A7:=m.A7,A9:=m.A9},x0.2); .br (port==0) T1 (.br (port==1) T1 (.br (port==2) (.lf (m,clock)) (.br (port==3) (.lv (Z11 m.B0) λ(x2:Int)=> .lf (m,x2)) (.br (port==4) (.lv (Qx1 m.B1 port) λ(x3:Int)=> .lf (m,x3)) (.br (port==5) (.lv (Qx1 m.B1 port) λ(x4:Int)=> .lf (m,x4)) (.br (port==6) (.lv (Qx1 m.B1 port) λ(x5:Int)=> .lf (m,x5)) (.br (port==7) (.lv (Z41 m.C5 port) λ(x6:Int)=> .lf (m,x6)) (.br (port==8) (.lv (Z41 m.C5 port) λ(x7:Int)=> .lf (m,x7)) (.br (port==9) (.lv (Z41 m.C5 port) λ(x8:Int)=> .lf (m,x8)) (let T2:Tree ((Q00×Int)):= .an (Qrp m.A2 port) (.lv (Qpy m.A2 port) λ(x9:Int)=> .lf (m,x9)); .br (port==10) T2 (.br (port==11) T2 (.lf (m,0)))))))))))))
def Q1k m port clock:=(Q4z m port clock).m
abbrev Qh7 m port clock:=(Q4z m port clock).p
def Qv9:Q0e:=Q0e.fz<|mkP 134 [] false [.agg Q00.sig, .one (.int .i64), .one (.int .u32)] [] (λa r=>Qh7 (Q00.of (aC a 0)) (argI a 1) (argI a 2)) (λa r=>Q1k (Q00.of (aC a 0)) (argI a 1) (argI a 2)) (λX=> .tup [.agg (Q00.cells (X.1)), .int .u32 (X.2)]) (λX=>[])
theorem Qsh:Q06 pG Qv9:=Zil<|Q0p drawn Q0l (.cons Zab (.cons Zjg (.cons Znq (.cons qB (.cons Zca (.nil)))))) Tryz.func134 Tryz.call134 (λa r=>Q4z (Q00.of (aC a 0)) (argI a 1) (argI a 2)) [.sl (.ints .u32) false] [] 2 (λ_ _ _=>by kernel_rfl) (λ_ _=>rfl) (λ_ _ h=>h) (λh=>by cases h)
def Qmq(t:Q0i)(deadline:Int):Tree Q0i:=
.lf ({D2:=deadline !=0,C8:=deadline,D5:=false})
def Qlv t deadline:=(Qmq t deadline).m
def Zjc:Q0e:=mS 200 [] true [.agg Q0i.sig, .one (.int .u32)] [] (λa r=>Qmq (Q0i.of (aC a 0)) (argI a 1)) (λX=> .agg (Q0i.cells X)) (λX=>[])
theorem Zgn:Q06 pG Zjc:=oS (.nil) Tryz.func200 Tryz.call200 [] [] 2
def Qdv(m:List Int)(frame:Int):Tree Bool:=
.lv (Q0z m) λ(x0:Int)=> .lf (decide (wrap u64 frame<wrap u64 x0))
def Q9u m frame:=(Qdv m frame).m
def Zcy:Q0e:=mS 193 [] true [.one (.ints .u32), .one (.int .u32)] [] (λa r=>Qdv (argL .u32 a 0) (argI a 1)) (λX=> .bool X) (λX=>[])
theorem Qru:Q06 pG Zcy:=oS (.cons Q4f (.nil)) Tryz.func193 Tryz.call193 [] [] 2
def Q8n(m:List Int)(frame:Int):Tree Bool:=
.br (decide (frame>=0)) (.lv (Q0z m) λ(x0:Int)=> .lf (decide (frame<x0))) (.lf false)
def Q5h m frame:=(Q8n m frame).m
def Z00:Q0e:=mS 208 [] true [.one (.ints .u32), .one (.int .i64)] [] (λa r=>Q8n (argL .u32 a 0) (argI a 1)) (λX=> .bool X) (λX=>[])
theorem Qlb:Q06 pG Z00:=oS (.cons Q4f (.nil)) Tryz.func208 Tryz.call208 [] [] 2
def Qnp(words:List Int)(z:(Int)×(List Int)):Prop:=0<=z.1/\z.1<=words.length/\(z.2.length:Int)=4*z.1
def Q7s(words:List Int)(z:(Int)×(List Int)):Nat:=(words.length-z.1).toNat
def Q57(words:List Int):Tree (List UInt8):=
.cn (bT 0 1&&bS 1 1&&List.all [D.int u8 0] D.plain&&decide ((0:Int)<=(0:Int)/\0<=wrap i64 (4*(words.length:Int))/\wrap i64 (4*(words.length:Int))<=9223372036854775807/\(↑1:Int)*wrap i64 (4*(words.length:Int))<=140737488355328)) (.lp inferInstance (Q7s words (0,[])+1) ((True/\((Els.Nil (Els.ints u32 words)\/rE (1:Nat))/\rE (words:List Int))/\rE ((words.length:Int):Int)/\rE (0:Int)/\True)/\rE ([]:List Int)/\True) (0,[]) λ(v0:Int×List Int)=> .br (decide (v0.1<(words.length:Int))) (.cn (bS 1 1&&bT 0 1&&decide (0<=v0.1/\v0.1<(words.length:Int))) (.cn (decide (1*(v0.2.length+4)<=140737488355328)) (let E1:=words.getD v0.1.toNat 0; .nx ((True/\((Els.Nil (Els.ints u32 words)\/rE (1:Nat))/\rE (words:List Int))/\rE ((words.length:Int):Int)/\rE ((wrap i64 (v0.1+1)):Int)/\True)/\rE ((v0.2++[wrap u8 (words.getD v0.1.toNat 0),wrap u8 (ishr u32 (words.getD v0.1.toNat 0) 8),wrap u8 (ishr u32 (words.getD v0.1.toNat 0) 16),wrap u8 (ishr u32 (words.getD v0.1.toNat 0) 24)]):List Int)/\True) (Sum.inl (wrap i64 (v0.1+1),v0.2++[wrap u8 E1,wrap u8 (ishr u32 E1 8),wrap u8 (ishr u32 E1 16),wrap u8 (ishr u32 E1 24)]))))) (.lf (Sum.inr (bytesOf v0.2))))
def Z3j words:=(Q57 words).m
def Qec(words:List Int):Prop:=
words.length<=1000000000000
theorem Z21(words:List Int)(hw:Qec words):(Q57 words).p:=by
 simp only[Qec]at hw
 unfold Tree.p Q57
 repeat'(first|refine w_lp (inv:=Qnp words) (μ:=Q7s words) ?_ (cK _) (λ_ _=> ?_)|exact trivial|refine w_br (λ_=> ?_) (λ_=> ?_)|refine w_cn ?_ ?_|refine w_an ?_ ?_|refine w_lv (λ_ _=> ?_)|refine w_nx ?_|refine w_lf ?_|refine And.intro ?_ ?_)
 all_goals((try simp only[Qnp,Q7s]at*);exact fin0)
def Z6p:LInv:={
 α:=(Int)×(List Int)
 F:=λst a=>([(3, .all 0),(10,(lk st 10)),(11,(lk st 11)),(12, .int i64 a.1)],[⟨false,5,1, .ints u8 a.2⟩])
 a0:=λst=>((lk st 12).toInt,(Q46 st.rows (rN st 3)))
 ex0:=λst=>[]++[(rX st 3 0)]}
def Z0c:List (Nat×LInv):=[(3,Z6p)]
def Zc3:Q0e:=mkP 209 [] true [.one (.ints .u32)] [] (λa r=>Qec (argL .u32 a 0)) (λa r=>Z3j (argL .u32 a 0)) (λX=> .str X) (λX=>[])
theorem Z5h:Q06 pG Zc3:=Q0p drawn Q0l (.nil) Tryz.func209 Tryz.call209 (λa r=>Q57 (argL .u32 a 0)) [] Z0c 3 (hp:=λa r h=>Z21 (argL .u32 a 0) h)
def Q6u(m:List Int)(frame:Int):Tree ((List UInt8)×Bool):=
.lv (Q5h m frame) λ(x0:Bool)=> .br (!x0) (.lf ([],false)) (.cn (bS 1 1&&bT 0 1&&decide (0<=wrap i64 (frame*32)/\wrap i64 (frame*32)<=wrap i64 (wrap i64 (frame*32)+32)/\wrap i64 (wrap i64 (frame*32)+32)<=(m.length:Int))) (let E1:=cY (dC (wrap i64 (wrap i64 (frame*32)+32))-dC (wrap i64 (frame*32))) (cZ (dC (wrap i64 (frame*32))) m); .an (Qec E1) (.lv (Z3j E1) λ(x1:List UInt8)=> .lf (x1,true))))
def Q5q m frame:=(Q6u m frame).m
abbrev Qdk m frame:=(Q6u m frame).p
def Zcb:Q0e:=mT 143 [] true [.one (.ints .u32), .one (.int .i64)] [] (λa r=>Q6u (argL .u32 a 0) (argI a 1)) (λX=> .tup [.str (X.1), .bool (X.2)]) (λX=>[])
theorem Qkp:Q06 pG Zcb:=oT (.cons Qlb (.cons Z5h (.nil))) Tryz.func143 Tryz.call143 [] [] 2
def Qrl(d0:Q0g)(at0:Int):Tree (Q03×Bool):=
.br (d0.C1 !=1) (.lf ({B6:=0,At:=0,C2:=0,D0:=[]},false)) (.br (d0.D8==1) (.lf ({B6:=3,At:=at0,C2:=d0.B7,D0:=[]},true)) (.br (d0.D8==2) (.lf ({B6:=4,At:=at0,C2:=d0.B7,D0:=d0.C4},true)) (.lf ({B6:=0,At:=0,C2:=0,D0:=[]},false))))
def Qk3 d0 at0:=(Qrl d0 at0).m
def Z5w:Q0e:=mS 287 [] true [.agg Q0g.sig, .one (.int .u64)] [] (λa r=>Qrl (Q0g.of (aC a 0)) (argI a 1)) (λX=> .tup [.agg (Q03.cells (X.1)), .bool (X.2)]) (λX=>[])
theorem Z20:Q06 pG Z5w:=oS (.nil) Tryz.func287 Tryz.call287 [] [] 2
def Qd8(d0:Q0g)(m:List Int)(cmd at0:Int):Tree (Q0g×(List Q03)):=
.br (d0.C1 !=0) (.lf (d0,[])) (let T1:Tree ((Q0g×(List Q03))):= .lf ({Blocks:=d0.Blocks,C2:=d0.C2,Frame:=d0.Frame,C1:=3,D8:=d0.D8,B7:=d0.B7,B3:=d0.B3,C4:=d0.C4},[]); .br (decide (d0.C2>=d0.Blocks)) T1 (.lv (Q9u m d0.Frame) λ(x0:Bool)=> .br (!x0) T1 (.br (cmd==2) (.an (Qdk m (wrap i64 d0.Frame)) (.lv (Q5q m (wrap i64 d0.Frame)) λ(x1:List UInt8×Bool)=>let E2:=({Blocks:=d0.Blocks,C2:=d0.C2,Frame:=d0.Frame,C1:=1,D8:=cmd,B7:=d0.C2,B3:=d0.Frame,C4:=x1.1}:Q0g); .lv (Qk3 E2 at0) λ(x2:Q03×Bool)=> .lf (E2,[x2.1]))) (let E3:=({Blocks:=d0.Blocks,C2:=d0.C2,Frame:=d0.Frame,C1:=1,D8:=cmd,B7:=d0.C2,B3:=d0.Frame,C4:=[]}:Q0g); .lv (Qk3 E3 at0) λ(x3:Q03×Bool)=> .lf (E3,[x3.1])))))
def Qx0 d0 m cmd at0:=(Qd8 d0 m cmd at0).m
abbrev Qro d0 m cmd at0:=(Qd8 d0 m cmd at0).p
def Zdc:Q0e:=mT 251 [] true [.agg Q0g.sig, .one (.ints .u32), .one (.int .i64), .one (.int .u64)] [] (λa r=>Qd8 (Q0g.of (aC a 0)) (argL .u32 a 1) (argI a 2) (argI a 3)) (λX=> .tup [.agg (Q0g.cells (X.1)), .sl 4 (.recs .apiOutput (X.2)) true]) (λX=>[])
theorem Z9r:Q06 pG Zdc:=oT (.cons Qru (.cons Qkp (.cons Z20 (.nil)))) Tryz.func251 Tryz.call251 [.sl (.recs .apiOutput) true] [] 2
def Qhu(d0:Q0g)(m:List Int)(port v at0:Int):Tree (Q0g×(List Q03)):=
.br (port==4) (.lf ({Blocks:=d0.Blocks,C2:=v,Frame:=d0.Frame,C1:=d0.C1,D8:=d0.D8,B7:=d0.B7,B3:=d0.B3,C4:=d0.C4},[])) (.br (port==5) (.lf ({Blocks:=d0.Blocks,C2:=d0.C2,Frame:=v,C1:=d0.C1,D8:=d0.D8,B7:=d0.B7,B3:=d0.B3,C4:=d0.C4},[])) (.br (port==6) (let T1:Tree ((Q0g×(List Q03))):= .an (Qro d0 m (wrap i64 v) at0) (.lv (Qx0 d0 m (wrap i64 v) at0) λ(x0:Q0g×List Q03)=> .lf (x0.1,x0.2)); .br (v==1) T1 (.br (v==2) T1 (.br (v==0) (.lv (Q9e d0) λ(x2:Bool)=> .br x2 (.lf ({Blocks:=d0.Blocks,C2:=d0.C2,Frame:=d0.Frame,C1:=0,D8:=d0.D8,B7:=d0.B7,B3:=d0.B3,C4:=d0.C4},[])) (.lf (d0,[]))) (.lf (d0,[]))))) (.lf (d0,[]))))
def Z0v d0 m port v at0:=(Qhu d0 m port v at0).m
abbrev Qyw d0 m port v at0:=(Qhu d0 m port v at0).p
def Zpq:Q0e:=mT 201 [] true [.agg Q0g.sig, .one (.ints .u32), .one (.int .i64), .one (.int .u32), .one (.int .u64)] [] (λa r=>Qhu (Q0g.of (aC a 0)) (argL .u32 a 1) (argI a 2) (argI a 3) (argI a 4)) (λX=> .tup [.agg (Q0g.cells (X.1)), .sl 4 (.recs .apiOutput (X.2)) true]) (λX=>[])
theorem Zj7:Q06 pG Zpq:=oT (.cons Z9r (.cons Qo6 (.nil))) Tryz.func201 Tryz.call201 [.sl (.recs .apiOutput) true] [] 2
def Qg3(m:List Int)(frame:Int):Tree Bool:=
.lv (Q0z m) λ(x0:Int)=> .lf (decide (wrap u64 frame<wrap u64 x0))
def Qac m frame:=(Qg3 m frame).m
def Ze1:Q0e:=mS 194 [] true [.one (.ints .u32), .one (.int .u32)] [] (λa r=>Qg3 (argL .u32 a 0) (argI a 1)) (λX=> .bool X) (λX=>[])
theorem Qn0:Q06 pG Ze1:=oS (.cons Q4f (.nil)) Tryz.func194 Tryz.call194 [] [] 2
def Qhy(n:Q0r)(m:List Int)(at0:Int):Tree (List Q03):=
.br (decide (n.E0<1)) (.lf ([])) (.br (decide (n.E0>128)) (.lf ([])) (.lv (Qac m n.Frame) λ(x0:Bool)=> .br (!x0) (.lf ([])) (.an (Qdk m (wrap i64 n.Frame)) (.lv (Q5q m (wrap i64 n.Frame)) λ(x1:List UInt8×Bool)=> .cn (decide ((0:Int)<=(0:Int)/\0<=n.E0/\n.E0<=(x1.1.length:Int))) (.lf ([{B6:=2,At:=at0,C2:=0,D0:=cY (dC n.E0-dC 0) (cZ (dC 0) x1.1)}]))))))
def Zcd n m at0:=(Qhy n m at0).m
abbrev Qye n m at0:=(Qhy n m at0).p
def Zps:Q0e:=mT 252 [] true [.agg Q0r.sig, .one (.ints .u32), .one (.int .u64)] [] (λa r=>Qhy (Q0r.of (aC a 0)) (argL .u32 a 1) (argI a 2)) (λX=> .sl 4 (.recs .apiOutput X) true) (λX=>[])
theorem Zks:Q06 pG Zps:=oT (.cons Qn0 (.cons Qkp (.nil))) Tryz.func252 Tryz.call252 [.sl (.recs .apiOutput) true] [] 2
def Qls(n:Q0r)(m:List Int)(port v at0:Int):Tree (Q0r×(List Q03)):=
.br (port==7) (.lf ({Frame:=v,E0:=n.E0,C7:=n.C7,B9:=n.B9,B8:=n.B8,F1:=n.F1},[])) (.br (port==8) (.lf ({Frame:=n.Frame,E0:=v,C7:=n.C7,B9:=n.B9,B8:=n.B8,F1:=n.F1},[])) (.br (port==9) (.br (v==1) (.an (Qye n m at0) (.lv (Zcd n m at0) λ(x0:List Q03)=> .lf (n,x0))) (.br (v==2) (.lv (Qac m n.Frame) λ(x1:Bool)=> .br x1 (.br (!n.C7) (.br (!n.B8) (.lf ({Frame:=n.Frame,E0:=n.E0,C7:=true,B9:=n.Frame,B8:=n.B8,F1:=n.F1},[])) (.lf (n,[]))) (.lf (n,[]))) (.lf (n,[]))) (.br (v==0) (.lf ({Frame:=n.Frame,E0:=n.E0,C7:=n.C7,B9:=n.B9,B8:=false,F1:=0},[])) (.lf (n,[]))))) (.lf (n,[]))))
def Zal n m port v at0:=(Qls n m port v at0).m
abbrev Z39 n m port v at0:=(Qls n m port v at0).p
def xB:Q0e:=mT 202 [] true [.agg Q0r.sig, .one (.ints .u32), .one (.int .i64), .one (.int .u32), .one (.int .u64)] [] (λa r=>Qls (Q0r.of (aC a 0)) (argL .u32 a 1) (argI a 2) (argI a 3) (argI a 4)) (λX=> .tup [.agg (Q0r.cells (X.1)), .sl 4 (.recs .apiOutput (X.2)) true]) (λX=>[])
theorem Zpb:Q06 pG xB:=oT (.cons Zks (.cons Qn0 (.nil))) Tryz.func202 Tryz.call202 [.sl (.recs .apiOutput) true] [] 2
def Qbd(m:List Int)(frame:Int)(s:List UInt8)(z:(Int)×(List Int)):Nat:=(32-z.1).toNat
def Q3l(m:List Int)(frame:Int)(s:List UInt8):Tree ((List Int)×Bool):=
.an (Q09 m) (.lv (Q04 m) λ(x0:List Int)=> .lv (Q5h m frame) λ(x1:Bool)=> .br (!x1) (.lf (x0,false)) (.br ((s.length:Int) !=(128:Int)) (.lf (x0,false)) (.lp inferInstance (Qbd m frame s (0,x0)+1) ((rE (s:List UInt8)/\True/\rE ((wrap i64 (frame*32)):Int)/\rE (0:Int)/\True)/\rE (x0:List Int)/\True) (0,x0) λ(v0:Int×List Int)=> .br (decide (v0.1<32)) (.cn (decide (0<=wrap i64 (4*v0.1)/\wrap i64 (4*v0.1)<=wrap i64 (wrap i64 (4*v0.1)+4)/\wrap i64 (wrap i64 (4*v0.1)+4)<=(s.length:Int))) (let E1:=cY (dC (wrap i64 (wrap i64 (4*v0.1)+4))-dC (wrap i64 (4*v0.1))) (cZ (dC (wrap i64 (4*v0.1))) s); .cn (decide ((0:Int)<=(0:Int)/\0<(↑(dH E1):Int))) (.cn (decide ((0:Int)<=(1:Int)/\1<(↑(dH E1):Int))) (.cn (decide ((0:Int)<=(2:Int)/\2<(↑(dH E1):Int))) (.cn (decide ((0:Int)<=(3:Int)/\3<(↑(dH E1):Int))) (.cn (bS 1 1&&bT 0 1&&decide (0<=wrap i64 (wrap i64 (frame*32)+v0.1)/\wrap i64 (wrap i64 (frame*32)+v0.1)<(v0.2.length:Int))) (.nx ((rE (s:List UInt8)/\True/\rE ((wrap i64 (frame*32)):Int)/\rE ((wrap i64 (v0.1+1)):Int)/\True)/\rE ((dD v0.2 (dC (wrap i64 (wrap i64 (frame*32)+v0.1))) (ior u32 (ior u32 (ior u32 (wrap u32 (↑(eU (aK (cY (dC (wrap i64 (wrap i64 (4*v0.1)+4))-dC (wrap i64 (4*v0.1))) (cZ (dC (wrap i64 (4*v0.1))) s)) (dC 0) (0:UInt8))):Int)) (ishl u32 (wrap u32 (↑(eU (aK (cY (dC (wrap i64 (wrap i64 (4*v0.1)+4))-dC (wrap i64 (4*v0.1))) (cZ (dC (wrap i64 (4*v0.1))) s)) (dC 1) (0:UInt8))):Int)) 8)) (ishl u32 (wrap u32 (↑(eU (aK (cY (dC (wrap i64 (wrap i64 (4*v0.1)+4))-dC (wrap i64 (4*v0.1))) (cZ (dC (wrap i64 (4*v0.1))) s)) (dC 2) (0:UInt8))):Int)) 16)) (ishl u32 (wrap u32 (↑(eU (aK (cY (dC (wrap i64 (wrap i64 (4*v0.1)+4))-dC (wrap i64 (4*v0.1))) (cZ (dC (wrap i64 (4*v0.1))) s)) (dC 3) (0:UInt8))):Int)) 24))):List Int)/\True) (Sum.inl (wrap i64 (v0.1+1),dD v0.2 (dC (wrap i64 (wrap i64 (frame*32)+v0.1))) (ior u32 (ior u32 (ior u32 (wrap u32 (↑(eU (aK E1 (dC 0) (0:UInt8))):Int)) (ishl u32 (wrap u32 (↑(eU (aK E1 (dC 1) (0:UInt8))):Int)) 8)) (ishl u32 (wrap u32 (↑(eU (aK E1 (dC 2) (0:UInt8))):Int)) 16)) (ishl u32 (wrap u32 (↑(eU (aK E1 (dC 3) (0:UInt8))):Int)) 24))))))))))) (.lf (Sum.inr (v0.2,true))))))
def Q2w m frame s:=(Q3l m frame s).m
abbrev Q9b m frame s:=(Q3l m frame s).p
def Qxa:LInv:={
 α:=(Int)×(List Int)
 F:=λst a=>([(2,(lk st 2)),(8, .all 0),(9,(lk st 9)),(26, .int i64 a.1)],[⟨false,25,1, .ints u32 a.2⟩])
 a0:=λst=>((lk st 26).toInt,(Q46 st.rows (rN st 8)))
 ex0:=λst=>[]++[(rX st 8 0)]}
def Qrz:List (Nat×LInv):=[(6,Qxa)]
def Z06:Q0e:=mT 144 [] true [.one (.ints .u32), .one (.int .i64), .one (.str)] [] (λa r=>Q3l (argL .u32 a 0) (argI a 1) (argS a 2)) (λX=> .tup [.all 0, .bool (X.2)]) (λX=>[⟨false,25,1, .ints .u32 (X.1)⟩])
theorem Qf9:Q06 pG Z06:=oT (.cons Q0w (.cons Qlb (.nil))) Tryz.func144 Tryz.call144 [.row 25 1 (.ints .u32)] Qrz 3
def strings_Repeat(s:List UInt8)(count:Int):(List UInt8):=
Lib.repeatL s count.toNat
def Qeb(s:List UInt8)(count:Int):Prop:=
0<=count/\count<=9223372036854775807/\s.length*count.toNat<=140737488355328
def Qji(s:List UInt8)(count:Int):List D:=[.str s, .int .i64 count]
def Qie(s:List UInt8)(count:Int):List Row:=[]
def Qdn(X:List UInt8):D:= .str X
def Qdo(X:List UInt8):List Row:=[]
def Qk1:List PT:=[.one (.str), .one (.int .i64)]
def Qju:List RT:=[]
def Qvi(args:List D)(rows:List Row):(List UInt8):=strings_Repeat (argS args 0) (argI args 1)
def Qvd(args:List D)(rows:List Row):Prop:=Qeb (argS args 0) (argI args 1)
def Z0p:Q0e:=mkP 253 [] true Qk1 Qju Qvd Qvi Qdn Qdo
theorem Qr0(s:List UInt8)(count:Int)(hw:Qeb s count):Q4k pG 253 (Qji s count) (Qie s count) (Qdn (strings_Repeat s count)) (Qdo (strings_Repeat s count)):=by
 exact vc Tryz.strings_Repeat hw.1 hw.2.1 hw.2.2
set_option maxRecDepth 100000 in
theorem Qse(args:List D)(rows:List Row):Qfu Qk1 args 0=Qji (argS args 0) (argI args 1):=by kernel_rfl
set_option maxRecDepth 100000 in
theorem Qqt(args:List D)(rows:List Row):Q65 Qju rows 0=Qie (argS args 0) (argI args 1):=by kernel_rfl
set_option maxRecDepth 100000 in
theorem Qvu(X:List UInt8):(ffB (Qdn X)&&ffBR (Qdo X))=true:=by kernel_rfl
theorem Qwb:Q06 pG Z0p:=Qze Tryz.call253 (λargs rows hp=>by rw[Qse args rows,Qqt args rows];exact Qr0 (argS args 0) (argI args 1) hp) (λ_ X=>Qvu X)
def Q49(b:Q07)(m:List Int)(port v:Int):Tree (Q07×(List Int)):=
let T1:Tree ((Q07×(List Int))):= .an (Q09 m) (.lv (Q04 m) λ(x0:List Int)=> .lf (b,x0)); .br (decide (v>=32)) T1 (.cn (decide (0<=v)) (.br (port==10) (.lv (Q0z m) λ(x1:Int)=> .br (decide (wrap i64 v<x1)) (.br (iand u32 b.C3 (ishl u32 1 v)==0) (.an (Qeb [(0:UInt8)] 128) (.lv (strings_Repeat [(0:UInt8)] 128) λ(x2:List UInt8)=> .an (Q9b m (wrap i64 v) x2) (.lv (Q2w m (wrap i64 v) x2) λ(x3:List Int×Bool)=> .lf ({C9:=b.C9,C3:=ior u32 b.C3 (ishl u32 1 v)},x3.1)))) T1) T1) (.br (port==11) (.an (Q09 m) (.lv (Q04 m) λ(x6:List Int)=> .lf ({C9:=b.C9,C3:=Qhj u32 b.C3 (ishl u32 1 v)},x6))) T1)))
def Q8d b m port v:=(Q49 b m port v).m
abbrev Qp8 b m port v:=(Q49 b m port v).p
def Zcg:Q0e:=mT 203 [] true [.agg Q07.sig, .one (.ints .u32), .one (.int .i64), .one (.int .u32)] [] (λa r=>Q49 (Q07.of (aC a 0)) (argL .u32 a 1) (argI a 2) (argI a 3)) (λX=> .tup [.agg (Q07.cells (X.1)), .all 0]) (λX=>[⟨false,25,1, .ints .u32 (X.2)⟩])
theorem Z5r:Q06 pG Zcg:=oT (.cons Q0w (.cons Q4f (.cons Qf9 (.cons Qwb (.nil))))) Tryz.func203 Tryz.call203 [.row 25 1 (.ints .u32)] [] 2
def Q42(m:Q00)(port v at0:Int):Tree (Q00×(List Q03)):=
.br (port==0) (.lf (m,[{B6:=1,At:=at0,C2:=0,D0:=[(λ(n:Int)=>UInt8.ofNat n.toNat) (wrap u8 v)]}])) (.br (port==3) (.lv (Qlv m.B0 v) λ(x0:Q0i)=> .lf ({B2:=m.B2,Mem:=m.Mem,A4:=m.A4,B0:=x0,B1:=m.B1,C5:=m.C5,A2:=m.A2,A1:=m.A1,A7:=m.A7,A9:=m.A9},[])) (let T1:Tree ((Q00×(List Q03))):= .an (Qyw m.B1 m.Mem port v at0) (.lv (Z0v m.B1 m.Mem port v at0) λ(x1:Q0g×List Q03)=> .lf ({B2:=m.B2,Mem:=m.Mem,A4:=m.A4,B0:=m.B0,B1:=x1.1,C5:=m.C5,A2:=m.A2,A1:=m.A1,A7:=m.A7,A9:=m.A9},x1.2)); .br (port==4) T1 (.br (port==5) T1 (.br (port==6) T1 (let T2:Tree ((Q00×(List Q03))):= .an (Z39 m.C5 m.Mem port v at0) (.lv (Zal m.C5 m.Mem port v at0) λ(x4:Q0r×List Q03)=> .lf ({B2:=m.B2,Mem:=m.Mem,A4:=m.A4,B0:=m.B0,B1:=m.B1,C5:=x4.1,A2:=m.A2,A1:=m.A1,A7:=m.A7,A9:=m.A9},x4.2)); .br (port==7) T2 (.br (port==8) T2 (.br (port==9) T2 (let T3:Tree ((Q00×(List Q03))):= .an (Qp8 m.A2 m.Mem port v) (.lv (Q8d m.A2 m.Mem port v) λ(x7:Q07×List Int)=> .lf ({B2:=m.B2,Mem:=x7.2,A4:=m.A4,B0:=m.B0,B1:=m.B1,C5:=m.C5,A2:=x7.1,A1:=m.A1,A7:=m.A7,A9:=m.A9},[])); .br (port==10) T3 (.br (port==11) T3 (.lf (m,[])))))))))))
def Q2l m port v at0:=(Q42 m port v at0).m
abbrev Qgd m port v at0:=(Q42 m port v at0).p
def Qs5:Q0e:=Q0e.fz<|mkP 135 [] false [.agg Q00.sig, .one (.int .i64), .one (.int .u32), .one (.int .u64)] [] (λa r=>Qgd (Q00.of (aC a 0)) (argI a 1) (argI a 2) (argI a 3)) (λa r=>Q2l (Q00.of (aC a 0)) (argI a 1) (argI a 2) (argI a 3)) (λX=> .tup [.agg (Q00.cells (X.1)), .sl 4 (.recs .apiOutput (X.2)) true]) (λX=>[])
theorem Qqx:Q06 pG Qs5:=Zil<|Q0p drawn Q0l (.cons Zgn (.cons Zj7 (.cons Zpb (.cons Z5r (.nil))))) Tryz.func135 Tryz.call135 (λa r=>Q42 (Q00.of (aC a 0)) (argI a 1) (argI a 2) (argI a 3)) [.sl (.ints .u32) false, .sl (.recs .apiOutput) true] [] 2 (λ_ _ _=>by kernel_rfl) (λ_ _=>rfl) (λ_ _ h=>h) (λh=>by cases h)
def Q38(m:Q00)(clock:Int):Tree (Q00×(List Q03)):=
.an (Q09 m.Mem) (.lv (Q04 m.Mem) λ(x0:List Int)=>let E1:=({B2:=m.B2,Mem:=x0,A4:=m.A4,B0:=m.B0,B1:=m.B1,C5:=m.C5,A2:=m.A2,A1:=m.A1,A7:=m.A7,A9:=m.A9}:Q00); .an (Qc8 E1) (.lv (Q2s E1) λ(x1:Bool)=> .br (!x1) (.lf (E1,[])) (.an (Qam E1) (.lv (Q1 E1) λ(x2:Q00)=> .an (Qki x2.B2 x2.Mem) (.lv (Q84 x2.B2 x2.Mem) λ(x3:Q05×List Int×Q16)=>let E2:=({B2:=x3.1,Mem:=x3.2.1,A4:=x2.A4,B0:=x2.B0,B1:=x2.B1,C5:=x2.C5,A2:=x2.A2,A1:=x2.A1,A7:=x2.A7,A9:=x2.A9}:Q00); .br (x3.2.2.B6==1) (.an (Qh7 E2 x3.2.2.D1 clock) (.lv (Q1k E2 x3.2.2.D1 clock) λ(x4:Q00×Int)=> .br (x3.2.2.D9 !=0) (.cn (bT 0 1&&decide (0<=x3.2.2.D9/\x3.2.2.D9<(↑16:Int))) (.lf ({B2:={X:=A16.of 0 (dD (A16.l x4.1.B2.X) x3.2.2.D9.toNat x4.2),Pc:=x4.1.B2.Pc,B5:=x4.1.B2.B5},Mem:=x4.1.Mem,A4:=x4.1.A4,B0:=x4.1.B0,B1:=x4.1.B1,C5:=x4.1.C5,A2:=x4.1.A2,A1:=wrap u64 (x4.1.A1+1),A7:=x4.1.A7,A9:=x4.1.A9},[]))) (.lf ({B2:=x4.1.B2,Mem:=x4.1.Mem,A4:=x4.1.A4,B0:=x4.1.B0,B1:=x4.1.B1,C5:=x4.1.C5,A2:=x4.1.A2,A1:=wrap u64 (x4.1.A1+1),A7:=x4.1.A7,A9:=x4.1.A9},[])))) (.br (x3.2.2.B6==2) (.an (Qgd E2 x3.2.2.D1 x3.2.2.Value m.A1) (.lv (Q2l E2 x3.2.2.D1 x3.2.2.Value m.A1) λ(x5:Q00×List Q03)=> .lf ({B2:=x5.1.B2,Mem:=x5.1.Mem,A4:=x5.1.A4,B0:=x5.1.B0,B1:=x5.1.B1,C5:=x5.1.C5,A2:=x5.1.A2,A1:=wrap u64 (x5.1.A1+1),A7:=x5.1.A7,A9:=x5.1.A9},x5.2))) (.br (x3.2.2.B6==3) (.lf ({B2:=x3.1,Mem:=x3.2.1,A4:=x2.A4,B0:=x2.B0,B1:=x2.B1,C5:=x2.C5,A2:=x2.A2,A1:=wrap u64 (x2.A1+1),A7:=true,A9:=x2.A9},[])) (.br (x3.2.2.B6==4) (.lf ({B2:=x3.1,Mem:=x3.2.1,A4:=x2.A4,B0:=x2.B0,B1:=x2.B1,C5:=x2.C5,A2:=x2.A2,A1:=wrap u64 (x2.A1+1),A7:=x2.A7,A9:=true},[])) (.lf ({B2:=x3.1,Mem:=x3.2.1,A4:=x2.A4,B0:=x2.B0,B1:=x2.B1,C5:=x2.C5,A2:=x2.A2,A1:=wrap u64 (x2.A1+1),A7:=x2.A7,A9:=x2.A9},[]))))))))))
def Q3n m clock:=(Q38 m clock).m
abbrev Q6f m clock:=(Q38 m clock).p
def Z76:Q0e:=Q0e.fz<|mkP 39 [] false [.agg Q00.sig, .one (.int .u32)] [] (λa r=>Q6f (Q00.of (aC a 0)) (argI a 1)) (λa r=>Q3n (Q00.of (aC a 0)) (argI a 1)) (λX=> .tup [.agg (Q00.cells (X.1)), .sl 4 (.recs .apiOutput (X.2)) false]) (λX=>[])
theorem Qo2:Q06 pG Z76:=Zil<|Q0p drawn Q0l (.cons Q0w (.cons Qon (.cons Qns (.cons Z2b (.cons Qsh (.cons Qqx (.nil))))))) Tryz.func39 Tryz.call39 (λa r=>Q38 (Q00.of (aC a 0)) (argI a 1)) [.sl (.ints .u32) false, .sl (.recs .apiOutput) false] [] 2 (λ_ _ _=>by kernel_rfl) (λ_ _=>rfl) (λ_ _ h=>h) (λh=>by cases h)
end
noncomputable section
def Z2(op:Int):Tree Int:=
let T1:Tree (Int):= .br (op==49) (.lf 3) (let T2:Tree (Int):= .br (op==24) (.lf 6) (.br (op==48) (.lf 7) (.br (op==58) (.lf 8) (.br (op==59) (.lf 8) (.br (op==60) (.lf 9) (.br (op==61) (.lf 9) (.br (op==56) (.lf 1) (.br (op==57) (.lf 1) (.br (decide (op>=62)) (.br (decide (op<=64)) (.lf 1) (.lf 0)) (.lf 0))))))))); .br (decide (op>=17)) (.br (decide (op<=19)) (.lf 4) (.br (decide (op>=20)) (.br (decide (op<=22)) (.lf 5) T2) T2)) (.br (decide (op>=20)) (.br (decide (op<=22)) (.lf 5) T2) T2));let T3:Tree (Int):= .br (op==16) (.lf 3) (.br (op==23) (.lf 3) (.br (decide (op>=32)) (.br (decide (op<=36)) (.lf 3) (.br (decide (op>=40)) (.br (decide (op<=45)) (.lf 3) T1) T1)) (.br (decide (op>=40)) (.br (decide (op<=45)) (.lf 3) T1) T1))); .br (decide (op>=1)) (.br (decide (op<=13)) (.lf 2) T3) T3
def Q2d op:=(Z2 op).m
def Zka:Q0e:=mS 191 [] true [.one (.int .i64)] [] (λa r=>Z2 (argI a 0)) (λX=> .int .i64 X) (λX=>[])
theorem Qft:Q06 pG Zka:=oS (.nil) Tryz.func191 Tryz.call191 [] [] 2
def Qe(r:Int):Tree Bool:=
.br (decide (r>=0)) (.lf (decide (r<=15))) (.lf false)
def Q8a r:=(Qe r).m
def Z50:Q0e:=mS 225 [] true [.one (.int .i64)] [] (λa r=>Qe (argI a 0)) (λX=> .bool X) (λX=>[])
theorem Qzj:Q06 pG Z50:=oS (.nil) Tryz.func225 Tryz.call225 [] [] 2
def Qn8(f:Int):Tree (Int×Int):=
.br (f==3) (.lf ((-32768),32767)) (.br (f==7) (.lf ((-32768),32767)) (.br (f==4) (.lf (0,65535)) (.br (f==6) (.lf (0,65535)) (.br (f==5) (.lf (0,31)) (.br (f==8) (.lf (0,7)) (.br (f==9) (.lf (0,11)) (.lf (0,0))))))))
def Qmc f:=(Qn8 f).m
def Zai:Q0e:=mS 192 [] true [.one (.int .i64)] [] (λa r=>Qn8 (argI a 0)) (λX=> .tup [.int .i64 (X.1), .int .i64 (X.2)]) (λX=>[])
theorem Qr7:Q06 pG Zai:=oS (.nil) Tryz.func192 Tryz.call192 [] [] 2
def Qfr(i:Q0m):Tree Bool:=
.lv (Q2d i.Op) λ(x0:Int)=> .br (x0==0) (.lf false) (.lv (Q8a i.A) λ(x1:Bool)=> .br (!x1) (.lf false) (.lv (Q8a i.B) λ(x2:Bool)=> .br (!x2) (.lf false) (.lv (Q8a i.C) λ(x3:Bool)=> .br (!x3) (.lf false) (.lv (Qmc x0) λ(x4:Int×Int)=> .br (decide (wrap i64 i.Imm<x4.1)) (.lf false) (.br (decide (wrap i64 i.Imm>x4.2)) (.lf false) (let T1:Tree (Bool):= .br (x0==1) (.br (i.A !=0) (.lf false) (.br (i.B==0) (.lf true) (.br (decide (x0>=2)) (.lf (decide (x0<=5))) (.lf false)))) (.br (i.B==0) (.lf true) (.br (decide (x0>=2)) (.lf (decide (x0<=5))) (.lf false))); .br (x0 !=2) (.br (i.C !=0) (.lf false) T1) T1))))))
def Q7h i:=(Qfr i).m
def Zeq:Q0e:=mS 167 [] true [.agg Q0m.sig] [] (λa r=>Qfr (Q0m.of (aC a 0))) (λX=> .bool X) (λX=>[])
theorem Qta:Q06 pG Zeq:=oS (.cons Qft (.cons Qzj (.cons Qr7 (.nil)))) Tryz.func167 Tryz.call167 [] [] 2
def Qhd(i:Q0m):Tree (Int×Bool):=
.lv (Q7h i) λ(x0:Bool)=> .br (!x0) (.lf (0,false)) (.lf (ior u32 (ior u32 (ior u32 (ior u32 (ishl u32 (wrap u32 i.Op) 24) (ishl u32 (wrap u32 i.A) 20)) (ishl u32 (wrap u32 i.B) 16)) (iand u32 (wrap u32 i.Imm) 65535)) (wrap u32 i.C),true))
def Q1q i:=(Qhd i).m
def Zbl:Q0e:=mS 82 [] true [.agg Q0m.sig] [] (λa r=>Qhd (Q0m.of (aC a 0))) (λX=> .tup [.int .u32 (X.1), .bool (X.2)]) (λX=>[])
theorem Qkx:Q06 pG Zbl:=oS (.cons Qta (.nil)) Tryz.func82 Tryz.call82 [] [] 2
def Z7x:Tree (List Int):=
.lf ([1,2,3,4,5,6,7,8,9,10,11,12,13,16,16,17,18,19,20,21,22,23,24,24,32,32,33,34,35,35,36,40,41,42,43,44,45,48,49,56,57,58,59,60,60,61,61,62,63,64])
def Zbj:(List Int):=(Z7x).m
def Zpc:Q0e:=mS 168 [] true [] [] (λa r=>Z7x) (λX=> .sl 1 (.ints .i64 X) true) (λX=>[])
theorem Zi7:Q06 pG Zpc:=oS (.nil) Tryz.func168 Tryz.call168 [.sl (.ints .i64) true] [] 2
def Z4q(seed:Int):Tree (Int×Int):=
let E1:=wrap u64 (ixor u64 (wrap u64 (seed+11400714819323198485)) (ishr u64 (wrap u64 (seed+11400714819323198485)) 30)*13787848793156543929);let E2:=wrap u64 (ixor u64 E1 (ishr u64 E1 27)*10723151780598845931); .lf (ixor u64 E2 (ishr u64 E2 31),wrap u64 (seed+11400714819323198485))
def Zgu seed:=(Z4q seed).m
def Zim:Q0e:=mS 162 [] true [.one (.int .u64)] [] (λa r=>Z4q (argI a 0)) (λX=> .tup [.int .u64 (X.1), .int .u64 (X.2)]) (λX=>[])
theorem Zfq:Q06 pG Zim:=oS (.nil) Tryz.func162 Tryz.call162 [] [] 2
def Qql(n k:Int):Tree Int:=
.lv (Zgu (ixor u64 (wrap u64 n) (wrap u64 (wrap u64 k*11400714819323198485)))) λ(x0:Int×Int)=> .lf (wrap i64 (ishr u64 x0.1 1))
def Q3c n k:=(Qql n k).m
def Zo8:Q0e:=mS 77 [] true [.one (.int .i64), .one (.int .i64)] [] (λa r=>Qql (argI a 0) (argI a 1)) (λX=> .int .i64 X) (λX=>[])
theorem Qmw:Q06 pG Zo8:=oS (.cons Zfq (.nil)) Tryz.func77 Tryz.call77 [] [] 2
def Qp7(n k:Int):Tree Int:=
.cn (decide (k≠0)) (.br (decide (dB n k<0)) (.lf (wrap i64 (dB n k+k))) (.lf (dB n k)))
def Q3k n k:=(Qp7 n k).m
abbrev Q2x n k:=(Qp7 n k).p
def Zd4:Q0e:=mT 50 [] true [.one (.int .i64), .one (.int .i64)] [] (λa r=>Qp7 (argI a 0) (argI a 1)) (λX=> .int .i64 X) (λX=>[])
theorem Qhk:Q06 pG Zd4:=oT (.nil) Tryz.func50 Tryz.call50 [] [] 2
def Qmj(n:Int):Tree Q0m:=
.lv Zbj λ(x0:List Int)=> .lv (Q3c n 1) λ(x1:Int)=> .an (Q2x x1 (x0.length:Int)) (.lv (Q3k x1 (x0.length:Int)) λ(x2:Int)=> .cn (bS 1 1&&bT 0 1&&decide (0<=x2/\x2<(x0.length:Int))) (.an (Q2x (ishr i64 x1 8) 6) (.lv (Q3k (ishr i64 x1 8) 6) λ(x3:Int)=> .an (Q2x (ishr i64 x1 12) 6) (.lv (Q3k (ishr i64 x1 12) 6) λ(x4:Int)=> .an (Q2x (ishr i64 x1 16) 6) (.lv (Q3k (ishr i64 x1 16) 6) λ(x5:Int)=> .an (Q2x (ishr i64 x1 20) 24) (.lv (Q3k (ishr i64 x1 20) 24) λ(x6:Int)=> .br (decide (x0.getD x2.toNat (0:Int)<=(13:Int))) (.lf ({Op:=x0.getD x2.toNat 0,A:=x3,B:=x4,C:=x5,Imm:=0})) (let E4:=({Op:=x0.getD x2.toNat 0,A:=x3,B:=x4,C:=0,Imm:=wrap i32 (wrap i64 (wrap i64 (8*x6)-32))}:Q0m);let T1:Tree (Q0m):= .br (x0.getD x2.toNat (0:Int)==(49:Int)) (.lf (E4)) (.br (x0.getD x2.toNat (0:Int)==(24:Int)) (.lf ({Op:=x0.getD x2.toNat 0,A:=x3,B:=0,C:=0,Imm:=wrap i32 (wrap i64 (x6*iand i64 (ishr i64 x1 40) 1))})) (let T2:Tree (Q0m):=let E6:=({Op:=x0.getD x2.toNat 0,A:=x3,B:=0,C:=0,Imm:=wrap i32 (dB x6 8)}:Q0m); .br (x0.getD x2.toNat (0:Int)==(58:Int)) (.lf (E6)) (.br (x0.getD x2.toNat (0:Int)==(59:Int)) (.lf (E6)) (let E5:=({Op:=x0.getD x2.toNat 0,A:=x3,B:=0,C:=0,Imm:=wrap i32 (dB x6 12)}:Q0m); .br (x0.getD x2.toNat (0:Int)==(60:Int)) (.lf (E5)) (.br (x0.getD x2.toNat (0:Int)==(61:Int)) (.lf (E5)) (.lf ({Op:=x0.getD x2.toNat 0,A:=0,B:=0,C:=0,Imm:=0}))))); .br (decide (x0.getD x2.toNat (0:Int)>=(17:Int))) (.br (decide (x0.getD x2.toNat (0:Int)<=(22:Int))) (.lf ({Op:=x0.getD x2.toNat 0,A:=x3,B:=x4,C:=0,Imm:=wrap i32 x6})) T2) T2));let T3:Tree (Q0m):= .br (x0.getD x2.toNat (0:Int)==(16:Int)) (.lf (E4)) (.br (x0.getD x2.toNat (0:Int)==(23:Int)) (.lf (E4)) (.br (decide (x0.getD x2.toNat (0:Int)>=(32:Int))) (.br (decide (x0.getD x2.toNat (0:Int)<=(36:Int))) (.lf (E4)) T1) T1)); .br (decide (x0.getD x2.toNat (0:Int)>=(40:Int))) (.br (decide (x0.getD x2.toNat (0:Int)<=(48:Int))) (.br (x0.getD x2.toNat (0:Int)==(48:Int)) (.lf ({Op:=x0.getD x2.toNat 0,A:=x3,B:=0,C:=0,Imm:=wrap i32 (wrap i64 (x6-12))})) (.lf ({Op:=x0.getD x2.toNat 0,A:=x3,B:=x4,C:=0,Imm:=wrap i32 (wrap i64 (x6-12))}))) T3) T3)))))))
def Zhd n:=(Qmj n).m
abbrev Qhh n:=(Qmj n).p
def Zkv:Q0e:=mT 83 [] true [.one (.int .i64)] [] (λa r=>Qmj (argI a 0)) (λX=> .agg (Q0m.cells X)) (λX=>[])
theorem Zf2:Q06 pG Zkv:=oT (.cons Zi7 (.cons Qmw (.cons Qhk (.nil)))) Tryz.func83 Tryz.call83 [] [] 2
def Qry(l:List Int)(z:(Int)×(List Int)):Prop:=0<=z.1/\z.1<=l.length/\(z.2.length:Int)=z.1
def Qdl(l:List Int)(z:(Int)×(List Int)):Nat:=(l.length-z.1).toNat
def Qid(l:List Int):Tree (List Int):=
.lp inferInstance (Qdl l (0,[])+1) ((((Els.Nil (Els.ints i64 l)\/rE (1:Nat))/\rE (l:List Int))/\True/\rE (0:Int)/\True)/\rE ([]:List Int)/\True) (0,[]) λ(v0:Int×List Int)=> .br (decide (v0.1<(l.length:Int))) (let E1:=bS 1 1&&bT 0 1&&decide (0<=v0.1/\v0.1<(l.length:Int)); .cn E1 (let E2:=decide (4*(v0.2.length+1)<=140737488355328); .br (dB (l.getD v0.1.toNat 0) (17:Int)==(0:Int)) (.cn E1 (.cn E2 (.nx ((((Els.Nil (Els.ints i64 l)\/rE (1:Nat))/\rE (l:List Int))/\True/\rE ((wrap i64 (v0.1+1)):Int)/\True)/\rE ((v0.2++[wrap u32 (iand i64 (l.getD v0.1.toNat 0) 4294967295)]):List Int)/\True) (Sum.inl (wrap i64 (v0.1+1),v0.2++[wrap u32 (iand i64 (l.getD v0.1.toNat 0) 4294967295)]))))) (.cn E1 (.an (Qhh (l.getD v0.1.toNat 0)) (.lv (Zhd (l.getD v0.1.toNat 0)) λ(x0:Q0m)=> .lv (Q1q x0) λ(x1:Int×Bool)=> .cn E2 (.nx ((((Els.Nil (Els.ints i64 l)\/rE (1:Nat))/\rE (l:List Int))/\True/\rE ((wrap i64 (v0.1+1)):Int)/\True)/\rE ((v0.2++[x1.1]):List Int)/\True) (Sum.inl (wrap i64 (v0.1+1),v0.2++[x1.1])))))))) (.lf (Sum.inr v0.2))
def Qol l:=(Qid l).m
abbrev Qmn l:=(Qid l).p
def Zfg:LInv:={
 α:=(Int)×(List Int)
 F:=λst a=>([(0,(lk st 0)),(3, .all 0),(4, .int i64 a.1)],[⟨false,25,1, .ints u32 a.2⟩])
 a0:=λst=>((lk st 4).toInt,(Q46 st.rows (rN st 3)))
 ex0:=λst=>[]++[(rX st 3 0)]}
def Z74:List (Nat×LInv):=[(3,Zfg)]
def Zkc:Q0e:=mT 138 [] true [.one (.ints .i64)] [] (λa r=>Qid (argL .i64 a 0)) (λX=> .all 0) (λX=>[⟨false,25,1, .ints .u32 X⟩])
theorem Zfd:Q06 pG Zkc:=oT (.cons Qkx (.cons Zf2 (.nil))) Tryz.func138 Tryz.call138 [.row 25 1 (.ints .u32)] Z74 3
def Qkk(pc:Int):Tree Q05:=
.lf ({X:={a0:=0,a1:=0,a2:=0,a3:=0,a4:=0,a5:=0,a6:=0,a7:=0,a8:=0,a9:=0,a10:=0,a11:=0,a12:=0,a13:=0,a14:=0,a15:=0},Pc:=pc,B5:={a0:=1,a1:=0,a2:=0,a3:=0,a4:=0,a5:=0,a6:=0,a7:=0}})
def Qq3 pc:=(Qkk pc).m
def Zh8:Q0e:=mS 127 [] true [.one (.int .u32)] [] (λa r=>Qkk (argI a 0)) (λX=> .agg (Q05.cells X)) (λX=>[])
theorem Zbd:Q06 pG Zh8:=oS (.nil) Tryz.func127 Tryz.call127 [] [] 2
def Qf3(pages:Int):Tree (List Int):=
.br (decide (pages<1)) (.lf ([])) (.br (decide (pages>32)) (.lf ([])) (.cn (bT 0 1&&bS 1 1&&List.all [D.int u32 0] D.plain&&decide (0<=wrap i64 (pages*32)/\wrap i64 (pages*32)<=wrap i64 (pages*32)/\wrap i64 (pages*32)<=9223372036854775807/\(↑4:Int)*wrap i64 (pages*32)<=140737488355328)) (.lf (List.replicate (dC (wrap i64 (pages*32))) 0))))
def Qt4 pages:=(Qf3 pages).m
abbrev Qga pages:=(Qf3 pages).p
def Zox:Q0e:=mT 128 [] true [.one (.int .i64)] [] (λa r=>Qf3 (argI a 0)) (λX=> .all 0) (λX=>[⟨false,25,1, .ints .u32 X⟩])
theorem Zic:Q06 pG Zox:=oT (.nil) Tryz.func128 Tryz.call128 [.row 25 1 (.ints .u32)] [] 2
def Q8s(pages blocks:Int)(image:List Int):Tree (Q00×Bool):=
let T1:Tree ((Q00×Bool)):= .lf ({B2:={X:={a0:=0,a1:=0,a2:=0,a3:=0,a4:=0,a5:=0,a6:=0,a7:=0,a8:=0,a9:=0,a10:=0,a11:=0,a12:=0,a13:=0,a14:=0,a15:=0},Pc:=0,B5:={a0:=0,a1:=0,a2:=0,a3:=0,a4:=0,a5:=0,a6:=0,a7:=0}},Mem:=[],A4:={D3:=[]},B0:={D2:=false,C8:=0,D5:=false},B1:={Blocks:=0,C2:=0,Frame:=0,C1:=0,D8:=0,B7:=0,B3:=0,C4:=[]},C5:={Frame:=0,E0:=0,C7:=false,B9:=0,B8:=false,F1:=0},A2:={C9:=0,C3:=0},A1:=0,A7:=false,A9:=false},false); .br (decide (pages<1)) T1 (.br (decide (pages>32)) T1 (.br (decide (blocks<0)) T1 (.br (decide (blocks>64)) T1 (.br (decide ((image.length:Int)>wrap i64 (pages*32))) T1 (.lv (Qq3 0) λ(x0:Q05)=> .an (Qga pages) (.lv (Qt4 pages) λ(x1:List Int)=> .lf ({B2:=x0,Mem:=cY (Min.min (image.length) (x1.length)) image++cZ (Min.min (image.length) (x1.length)) x1,A4:={D3:=[]},B0:={D2:=false,C8:=0,D5:=false},B1:={Blocks:=wrap u32 blocks,C2:=0,Frame:=0,C1:=0,D8:=0,B7:=0,B3:=0,C4:=[]},C5:={Frame:=0,E0:=0,C7:=false,B9:=0,B8:=false,F1:=0},A2:={C9:=0,C3:=0},A1:=0,A7:=false,A9:=false},true)))))))
def Q1x pages blocks image:=(Q8s pages blocks image).m
abbrev Qa4 pages blocks image:=(Q8s pages blocks image).p
def Zpj:Q0e:=mT 37 [] true [.one (.int .i64), .one (.int .i64), .one (.ints .u32)] [] (λa r=>Q8s (argI a 0) (argI a 1) (argL .u32 a 2)) (λX=> .tup [.agg (Q00.cellsW (X.1) (.all 0)), .bool (X.2)]) (λX=>[⟨false,25,1, .ints .u32 (X.1).Mem⟩])
theorem Z24:Q06 pG Zpj:=oT (.cons Zbd (.cons Zic (.nil))) Tryz.func37 Tryz.call37 [.row 25 1 (.ints .u32)] [] 2
def Qjv(a b:List Int)(z:(Int)):Prop:=0<=z/\z<=a.length/\a.length=b.length
def Q55(a b:List Int)(z:(Int)):Nat:=(a.length-z).toNat
def Q8k(a b:List Int):Tree Bool:=
.br ((a.length:Int) !=(b.length:Int)) (.lf false) (.lp inferInstance (Q55 a b 0+1) ((((Els.Nil (Els.ints u32 a)\/rE (1:Nat))/\rE (a:List Int))/\((Els.Nil (Els.ints u32 b)\/rE (1:Nat))/\rE (b:List Int))/\rE (0:Int)/\True)/\True) 0 λ(v0:Int)=> .br (decide (v0<(a.length:Int))) (.cn (bS 1 1&&bT 0 1&&decide (0<=v0/\v0<(a.length:Int))) (.cn (bS 1 1&&bT 0 1&&decide (0<=v0/\v0<(b.length:Int))) (.br (a.getD v0.toNat 0 !=b.getD v0.toNat 0) (.lf (Sum.inr false)) (.nx ((((Els.Nil (Els.ints u32 a)\/rE (1:Nat))/\rE (a:List Int))/\((Els.Nil (Els.ints u32 b)\/rE (1:Nat))/\rE (b:List Int))/\rE ((wrap i64 (v0+1)):Int)/\True)/\True) (Sum.inl (wrap i64 (v0+1))))))) (.lf (Sum.inr true)))
def Qfm a b:=(Q8k a b).m
def Q9c(a b:List Int):Prop:=
a.length<=1000000000000
theorem Qu0(a b:List Int)(hw:Q9c a b):(Q8k a b).p:=by
 simp only[Q9c]at hw
 unfold Tree.p Q8k
 repeat'(first|refine w_lp (inv:=Qjv a b) (μ:=Q55 a b) ?_ (cK _) (λ_ _=> ?_)|exact trivial|refine w_br (λ_=> ?_) (λ_=> ?_)|refine w_cn ?_ ?_|refine w_an ?_ ?_|refine w_lv (λ_ _=> ?_)|refine w_nx ?_|refine w_lf ?_|refine And.intro ?_ ?_)
 all_goals((try simp only[Qjv,Q55]at*);exact fin0)
def Qy1:LInv:={
 α:=(Int)
 F:=λst a=>([(0,(lk st 0)),(1,(lk st 1)),(5, .int i64 a)],[])
 a0:=λst=>(lk st 5).toInt
 ex0:=λst=>[]++[]}
def Qsg:List (Nat×LInv):=[(4,Qy1)]
def Qzk:Q0e:=mkP 49 [] true [.one (.ints .u32), .one (.ints .u32)] [] (λa r=>Q9c (argL .u32 a 0) (argL .u32 a 1)) (λa r=>Qfm (argL .u32 a 0) (argL .u32 a 1)) (λX=> .bool X) (λX=>[])
theorem Qy:Q06 pG Qzk:=Q0p drawn Q0l (.nil) Tryz.func49 Tryz.call49 (λa r=>Q8k (argL .u32 a 0) (argL .u32 a 1)) [] Qsg 3 (hp:=λa r h=>Qu0 (argL .u32 a 0) (argL .u32 a 1) h)
def Qjs(a b:Q00):Tree Bool:=
.br (eqs [D.int u32 a.B2.X.a0,D.int u32 a.B2.X.a1,D.int u32 a.B2.X.a2,D.int u32 a.B2.X.a3,D.int u32 a.B2.X.a4,D.int u32 a.B2.X.a5,D.int u32 a.B2.X.a6,D.int u32 a.B2.X.a7,D.int u32 a.B2.X.a8,D.int u32 a.B2.X.a9,D.int u32 a.B2.X.a10,D.int u32 a.B2.X.a11,D.int u32 a.B2.X.a12,D.int u32 a.B2.X.a13,D.int u32 a.B2.X.a14,D.int u32 a.B2.X.a15,D.int u32 a.B2.Pc,D.int u32 a.B2.B5.a0,D.int u32 a.B2.B5.a1,D.int u32 a.B2.B5.a2,D.int u32 a.B2.B5.a3,D.int u32 a.B2.B5.a4,D.int u32 a.B2.B5.a5,D.int u32 a.B2.B5.a6,D.int u32 a.B2.B5.a7] [D.int u32 b.B2.X.a0,D.int u32 b.B2.X.a1,D.int u32 b.B2.X.a2,D.int u32 b.B2.X.a3,D.int u32 b.B2.X.a4,D.int u32 b.B2.X.a5,D.int u32 b.B2.X.a6,D.int u32 b.B2.X.a7,D.int u32 b.B2.X.a8,D.int u32 b.B2.X.a9,D.int u32 b.B2.X.a10,D.int u32 b.B2.X.a11,D.int u32 b.B2.X.a12,D.int u32 b.B2.X.a13,D.int u32 b.B2.X.a14,D.int u32 b.B2.X.a15,D.int u32 b.B2.Pc,D.int u32 b.B2.B5.a0,D.int u32 b.B2.B5.a1,D.int u32 b.B2.B5.a2,D.int u32 b.B2.B5.a3,D.int u32 b.B2.B5.a4,D.int u32 b.B2.B5.a5,D.int u32 b.B2.B5.a6,D.int u32 b.B2.B5.a7]) (.an (Q9c a.Mem b.Mem) (.lv (Qfm a.Mem b.Mem) λ(x0:Bool)=> .br x0 (.br (eqs [D.str a.A4.D3] [D.str b.A4.D3]) (.br (eqs [D.bool a.B0.D2,D.int u32 a.B0.C8,D.bool a.B0.D5] [D.bool b.B0.D2,D.int u32 b.B0.C8,D.bool b.B0.D5]) (.br (eqs [D.int u32 a.B1.Blocks,D.int u32 a.B1.C2,D.int u32 a.B1.Frame,D.int i64 a.B1.C1,D.int i64 a.B1.D8,D.int u32 a.B1.B7,D.int u32 a.B1.B3,D.str a.B1.C4] [D.int u32 b.B1.Blocks,D.int u32 b.B1.C2,D.int u32 b.B1.Frame,D.int i64 b.B1.C1,D.int i64 b.B1.D8,D.int u32 b.B1.B7,D.int u32 b.B1.B3,D.str b.B1.C4]) (.br (eqs [D.int u32 a.C5.Frame,D.int u32 a.C5.E0,D.bool a.C5.C7,D.int u32 a.C5.B9,D.bool a.C5.B8,D.int u32 a.C5.F1] [D.int u32 b.C5.Frame,D.int u32 b.C5.E0,D.bool b.C5.C7,D.int u32 b.C5.B9,D.bool b.C5.B8,D.int u32 b.C5.F1]) (.br (eqs [D.int u32 a.A2.C9,D.int u32 a.A2.C3] [D.int u32 b.A2.C9,D.int u32 b.A2.C3]) (.br (a.A1==b.A1) (.br (a.A7==b.A7) (.lf (a.A9==b.A9)) (.lf false)) (.lf false)) (.lf false)) (.lf false)) (.lf false)) (.lf false)) (.lf false)) (.lf false))) (.lf false)
def Zdp a b:=(Qjs a b).m
abbrev Qu4 a b:=(Qjs a b).p
def Zjo:Q0e:=mT 19 [] true [.agg Q00.sig, .agg Q00.sig] [] (λa r=>Qjs (Q00.of (aC a 0)) (Q00.of (aC a 1))) (λX=> .bool X) (λX=>[])
theorem Zhk:Q06 pG Zjo:=oT (.cons Qy (.nil)) Tryz.func19 Tryz.call19 [] [] 2
def Q2r(m:Q00):Tree Bool:=
.an (Qc8 m) (.lv (Q2s m) λ(x0:Bool)=> .br (!x0) (.lf false) (.an (Qam m) (.lv (Q1 m) λ(x1:Q00)=> .an (Qki x1.B2 x1.Mem) (.lv (Q84 x1.B2 x1.Mem) λ(x2:Q05×List Int×Q16)=> .br (x2.2.2.B6==1) (.lf (x2.2.2.D1==2)) (.lf false)))))
def Q3e m:=(Q2r m).m
abbrev Q2u m:=(Q2r m).p
def Qr1:Q0e:=mT 30 [] true [.agg Q00.sig] [] (λa r=>Q2r (Q00.of (aC a 0))) (λX=> .bool X) (λX=>[])
theorem Qpv:Q06 pG Qr1:=oT (.cons Qon (.cons Qns (.cons Z2b (.nil)))) Tryz.func30 Tryz.call30 [] [] 2
