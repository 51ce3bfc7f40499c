import Derived.Test.YtmalmklaonainaaGreatReplayBoundsFh
import Derived.Test.YtmalmklaonainaaGreatReplayBoundsYx
open List renaming take->cY, drop->cZ, length->dH, set->dD, getD->aK
open Int renaming toNat->dC, tmod->dB
open UInt8 renaming toNat->eU
open Nat renaming blt->bT, beq->bS
set_option maxRecDepth 100000
set_option linter.all false
namespace Go.Proofs.YtmalmklaonainaaGreat
open Go Go.GD Go.IntKind
noncomputable section
def Q46(m:Q00):Tree Bool:=
.an (Q4i m) (.lv (Q1g m) λ(x0:Bool)=> .br x0 (.br (!m.A9) (.an (Q8o m) (.lv (Q4a m) λ(x1:Bool)=> .br (!x1) (.lf (decide (m.A1<1152921504606846976))) (.lf false))) (.lf false)) (.lf false))
def Q2d m:=(Q46 m).m
abbrev Qc1 m:=(Q46 m).p
def Z6f:Q0d:=mT 112 [] true [.agg Q00.sig] [] (λa r=>Q46 (Q00.of (aC a 0))) (λX=> .bool X) (λX=>[])
theorem Qp:Q06 pG Z6f:=oT (.cons Qbl (.cons Qj7 (.nil))) Tryz.func112 Tryz.call112 [] [] 2
def Qcm(m:Q00)(z:(Int)):Nat:=(5-z).toNat
def Q2w(m:Q00):Tree Q00:=
let E1:=({B2:=m.B2,Mem:=m.Mem,A4:=m.A4,B0:=m.B0,B1:=m.B1,C4:=m.C4,A2:=m.A2,A1:=m.A1,A7:=false,A9:=m.A9}:Q00); .br (iand u32 m.B2.B6.a0 (2:Int)==(0:Int)) (.lf (E1)) (.an (Qc6 E1) (.lv (Q5r E1) λ(x0:Int)=> .lp inferInstance (Qcm m 0+1) ((rZ/\rZ/\rE (x0:Int)/\rE (0:Int)/\True)/\(rE m.B2.X.a0/\rE m.B2.X.a1/\rE m.B2.X.a2/\rE m.B2.X.a3/\rE m.B2.X.a4/\rE m.B2.X.a5/\rE m.B2.X.a6/\rE m.B2.X.a7/\rE m.B2.X.a8/\rE m.B2.X.a9/\rE m.B2.X.a10/\rE m.B2.X.a11/\rE m.B2.X.a12/\rE m.B2.X.a13/\rE m.B2.X.a14/\rE m.B2.X.a15/\rE m.B2.Pc/\rE m.B2.B6.a0/\rE m.B2.B6.a1/\rE m.B2.B6.a2/\rE m.B2.B6.a3/\rE m.B2.B6.a4/\rE m.B2.B6.a5/\rE m.B2.B6.a6/\rE m.B2.B6.a7/\((Els.Nil (Els.ints u32 m.Mem)\/rE (1:Nat))/\rE m.Mem)/\rE m.A4.D3/\rE m.B0.D2/\rE m.B0.C9/\rE m.B0.D5/\rE m.B1.Blocks/\rE m.B1.C1/\rE m.B1.Frame/\rE m.B1.C0/\rE m.B1.D8/\rE m.B1.B7/\rE m.B1.B3/\rE m.B1.C3/\rE m.C4.Frame/\rE m.C4.E0/\rE m.C4.C7/\rE m.C4.B9/\rE m.C4.B8/\rE m.C4.F3/\rE m.A2.D0/\rE m.A2.C2/\rE m.A1/\rE (false:Bool)/\rE m.A9/\True)/\(mE zM True True)/\True) 0 λ(v0:Int)=> .br (decide (v0<5)) (.cn (decide (0<=v0)) (.br (iand u32 x0 (ishl u32 1 v0) !=0) (.lv (Q4w m.B2 (wrap i64 (16+v0)) 0) λ(x1:Q05)=> .lf (Sum.inr {B2:=x1,Mem:=m.Mem,A4:=m.A4,B0:=m.B0,B1:=m.B1,C4:=m.C4,A2:=m.A2,A1:=m.A1,A7:=false,A9:=m.A9})) (.nx ((rZ/\rZ/\rE (x0:Int)/\rE ((wrap i64 (v0+1)):Int)/\True)/\(rE m.B2.X.a0/\rE m.B2.X.a1/\rE m.B2.X.a2/\rE m.B2.X.a3/\rE m.B2.X.a4/\rE m.B2.X.a5/\rE m.B2.X.a6/\rE m.B2.X.a7/\rE m.B2.X.a8/\rE m.B2.X.a9/\rE m.B2.X.a10/\rE m.B2.X.a11/\rE m.B2.X.a12/\rE m.B2.X.a13/\rE m.B2.X.a14/\rE m.B2.X.a15/\rE m.B2.Pc/\rE m.B2.B6.a0/\rE m.B2.B6.a1/\rE m.B2.B6.a2/\rE m.B2.B6.a3/\rE m.B2.B6.a4/\rE m.B2.B6.a5/\rE m.B2.B6.a6/\rE m.B2.B6.a7/\((Els.Nil (Els.ints u32 m.Mem)\/rE (1:Nat))/\rE m.Mem)/\rE m.A4.D3/\rE m.B0.D2/\rE m.B0.C9/\rE m.B0.D5/\rE m.B1.Blocks/\rE m.B1.C1/\rE m.B1.Frame/\rE m.B1.C0/\rE m.B1.D8/\rE m.B1.B7/\rE m.B1.B3/\rE m.B1.C3/\rE m.C4.Frame/\rE m.C4.E0/\rE m.C4.C7/\rE m.C4.B9/\rE m.C4.B8/\rE m.C4.F3/\rE m.A2.D0/\rE m.A2.C2/\rE m.A1/\rE (false:Bool)/\rE m.A9/\True)/\(mE zM True True)/\True) (Sum.inl (wrap i64 (v0+1)))))) (.lf (Sum.inr E1))))
def Q0s m:=(Q2w m).m
abbrev Qap m:=(Q2w m).p
def Qzn:LInv:={
 α:=(Int)
 F:=λst a=>([(1, .ptr 0 0 0),(2, .ptr 1 0 0),(3,(lk st 3)),(15, .int i64 a)],[⟨true,43,49, .gen [mB (cT st 1)]⟩,⟨true,43,49, .gen [mB (cT st 2)]⟩])
 a0:=λst=>(lk st 15).toInt
 ex0:=λst=>[]++[(rX st 1 0),(rX st 2 1)]}
def Qt1:List (Nat×LInv):=[(6,Qzn)]
def Z48:Q0d:=Q0d.fz<|mkP 113 [] false [.agg Q00.sig] [] (λa r=>Qap (Q00.of (aC a 0))) (λa r=>Q0s (Q00.of (aC a 0))) (λX=> .agg (Q00.cells X)) (λX=>[])
theorem Qn7:Q06 pG Z48:=Znt<|Q0q drawn Q0m (.cons Qk9 (.cons Qi2 (.nil))) Tryz.func113 Tryz.call113 (λa r=>Q2w (Q00.of (aC a 0))) [.sl (.ints .u32) false] Qt1 3 (λ_ _ _=>by kernel_rfl) (λ_ _=>rfl) (λ_ _ h=>h) (λh=>by cases h)
def Q9b(c:Q0c)(port:Int):Tree (Q0c×Int):=
.br (port==0) (.br (decide (c.D3=[])) (.lf (c,4294967295)) (.cn (decide ((0:Int)<=(0:Int)/\0<(c.D3.length:Int))) (.cn (decide ((0:Int)<=(1:Int)/\1<=(c.D3.length:Int)/\(c.D3.length:Int)<=(c.D3.length:Int))) (.lf ({D3:=cY (dC (c.D3.length:Int)-dC 1) (cZ (dC 1) c.D3)},wrap u32 (↑(eU (c.D3.getD (dC 0) (0:UInt8))):Int)))))) (.br (port==1) (.lf (c,wrap u32 (c.D3.length:Int))) (.lf (c,0)))
def Qpq c port:=(Q9b c port).m
theorem Z5s(c:Q0c)(port:Int):(Q9b c port).p:=by
 unfold Tree.p Q9b
 repeat'(first|exact trivial|refine w_br (λ_=> ?_) (λ_=> ?_)|refine w_cn ?_ ?_|refine w_an ?_ ?_|refine w_lv (λ_ _=> ?_)|refine w_nx ?_|refine w_lf ?_|refine And.intro ?_ ?_)
 all_goals(exact fin0)
def Zfw:Q0d:=mS 195 [] true [.agg Q0c.sig, .one (.int .i64)] [] (λa r=>Q9b (Q0c.of (aC a 0)) (argI a 1)) (λX=> .tup [.agg (Q0c.cells (X.1)), .int .u32 (X.2)]) (λX=>[])
theorem Zaq:Q06 pG Zfw:=oS (.nil) Tryz.func195 Tryz.call195 [] [] 2 (λ_ _ _=>by kernel_rfl) (λa r=>Z5s (Q0c.of (aC a 0)) (argI a 1)) (λ_ X=>by kernel_rfl)
def Qq0(t:Q0i):Tree Int:=
.br t.D5 (.lf 1) (.lf 0)
def Z0z t:=(Qq0 t).m
def Zol:Q0d:=mS 196 [] true [.agg Q0i.sig] [] (λa r=>Qq0 (Q0i.of (aC a 0))) (λX=> .int .u32 X) (λX=>[])
theorem Zjq:Q06 pG Zol:=oS (.nil) Tryz.func196 Tryz.call196 [] [] 2
def Qt6(d0:Q0f)(port:Int):Tree Int:=
.br (port==4) (.lf d0.C1) (.br (port==5) (.lf d0.Frame) (.br (port==6) (.lf (wrap u32 d0.C0)) (.lf 0)))
def Qxc d0 port:=(Qt6 d0 port).m
def yA:Q0d:=mS 197 [] true [.agg Q0f.sig, .one (.int .i64)] [] (λa r=>Qt6 (Q0f.of (aC a 0)) (argI a 1)) (λX=> .int .u32 X) (λX=>[])
theorem Zoe:Q06 pG yA:=oS (.nil) Tryz.func197 Tryz.call197 [] [] 2
def Qv4(n:Q0r)(port:Int):Tree Int:=
.br (port==7) (.lf n.Frame) (.br (port==8) (.lf n.F3) (.br (port==9) (.br n.C7 (.br n.B8 (.lf (wrap u32 (wrap u32 ((0:Int)+(1:Int))+2))) (.lf (wrap u32 ((0:Int)+(1:Int))))) (.br n.B8 (.lf (wrap u32 ((0:Int)+(2:Int)))) (.lf 0))) (.lf 0)))
def Z3m n port:=(Qv4 n port).m
def zV:Q0d:=mS 198 [] true [.agg Q0r.sig, .one (.int .i64)] [] (λa r=>Qv4 (Q0r.of (aC a 0)) (argI a 1)) (λX=> .int .u32 X) (λX=>[])
theorem vA:Q06 pG zV:=oS (.nil) Tryz.func198 Tryz.call198 [] [] 2
def Qcw(b:Q09)(port:Int):Tree Int:=
.br (port==10) (.lf b.D0) (.br (port==11) (.an (Qel b) (.lv (Qe9 b) λ(x0:Int)=> .lf (wrap u32 x0))) (.lf 0))
def Qpo b port:=(Qcw b port).m
abbrev Qrc b port:=(Qcw b port).p
def Zd1:Q0d:=mT 199 [] true [.agg Q09.sig, .one (.int .i64)] [] (λa r=>Qcw (Q09.of (aC a 0)) (argI a 1)) (λX=> .int .u32 X) (λX=>[])
theorem Zbo:Q06 pG Zd1:=oT (.cons Qn5 (.nil)) Tryz.func199 Tryz.call199 [] [] 2
def Q3e(m:Q00)(port clock:Int):Tree (Q00×Int):=
let T1:Tree ((Q00×Int)):= .lv (Qpq m.A4 port) λ(x0:Q0c×Int)=> .lf ({B2:=m.B2,Mem:=m.Mem,A4:=x0.1,B0:=m.B0,B1:=m.B1,C4:=m.C4,A2:=m.A2,A1:=m.A1,A7:=m.A7,A9:=m.A9},x0.2); .br (port==0) T1 (.br (port==1) T1 (.br (port==2) (.lf (m,clock)) (.br (port==3) (.lv (Z0z m.B0) λ(x2:Int)=> .lf (m,x2)) (.br (port==4) (.lv (Qxc m.B1 port) λ(x3:Int)=> .lf (m,x3)) (.br (port==5) (.lv (Qxc m.B1 port) λ(x4:Int)=> .lf (m,x4)) (.br (port==6) (.lv (Qxc m.B1 port) λ(x5:Int)=> .lf (m,x5)) (.br (port==7) (.lv (Z3m m.C4 port) λ(x6:Int)=> .lf (m,x6)) (.br (port==8) (.lv (Z3m m.C4 port) λ(x7:Int)=> .lf (m,x7)) (.br (port==9) (.lv (Z3m m.C4 port) λ(x8:Int)=> .lf (m,x8)) (let T2:Tree ((Q00×Int)):= .an (Qrc m.A2 port) (.lv (Qpo m.A2 port) λ(x9:Int)=> .lf (m,x9)); .br (port==10) T2 (.br (port==11) T2 (.lf (m,0)))))))))))))
def Q16 m port clock:=(Q3e m port clock).m
abbrev Qh6 m port clock:=(Q3e m port clock).p
def Qso:Q0d:=Q0d.fz<|mkP 134 [] false [.agg Q00.sig, .one (.int .i64), .one (.int .u32)] [] (λa r=>Qh6 (Q00.of (aC a 0)) (argI a 1) (argI a 2)) (λa r=>Q16 (Q00.of (aC a 0)) (argI a 1) (argI a 2)) (λX=> .tup [.agg (Q00.cells (X.1)), .int .u32 (X.2)]) (λX=>[])
theorem Qrx:Q06 pG Qso:=Znt<|Q0q drawn Q0m (.cons Zaq (.cons Zjq (.cons Zoe (.cons vA (.cons Zbo (.nil)))))) Tryz.func134 Tryz.call134 (λa r=>Q3e (Q00.of (aC a 0)) (argI a 1) (argI a 2)) [.sl (.ints .u32) false] [] 2 (λ_ _ _=>by kernel_rfl) (λ_ _=>rfl) (λ_ _ h=>h) (λh=>by cases h)
def Qn0(t:Q0i)(deadline:Int):Tree Q0i:=
.lf ({D2:=deadline !=0,C9:=deadline,D5:=false})
def Qlg t deadline:=(Qn0 t deadline).m
def Zhw:Q0d:=mS 200 [] true [.agg Q0i.sig, .one (.int .u32)] [] (λa r=>Qn0 (Q0i.of (aC a 0)) (argI a 1)) (λX=> .agg (Q0i.cells X)) (λX=>[])
theorem Zfy:Q06 pG Zhw:=oS (.nil) Tryz.func200 Tryz.call200 [] [] 2
def Qdw(m:List Int)(frame:Int):Tree Bool:=
.lv (Q1 m) λ(x0:Int)=> .lf (decide (wrap u64 frame<wrap u64 x0))
def Qa m frame:=(Qdw m frame).m
def Z9k:Q0d:=mS 193 [] true [.one (.ints .u32), .one (.int .u32)] [] (λa r=>Qdw (argL .u32 a 0) (argI a 1)) (λX=> .bool X) (λX=>[])
theorem Qqx:Q06 pG Z9k:=oS (.cons Q4e (.nil)) Tryz.func193 Tryz.call193 [] [] 2
def Q8l(m:List Int)(frame:Int):Tree Bool:=
.br (decide (frame>=0)) (.lv (Q1 m) λ(x0:Int)=> .lf (decide (frame<x0))) (.lf false)
def Q5c m frame:=(Q8l m frame).m
def Qzq:Q0d:=mS 208 [] true [.one (.ints .u32), .one (.int .i64)] [] (λa r=>Q8l (argL .u32 a 0) (argI a 1)) (λX=> .bool X) (λX=>[])
theorem Qkw:Q06 pG Qzq:=oS (.cons Q4e (.nil)) Tryz.func208 Tryz.call208 [] [] 2
def Qna(words:List Int)(z:(Int)×(List Int)):Prop:=0<=z.1/\z.1<=words.length/\(z.2.length:Int)=4*z.1
def Q7o(words:List Int)(z:(Int)×(List Int)):Nat:=(words.length-z.1).toNat
def Q54(words:List Int):Tree (List UInt8):=
.cn (bT 0 1&&bS 1 1&&List.all [D.int u8 0] D.plain&&decide ((0:Int)<=(0:Int)/\0<=wrap i64 (4*(words.length:Int))/\wrap i64 (4*(words.length:Int))<=9223372036854775807/\(↑1:Int)*wrap i64 (4*(words.length:Int))<=140737488355328)) (.lp inferInstance (Q7o words (0,[])+1) ((True/\((Els.Nil (Els.ints u32 words)\/rE (1:Nat))/\rE (words:List Int))/\rE ((words.length:Int):Int)/\rE (0:Int)/\True)/\rE ([]:List Int)/\True) (0,[]) λ(v0:Int×List Int)=> .br (decide (v0.1<(words.length:Int))) (.cn (bS 1 1&&bT 0 1&&decide (0<=v0.1/\v0.1<(words.length:Int))) (.cn (decide (1*(v0.2.length+4)<=140737488355328)) (let E1:=words.getD v0.1.toNat 0; .nx ((True/\((Els.Nil (Els.ints u32 words)\/rE (1:Nat))/\rE (words:List Int))/\rE ((words.length:Int):Int)/\rE ((wrap i64 (v0.1+1)):Int)/\True)/\rE ((v0.2++[wrap u8 (words.getD v0.1.toNat 0),wrap u8 (ishr u32 (words.getD v0.1.toNat 0) 8),wrap u8 (ishr u32 (words.getD v0.1.toNat 0) 16),wrap u8 (ishr u32 (words.getD v0.1.toNat 0) 24)]):List Int)/\True) (Sum.inl (wrap i64 (v0.1+1),v0.2++[wrap u8 E1,wrap u8 (ishr u32 E1 8),wrap u8 (ishr u32 E1 16),wrap u8 (ishr u32 E1 24)]))))) (.lf (Sum.inr (bytesOf v0.2))))
def Z4z words:=(Q54 words).m
def Qed(words:List Int):Prop:=
words.length<=1000000000000
theorem Z2(words:List Int)(hw:Qed words):(Q54 words).p:=by
 simp only[Qed]at hw
 unfold Tree.p Q54
 repeat'(first|refine w_lp (inv:=Qna words) (μ:=Q7o words) ?_ (Nat.lt_succ_self _) (λ_ _=> ?_)|exact trivial|refine w_br (λ_=> ?_) (λ_=> ?_)|refine w_cn ?_ ?_|refine w_an ?_ ?_|refine w_lv (λ_ _=> ?_)|refine w_nx ?_|refine w_lf ?_|refine And.intro ?_ ?_)
 all_goals((try simp only[Qna,Q7o]at*);exact fin0)
def Z5t:LInv:={
 α:=(Int)×(List Int)
 F:=λst a=>([(3, .all 0),(10,(lk st 10)),(11,(lk st 11)),(12, .int i64 a.1)],[⟨false,5,1, .ints u8 a.2⟩])
 a0:=λst=>((lk st 12).toInt,(Q5e st.rows (rN st 3)))
 ex0:=λst=>[]++[(rX st 3 0)]}
def Qze:List (Nat×LInv):=[(3,Z5t)]
def Zcs:Q0d:=mkP 209 [] true [.one (.ints .u32)] [] (λa r=>Qed (argL .u32 a 0)) (λa r=>Z4z (argL .u32 a 0)) (λX=> .str X) (λX=>[])
theorem Z58:Q06 pG Zcs:=Q0q drawn Q0m (.nil) Tryz.func209 Tryz.call209 (λa r=>Q54 (argL .u32 a 0)) [] Qze 3 (hp:=λa r h=>Z2 (argL .u32 a 0) h)
def Q6s(m:List Int)(frame:Int):Tree ((List UInt8)×Bool):=
.lv (Q5c m frame) λ(x0:Bool)=> .br (!x0) (.lf ([],false)) (.cn (bS 1 1&&bT 0 1&&decide (0<=wrap i64 (frame*32)/\wrap i64 (frame*32)<=wrap i64 (wrap i64 (frame*32)+32)/\wrap i64 (wrap i64 (frame*32)+32)<=(m.length:Int))) (let E1:=cY (dC (wrap i64 (wrap i64 (frame*32)+32))-dC (wrap i64 (frame*32))) (cZ (dC (wrap i64 (frame*32))) m); .an (Qed E1) (.lv (Z4z E1) λ(x1:List UInt8)=> .lf (x1,true))))
def Q5s m frame:=(Q6s m frame).m
abbrev Qdm m frame:=(Q6s m frame).p
def Zav:Q0d:=mT 143 [] true [.one (.ints .u32), .one (.int .i64)] [] (λa r=>Q6s (argL .u32 a 0) (argI a 1)) (λX=> .tup [.str (X.1), .bool (X.2)]) (λX=>[])
theorem Qkj:Q06 pG Zav:=oT (.cons Qkw (.cons Z58 (.nil))) Tryz.func143 Tryz.call143 [] [] 2
def Qr(d0:Q0f)(at0:Int):Tree (Q04×Bool):=
.br (d0.C0 !=1) (.lf ({B5:=0,At:=0,C1:=0,C8:=[]},false)) (.br (d0.D8==1) (.lf ({B5:=3,At:=at0,C1:=d0.B7,C8:=[]},true)) (.br (d0.D8==2) (.lf ({B5:=4,At:=at0,C1:=d0.B7,C8:=d0.C3},true)) (.lf ({B5:=0,At:=0,C1:=0,C8:=[]},false))))
def Qjw d0 at0:=(Qr d0 at0).m
def Z7:Q0d:=mS 287 [] true [.agg Q0f.sig, .one (.int .u64)] [] (λa r=>Qr (Q0f.of (aC a 0)) (argI a 1)) (λX=> .tup [.agg (Q04.cells (X.1)), .bool (X.2)]) (λX=>[])
theorem Z2u:Q06 pG Z7:=oS (.nil) Tryz.func287 Tryz.call287 [] [] 2
def Qcy(d0:Q0f)(m:List Int)(cmd at0:Int):Tree (Q0f×(List Q04)):=
.br (d0.C0 !=0) (.lf (d0,[])) (let T1:Tree ((Q0f×(List Q04))):= .lf ({Blocks:=d0.Blocks,C1:=d0.C1,Frame:=d0.Frame,C0:=3,D8:=d0.D8,B7:=d0.B7,B3:=d0.B3,C3:=d0.C3},[]); .br (decide (d0.C1>=d0.Blocks)) T1 (.lv (Qa m d0.Frame) λ(x0:Bool)=> .br (!x0) T1 (.br (cmd==2) (.an (Qdm m (wrap i64 d0.Frame)) (.lv (Q5s m (wrap i64 d0.Frame)) λ(x1:List UInt8×Bool)=>let E2:=({Blocks:=d0.Blocks,C1:=d0.C1,Frame:=d0.Frame,C0:=1,D8:=cmd,B7:=d0.C1,B3:=d0.Frame,C3:=x1.1}:Q0f); .lv (Qjw E2 at0) λ(x2:Q04×Bool)=> .lf (E2,[x2.1]))) (let E3:=({Blocks:=d0.Blocks,C1:=d0.C1,Frame:=d0.Frame,C0:=1,D8:=cmd,B7:=d0.C1,B3:=d0.Frame,C3:=[]}:Q0f); .lv (Qjw E3 at0) λ(x3:Q04×Bool)=> .lf (E3,[x3.1])))))
def Qwv d0 m cmd at0:=(Qcy d0 m cmd at0).m
abbrev Qr5 d0 m cmd at0:=(Qcy d0 m cmd at0).p
def Zep:Q0d:=mT 251 [] true [.agg Q0f.sig, .one (.ints .u32), .one (.int .i64), .one (.int .u64)] [] (λa r=>Qcy (Q0f.of (aC a 0)) (argL .u32 a 1) (argI a 2) (argI a 3)) (λX=> .tup [.agg (Q0f.cells (X.1)), .sl 4 (.recs .apiOutput (X.2)) true]) (λX=>[])
theorem Zcd:Q06 pG Zep:=oT (.cons Qqx (.cons Qkj (.cons Z2u (.nil)))) Tryz.func251 Tryz.call251 [.sl (.recs .apiOutput) true] [] 2
def Qhy(d0:Q0f)(m:List Int)(port v at0:Int):Tree (Q0f×(List Q04)):=
.br (port==4) (.lf ({Blocks:=d0.Blocks,C1:=v,Frame:=d0.Frame,C0:=d0.C0,D8:=d0.D8,B7:=d0.B7,B3:=d0.B3,C3:=d0.C3},[])) (.br (port==5) (.lf ({Blocks:=d0.Blocks,C1:=d0.C1,Frame:=v,C0:=d0.C0,D8:=d0.D8,B7:=d0.B7,B3:=d0.B3,C3:=d0.C3},[])) (.br (port==6) (let T1:Tree ((Q0f×(List Q04))):= .an (Qr5 d0 m (wrap i64 v) at0) (.lv (Qwv d0 m (wrap i64 v) at0) λ(x0:Q0f×List Q04)=> .lf (x0.1,x0.2)); .br (v==1) T1 (.br (v==2) T1 (.br (v==0) (.lv (Q9d d0) λ(x2:Bool)=> .br x2 (.lf ({Blocks:=d0.Blocks,C1:=d0.C1,Frame:=d0.Frame,C0:=0,D8:=d0.D8,B7:=d0.B7,B3:=d0.B3,C3:=d0.C3},[])) (.lf (d0,[]))) (.lf (d0,[]))))) (.lf (d0,[]))))
def Z0n d0 m port v at0:=(Qhy d0 m port v at0).m
abbrev Qz0 d0 m port v at0:=(Qhy d0 m port v at0).p
def Zob:Q0d:=mT 201 [] true [.agg Q0f.sig, .one (.ints .u32), .one (.int .i64), .one (.int .u32), .one (.int .u64)] [] (λa r=>Qhy (Q0f.of (aC a 0)) (argL .u32 a 1) (argI a 2) (argI a 3) (argI a 4)) (λX=> .tup [.agg (Q0f.cells (X.1)), .sl 4 (.recs .apiOutput (X.2)) true]) (λX=>[])
theorem Zio:Q06 pG Zob:=oT (.cons Zcd (.cons Qoh (.nil))) Tryz.func201 Tryz.call201 [.sl (.recs .apiOutput) true] [] 2
def Qg7(m:List Int)(frame:Int):Tree Bool:=
.lv (Q1 m) λ(x0:Int)=> .lf (decide (wrap u64 frame<wrap u64 x0))
def Qa9 m frame:=(Qg7 m frame).m
def Zgc:Q0d:=mS 194 [] true [.one (.ints .u32), .one (.int .u32)] [] (λa r=>Qg7 (argL .u32 a 0) (argI a 1)) (λX=> .bool X) (λX=>[])
theorem Qmf:Q06 pG Zgc:=oS (.cons Q4e (.nil)) Tryz.func194 Tryz.call194 [] [] 2
def Qhq(n:Q0r)(m:List Int)(at0:Int):Tree (List Q04):=
.br (decide (n.E0<1)) (.lf ([])) (.br (decide (n.E0>128)) (.lf ([])) (.lv (Qa9 m n.Frame) λ(x0:Bool)=> .br (!x0) (.lf ([])) (.an (Qdm m (wrap i64 n.Frame)) (.lv (Q5s m (wrap i64 n.Frame)) λ(x1:List UInt8×Bool)=> .cn (decide ((0:Int)<=(0:Int)/\0<=n.E0/\n.E0<=(x1.1.length:Int))) (.lf ([{B5:=2,At:=at0,C1:=0,C8:=cY (dC n.E0-dC 0) (cZ (dC 0) x1.1)}]))))))
def Zcp n m at0:=(Qhq n m at0).m
abbrev Qz4 n m at0:=(Qhq n m at0).p
def Zo8:Q0d:=mT 252 [] true [.agg Q0r.sig, .one (.ints .u32), .one (.int .u64)] [] (λa r=>Qhq (Q0r.of (aC a 0)) (argL .u32 a 1) (argI a 2)) (λX=> .sl 4 (.recs .apiOutput X) true) (λX=>[])
theorem Zk7:Q06 pG Zo8:=oT (.cons Qmf (.cons Qkj (.nil))) Tryz.func252 Tryz.call252 [.sl (.recs .apiOutput) true] [] 2
def Ql9(n:Q0r)(m:List Int)(port v at0:Int):Tree (Q0r×(List Q04)):=
.br (port==7) (.lf ({Frame:=v,E0:=n.E0,C7:=n.C7,B9:=n.B9,B8:=n.B8,F3:=n.F3},[])) (.br (port==8) (.lf ({Frame:=n.Frame,E0:=v,C7:=n.C7,B9:=n.B9,B8:=n.B8,F3:=n.F3},[])) (.br (port==9) (.br (v==1) (.an (Qz4 n m at0) (.lv (Zcp n m at0) λ(x0:List Q04)=> .lf (n,x0))) (.br (v==2) (.lv (Qa9 m n.Frame) λ(x1:Bool)=> .br x1 (.br (!n.C7) (.br (!n.B8) (.lf ({Frame:=n.Frame,E0:=n.E0,C7:=true,B9:=n.Frame,B8:=n.B8,F3:=n.F3},[])) (.lf (n,[]))) (.lf (n,[]))) (.lf (n,[]))) (.br (v==0) (.lf ({Frame:=n.Frame,E0:=n.E0,C7:=n.C7,B9:=n.B9,B8:=false,F3:=0},[])) (.lf (n,[]))))) (.lf (n,[]))))
def Zcf n m port v at0:=(Ql9 n m port v at0).m
abbrev Z1y n m port v at0:=(Ql9 n m port v at0).p
def qB:Q0d:=mT 202 [] true [.agg Q0r.sig, .one (.ints .u32), .one (.int .i64), .one (.int .u32), .one (.int .u64)] [] (λa r=>Ql9 (Q0r.of (aC a 0)) (argL .u32 a 1) (argI a 2) (argI a 3) (argI a 4)) (λX=> .tup [.agg (Q0r.cells (X.1)), .sl 4 (.recs .apiOutput (X.2)) true]) (λX=>[])
theorem Zml:Q06 pG qB:=oT (.cons Zk7 (.cons Qmf (.nil))) Tryz.func202 Tryz.call202 [.sl (.recs .apiOutput) true] [] 2
def Qb2(m:List Int)(frame:Int)(s:List UInt8)(z:(Int)×(List Int)):Nat:=(32-z.1).toNat
def Q3k(m:List Int)(frame:Int)(s:List UInt8):Tree ((List Int)×Bool):=
.an (Q08 m) (.lv (Q03 m) λ(x0:List Int)=> .lv (Q5c m frame) λ(x1:Bool)=> .br (!x1) (.lf (x0,false)) (.br ((s.length:Int) !=(128:Int)) (.lf (x0,false)) (.lp inferInstance (Qb2 m frame s (0,x0)+1) ((rE (s:List UInt8)/\True/\rE ((wrap i64 (frame*32)):Int)/\rE (0:Int)/\True)/\rE (x0:List Int)/\True) (0,x0) λ(v0:Int×List Int)=> .br (decide (v0.1<32)) (.cn (decide (0<=wrap i64 (4*v0.1)/\wrap i64 (4*v0.1)<=wrap i64 (wrap i64 (4*v0.1)+4)/\wrap i64 (wrap i64 (4*v0.1)+4)<=(s.length:Int))) (let E1:=cY (dC (wrap i64 (wrap i64 (4*v0.1)+4))-dC (wrap i64 (4*v0.1))) (cZ (dC (wrap i64 (4*v0.1))) s); .cn (decide ((0:Int)<=(0:Int)/\0<(↑(dH E1):Int))) (.cn (decide ((0:Int)<=(1:Int)/\1<(↑(dH E1):Int))) (.cn (decide ((0:Int)<=(2:Int)/\2<(↑(dH E1):Int))) (.cn (decide ((0:Int)<=(3:Int)/\3<(↑(dH E1):Int))) (.cn (bS 1 1&&bT 0 1&&decide (0<=wrap i64 (wrap i64 (frame*32)+v0.1)/\wrap i64 (wrap i64 (frame*32)+v0.1)<(v0.2.length:Int))) (.nx ((rE (s:List UInt8)/\True/\rE ((wrap i64 (frame*32)):Int)/\rE ((wrap i64 (v0.1+1)):Int)/\True)/\rE ((dD v0.2 (dC (wrap i64 (wrap i64 (frame*32)+v0.1))) (ior u32 (ior u32 (ior u32 (wrap u32 (↑(eU (aK (cY (dC (wrap i64 (wrap i64 (4*v0.1)+4))-dC (wrap i64 (4*v0.1))) (cZ (dC (wrap i64 (4*v0.1))) s)) (dC 0) (0:UInt8))):Int)) (ishl u32 (wrap u32 (↑(eU (aK (cY (dC (wrap i64 (wrap i64 (4*v0.1)+4))-dC (wrap i64 (4*v0.1))) (cZ (dC (wrap i64 (4*v0.1))) s)) (dC 1) (0:UInt8))):Int)) 8)) (ishl u32 (wrap u32 (↑(eU (aK (cY (dC (wrap i64 (wrap i64 (4*v0.1)+4))-dC (wrap i64 (4*v0.1))) (cZ (dC (wrap i64 (4*v0.1))) s)) (dC 2) (0:UInt8))):Int)) 16)) (ishl u32 (wrap u32 (↑(eU (aK (cY (dC (wrap i64 (wrap i64 (4*v0.1)+4))-dC (wrap i64 (4*v0.1))) (cZ (dC (wrap i64 (4*v0.1))) s)) (dC 3) (0:UInt8))):Int)) 24))):List Int)/\True) (Sum.inl (wrap i64 (v0.1+1),dD v0.2 (dC (wrap i64 (wrap i64 (frame*32)+v0.1))) (ior u32 (ior u32 (ior u32 (wrap u32 (↑(eU (aK E1 (dC 0) (0:UInt8))):Int)) (ishl u32 (wrap u32 (↑(eU (aK E1 (dC 1) (0:UInt8))):Int)) 8)) (ishl u32 (wrap u32 (↑(eU (aK E1 (dC 2) (0:UInt8))):Int)) 16)) (ishl u32 (wrap u32 (↑(eU (aK E1 (dC 3) (0:UInt8))):Int)) 24))))))))))) (.lf (Sum.inr (v0.2,true))))))
def Q2y m frame s:=(Q3k m frame s).m
abbrev Q94 m frame s:=(Q3k m frame s).p
def Qxo:LInv:={
 α:=(Int)×(List Int)
 F:=λst a=>([(2,(lk st 2)),(8, .all 0),(9,(lk st 9)),(26, .int i64 a.1)],[⟨false,25,1, .ints u32 a.2⟩])
 a0:=λst=>((lk st 26).toInt,(Q5e st.rows (rN st 8)))
 ex0:=λst=>[]++[(rX st 8 0)]}
def Qrq:List (Nat×LInv):=[(6,Qxo)]
def Qza:Q0d:=mT 144 [] true [.one (.ints .u32), .one (.int .i64), .one (.str)] [] (λa r=>Q3k (argL .u32 a 0) (argI a 1) (argS a 2)) (λX=> .tup [.all 0, .bool (X.2)]) (λX=>[⟨false,25,1, .ints .u32 (X.1)⟩])
theorem Qf1:Q06 pG Qza:=oT (.cons Q0x (.cons Qkw (.nil))) Tryz.func144 Tryz.call144 [.row 25 1 (.ints .u32)] Qrq 3
def strings_Repeat(s:List UInt8)(count:Int):(List UInt8):=
Lib.repeatL s count.toNat
def Qdk(s:List UInt8)(count:Int):Prop:=
0<=count/\count<=9223372036854775807/\s.length*count.toNat<=140737488355328
def Qiv(s:List UInt8)(count:Int):List D:=[.str s, .int .i64 count]
def Qif(s:List UInt8)(count:Int):List Row:=[]
def Qe5(X:List UInt8):D:= .str X
def Qee(X:List UInt8):List Row:=[]
def Qk3:List PT:=[.one (.str), .one (.int .i64)]
def Qjb:List RT:=[]
def Qt7(args:List D)(rows:List Row):(List UInt8):=strings_Repeat (argS args 0) (argI args 1)
def Qtx(args:List D)(rows:List Row):Prop:=Qdk (argS args 0) (argI args 1)
def Qzh:Q0d:=mkP 253 [] true Qk3 Qjb Qtx Qt7 Qe5 Qee
theorem Qqq(s:List UInt8)(count:Int)(hw:Qdk s count):Q4k pG 253 (Qiv s count) (Qif s count) (Qe5 (strings_Repeat s count)) (Qee (strings_Repeat s count)):=by
 exact vc Tryz.strings_Repeat hw.1 hw.2.1 hw.2.2
set_option maxRecDepth 100000 in
theorem Qsb(args:List D)(rows:List Row):Qgf Qk3 args 0=Qiv (argS args 0) (argI args 1):=by kernel_rfl
set_option maxRecDepth 100000 in
theorem Qqi(args:List D)(rows:List Row):Q65 Qjb rows 0=Qif (argS args 0) (argI args 1):=by kernel_rfl
set_option maxRecDepth 100000 in
theorem Qva(X:List UInt8):(ffB (Qe5 X)&&ffBR (Qee X))=true:=by kernel_rfl
theorem Qxh:Q06 pG Qzh:=Qyi Tryz.call253 (λargs rows hp=>by rw[Qsb args rows,Qqi args rows];exact Qqq (argS args 0) (argI args 1) hp) (λ_ X=>Qva X)
def Q44(b:Q09)(m:List Int)(port v:Int):Tree (Q09×(List Int)):=
let T1:Tree ((Q09×(List Int))):= .an (Q08 m) (.lv (Q03 m) λ(x0:List Int)=> .lf (b,x0)); .br (decide (v>=32)) T1 (.cn (decide (0<=v)) (.br (port==10) (.lv (Q1 m) λ(x1:Int)=> .br (decide (wrap i64 v<x1)) (.br (iand u32 b.C2 (ishl u32 1 v)==0) (.an (Qdk [(0:UInt8)] 128) (.lv (strings_Repeat [(0:UInt8)] 128) λ(x2:List UInt8)=> .an (Q94 m (wrap i64 v) x2) (.lv (Q2y m (wrap i64 v) x2) λ(x3:List Int×Bool)=> .lf ({D0:=b.D0,C2:=ior u32 b.C2 (ishl u32 1 v)},x3.1)))) T1) T1) (.br (port==11) (.an (Q08 m) (.lv (Q03 m) λ(x6:List Int)=> .lf ({D0:=b.D0,C2:=Qhm u32 b.C2 (ishl u32 1 v)},x6))) T1)))
def Q8g b m port v:=(Q44 b m port v).m
abbrev Qp6 b m port v:=(Q44 b m port v).p
def Za2:Q0d:=mT 203 [] true [.agg Q09.sig, .one (.ints .u32), .one (.int .i64), .one (.int .u32)] [] (λa r=>Q44 (Q09.of (aC a 0)) (argL .u32 a 1) (argI a 2) (argI a 3)) (λX=> .tup [.agg (Q09.cells (X.1)), .all 0]) (λX=>[⟨false,25,1, .ints .u32 (X.2)⟩])
theorem Z6y:Q06 pG Za2:=oT (.cons Q0x (.cons Q4e (.cons Qf1 (.cons Qxh (.nil))))) Tryz.func203 Tryz.call203 [.row 25 1 (.ints .u32)] [] 2
def Q3z(m:Q00)(port v at0:Int):Tree (Q00×(List Q04)):=
.br (port==0) (.lf (m,[{B5:=1,At:=at0,C1:=0,C8:=[(λ(n:Int)=>UInt8.ofNat n.toNat) (wrap u8 v)]}])) (.br (port==3) (.lv (Qlg m.B0 v) λ(x0:Q0i)=> .lf ({B2:=m.B2,Mem:=m.Mem,A4:=m.A4,B0:=x0,B1:=m.B1,C4:=m.C4,A2:=m.A2,A1:=m.A1,A7:=m.A7,A9:=m.A9},[])) (let T1:Tree ((Q00×(List Q04))):= .an (Qz0 m.B1 m.Mem port v at0) (.lv (Z0n m.B1 m.Mem port v at0) λ(x1:Q0f×List Q04)=> .lf ({B2:=m.B2,Mem:=m.Mem,A4:=m.A4,B0:=m.B0,B1:=x1.1,C4:=m.C4,A2:=m.A2,A1:=m.A1,A7:=m.A7,A9:=m.A9},x1.2)); .br (port==4) T1 (.br (port==5) T1 (.br (port==6) T1 (let T2:Tree ((Q00×(List Q04))):= .an (Z1y m.C4 m.Mem port v at0) (.lv (Zcf m.C4 m.Mem port v at0) λ(x4:Q0r×List Q04)=> .lf ({B2:=m.B2,Mem:=m.Mem,A4:=m.A4,B0:=m.B0,B1:=m.B1,C4:=x4.1,A2:=m.A2,A1:=m.A1,A7:=m.A7,A9:=m.A9},x4.2)); .br (port==7) T2 (.br (port==8) T2 (.br (port==9) T2 (let T3:Tree ((Q00×(List Q04))):= .an (Qp6 m.A2 m.Mem port v) (.lv (Q8g m.A2 m.Mem port v) λ(x7:Q09×List Int)=> .lf ({B2:=m.B2,Mem:=x7.2,A4:=m.A4,B0:=m.B0,B1:=m.B1,C4:=m.C4,A2:=x7.1,A1:=m.A1,A7:=m.A7,A9:=m.A9},[])); .br (port==10) T3 (.br (port==11) T3 (.lf (m,[])))))))))))
def Q2i m port v at0:=(Q3z m port v at0).m
abbrev Qg3 m port v at0:=(Q3z m port v at0).p
def Qs:Q0d:=Q0d.fz<|mkP 135 [] false [.agg Q00.sig, .one (.int .i64), .one (.int .u32), .one (.int .u64)] [] (λa r=>Qg3 (Q00.of (aC a 0)) (argI a 1) (argI a 2) (argI a 3)) (λa r=>Q2i (Q00.of (aC a 0)) (argI a 1) (argI a 2) (argI a 3)) (λX=> .tup [.agg (Q00.cells (X.1)), .sl 4 (.recs .apiOutput (X.2)) true]) (λX=>[])
theorem Qqg:Q06 pG Qs:=Znt<|Q0q drawn Q0m (.cons Zfy (.cons Zio (.cons Zml (.cons Z6y (.nil))))) Tryz.func135 Tryz.call135 (λa r=>Q3z (Q00.of (aC a 0)) (argI a 1) (argI a 2) (argI a 3)) [.sl (.ints .u32) false, .sl (.recs .apiOutput) true] [] 2 (λ_ _ _=>by kernel_rfl) (λ_ _=>rfl) (λ_ _ h=>h) (λh=>by cases h)
def Q2x(m:Q00)(clock:Int):Tree (Q00×(List Q04)):=
.an (Q08 m.Mem) (.lv (Q03 m.Mem) λ(x0:List Int)=>let E1:=({B2:=m.B2,Mem:=x0,A4:=m.A4,B0:=m.B0,B1:=m.B1,C4:=m.C4,A2:=m.A2,A1:=m.A1,A7:=m.A7,A9:=m.A9}:Q00); .an (Qc1 E1) (.lv (Q2d E1) λ(x1:Bool)=> .br (!x1) (.lf (E1,[])) (.an (Qap E1) (.lv (Q0s E1) λ(x2:Q00)=> .an (Qkc x2.B2 x2.Mem) (.lv (Q55 x2.B2 x2.Mem) λ(x3:Q05×List Int×Q17)=>let E2:=({B2:=x3.1,Mem:=x3.2.1,A4:=x2.A4,B0:=x2.B0,B1:=x2.B1,C4:=x2.C4,A2:=x2.A2,A1:=x2.A1,A7:=x2.A7,A9:=x2.A9}:Q00); .br (x3.2.2.B5==1) (.an (Qh6 E2 x3.2.2.D1 clock) (.lv (Q16 E2 x3.2.2.D1 clock) λ(x4:Q00×Int)=> .br (x3.2.2.D9 !=0) (.cn (bT 0 1&&decide (0<=x3.2.2.D9/\x3.2.2.D9<(↑16:Int))) (.lf ({B2:={X:=A16.of 0 (dD (A16.l x4.1.B2.X) x3.2.2.D9.toNat x4.2),Pc:=x4.1.B2.Pc,B6:=x4.1.B2.B6},Mem:=x4.1.Mem,A4:=x4.1.A4,B0:=x4.1.B0,B1:=x4.1.B1,C4:=x4.1.C4,A2:=x4.1.A2,A1:=wrap u64 (x4.1.A1+1),A7:=x4.1.A7,A9:=x4.1.A9},[]))) (.lf ({B2:=x4.1.B2,Mem:=x4.1.Mem,A4:=x4.1.A4,B0:=x4.1.B0,B1:=x4.1.B1,C4:=x4.1.C4,A2:=x4.1.A2,A1:=wrap u64 (x4.1.A1+1),A7:=x4.1.A7,A9:=x4.1.A9},[])))) (.br (x3.2.2.B5==2) (.an (Qg3 E2 x3.2.2.D1 x3.2.2.Value m.A1) (.lv (Q2i E2 x3.2.2.D1 x3.2.2.Value m.A1) λ(x5:Q00×List Q04)=> .lf ({B2:=x5.1.B2,Mem:=x5.1.Mem,A4:=x5.1.A4,B0:=x5.1.B0,B1:=x5.1.B1,C4:=x5.1.C4,A2:=x5.1.A2,A1:=wrap u64 (x5.1.A1+1),A7:=x5.1.A7,A9:=x5.1.A9},x5.2))) (.br (x3.2.2.B5==3) (.lf ({B2:=x3.1,Mem:=x3.2.1,A4:=x2.A4,B0:=x2.B0,B1:=x2.B1,C4:=x2.C4,A2:=x2.A2,A1:=wrap u64 (x2.A1+1),A7:=true,A9:=x2.A9},[])) (.br (x3.2.2.B5==4) (.lf ({B2:=x3.1,Mem:=x3.2.1,A4:=x2.A4,B0:=x2.B0,B1:=x2.B1,C4:=x2.C4,A2:=x2.A2,A1:=wrap u64 (x2.A1+1),A7:=x2.A7,A9:=true},[])) (.lf ({B2:=x3.1,Mem:=x3.2.1,A4:=x2.A4,B0:=x2.B0,B1:=x2.B1,C4:=x2.C4,A2:=x2.A2,A1:=wrap u64 (x2.A1+1),A7:=x2.A7,A9:=x2.A9},[]))))))))))
def Q2g m clock:=(Q2x m clock).m
abbrev Q6a m clock:=(Q2x m clock).p
def Z61:Q0d:=Q0d.fz<|mkP 39 [] false [.agg Q00.sig, .one (.int .u32)] [] (λa r=>Q6a (Q00.of (aC a 0)) (argI a 1)) (λa r=>Q2g (Q00.of (aC a 0)) (argI a 1)) (λX=> .tup [.agg (Q00.cells (X.1)), .sl 4 (.recs .apiOutput (X.2)) false]) (λX=>[])
theorem Qp8:Q06 pG Z61:=Znt<|Q0q drawn Q0m (.cons Q0x (.cons Qp (.cons Qn7 (.cons Z2e (.cons Qrx (.cons Qqg (.nil))))))) Tryz.func39 Tryz.call39 (λa r=>Q2x (Q00.of (aC a 0)) (argI a 1)) [.sl (.ints .u32) false, .sl (.recs .apiOutput) false] [] 2 (λ_ _ _=>by kernel_rfl) (λ_ _=>rfl) (λ_ _ h=>h) (λh=>by cases h)
end
noncomputable section
def Z4t(op:Int):Tree Int:=
let T1:Tree (Int):= .br (op==49) (.lf 3) (let T2:Tree (Int):= .br (op==24) (.lf 6) (.br (op==48) (.lf 7) (.br (op==58) (.lf 8) (.br (op==59) (.lf 8) (.br (op==60) (.lf 9) (.br (op==61) (.lf 9) (.br (op==56) (.lf 1) (.br (op==57) (.lf 1) (.br (decide (op>=62)) (.br (decide (op<=64)) (.lf 1) (.lf 0)) (.lf 0))))))))); .br (decide (op>=17)) (.br (decide (op<=19)) (.lf 4) (.br (decide (op>=20)) (.br (decide (op<=22)) (.lf 5) T2) T2)) (.br (decide (op>=20)) (.br (decide (op<=22)) (.lf 5) T2) T2));let T3:Tree (Int):= .br (op==16) (.lf 3) (.br (op==23) (.lf 3) (.br (decide (op>=32)) (.br (decide (op<=36)) (.lf 3) (.br (decide (op>=40)) (.br (decide (op<=45)) (.lf 3) T1) T1)) (.br (decide (op>=40)) (.br (decide (op<=45)) (.lf 3) T1) T1))); .br (decide (op>=1)) (.br (decide (op<=13)) (.lf 2) T3) T3
def Q2h op:=(Z4t op).m
def Zj6:Q0d:=mS 191 [] true [.one (.int .i64)] [] (λa r=>Z4t (argI a 0)) (λX=> .int .i64 X) (λX=>[])
theorem Qfv:Q06 pG Zj6:=oS (.nil) Tryz.func191 Tryz.call191 [] [] 2
def Qdx(r:Int):Tree Bool:=
.br (decide (r>=0)) (.lf (decide (r<=15))) (.lf false)
def Q89 r:=(Qdx r).m
def Z22:Q0d:=mS 225 [] true [.one (.int .i64)] [] (λa r=>Qdx (argI a 0)) (λX=> .bool X) (λX=>[])
theorem Qzb:Q06 pG Z22:=oS (.nil) Tryz.func225 Tryz.call225 [] [] 2
def Qmh(f:Int):Tree (Int×Int):=
.br (f==3) (.lf ((-32768),32767)) (.br (f==7) (.lf ((-32768),32767)) (.br (f==4) (.lf (0,65535)) (.br (f==6) (.lf (0,65535)) (.br (f==5) (.lf (0,31)) (.br (f==8) (.lf (0,7)) (.br (f==9) (.lf (0,11)) (.lf (0,0))))))))
def Qm9 f:=(Qmh f).m
def Zat:Q0d:=mS 192 [] true [.one (.int .i64)] [] (λa r=>Qmh (argI a 0)) (λX=> .tup [.int .i64 (X.1), .int .i64 (X.2)]) (λX=>[])
theorem Qqr:Q06 pG Zat:=oS (.nil) Tryz.func192 Tryz.call192 [] [] 2
def Qge(i:Q0n):Tree Bool:=
.lv (Q2h i.Op) λ(x0:Int)=> .br (x0==0) (.lf false) (.lv (Q89 i.A) λ(x1:Bool)=> .br (!x1) (.lf false) (.lv (Q89 i.B) λ(x2:Bool)=> .br (!x2) (.lf false) (.lv (Q89 i.C) λ(x3:Bool)=> .br (!x3) (.lf false) (.lv (Qm9 x0) λ(x4:Int×Int)=> .br (decide (wrap i64 i.Imm<x4.1)) (.lf false) (.br (decide (wrap i64 i.Imm>x4.2)) (.lf false) (let T1:Tree (Bool):= .br (x0==1) (.br (i.A !=0) (.lf false) (.br (i.B==0) (.lf true) (.br (decide (x0>=2)) (.lf (decide (x0<=5))) (.lf false)))) (.br (i.B==0) (.lf true) (.br (decide (x0>=2)) (.lf (decide (x0<=5))) (.lf false))); .br (x0 !=2) (.br (i.C !=0) (.lf false) T1) T1))))))
def Q7s i:=(Qge i).m
def Zfz:Q0d:=mS 167 [] true [.agg Q0n.sig] [] (λa r=>Qge (Q0n.of (aC a 0))) (λX=> .bool X) (λX=>[])
theorem Qu7:Q06 pG Zfz:=oS (.cons Qfv (.cons Qzb (.cons Qqr (.nil)))) Tryz.func167 Tryz.call167 [] [] 2
def Qhe(i:Q0n):Tree (Int×Bool):=
.lv (Q7s i) λ(x0:Bool)=> .br (!x0) (.lf (0,false)) (.lf (ior u32 (ior u32 (ior u32 (ior u32 (ishl u32 (wrap u32 i.Op) 24) (ishl u32 (wrap u32 i.A) 20)) (ishl u32 (wrap u32 i.B) 16)) (iand u32 (wrap u32 i.Imm) 65535)) (wrap u32 i.C),true))
def Q1n i:=(Qhe i).m
def Z9l:Q0d:=mS 82 [] true [.agg Q0n.sig] [] (λa r=>Qhe (Q0n.of (aC a 0))) (λX=> .tup [.int .u32 (X.1), .bool (X.2)]) (λX=>[])
theorem Qkt:Q06 pG Z9l:=oS (.cons Qu7 (.nil)) Tryz.func82 Tryz.call82 [] [] 2
def Z9c:Tree (List Int):=
.lf ([1,2,3,4,5,6,7,8,9,10,11,12,13,16,16,17,18,19,20,21,22,23,24,24,32,32,33,34,35,35,36,40,41,42,43,44,45,48,49,56,57,58,59,60,60,61,61,62,63,64])
def Zbu:(List Int):=(Z9c).m
def Znx:Q0d:=mS 168 [] true [] [] (λa r=>Z9c) (λX=> .sl 1 (.ints .i64 X) true) (λX=>[])
theorem Zjz:Q06 pG Znx:=oS (.nil) Tryz.func168 Tryz.call168 [.sl (.ints .i64) true] [] 2
def Z34(seed:Int):Tree (Int×Int):=
let E1:=wrap u64 (ixor u64 (wrap u64 (seed+11400714819323198485)) (ishr u64 (wrap u64 (seed+11400714819323198485)) 30)*13787848793156543929);let E2:=wrap u64 (ixor u64 E1 (ishr u64 E1 27)*10723151780598845931); .lf (ixor u64 E2 (ishr u64 E2 31),wrap u64 (seed+11400714819323198485))
def Zh5 seed:=(Z34 seed).m
def Zij:Q0d:=mS 162 [] true [.one (.int .u64)] [] (λa r=>Z34 (argI a 0)) (λX=> .tup [.int .u64 (X.1), .int .u64 (X.2)]) (λX=>[])
theorem Zd7:Q06 pG Zij:=oS (.nil) Tryz.func162 Tryz.call162 [] [] 2
def Qqd(n k:Int):Tree Int:=
.lv (Zh5 (ixor u64 (wrap u64 n) (wrap u64 (wrap u64 k*11400714819323198485)))) λ(x0:Int×Int)=> .lf (wrap i64 (ishr u64 x0.1 1))
def Q3a n k:=(Qqd n k).m
def Zn:Q0d:=mS 77 [] true [.one (.int .i64), .one (.int .i64)] [] (λa r=>Qqd (argI a 0) (argI a 1)) (λX=> .int .i64 X) (λX=>[])
theorem Qn:Q06 pG Zn:=oS (.cons Zd7 (.nil)) Tryz.func77 Tryz.call77 [] [] 2
def Qny(n k:Int):Tree Int:=
.cn (decide (k≠0)) (.br (decide (dB n k<0)) (.lf (wrap i64 (dB n k+k))) (.lf (dB n k)))
def Q4v n k:=(Qny n k).m
abbrev Q43 n k:=(Qny n k).p
def Zgi:Q0d:=mT 50 [] true [.one (.int .i64), .one (.int .i64)] [] (λa r=>Qny (argI a 0) (argI a 1)) (λX=> .int .i64 X) (λX=>[])
theorem Qmd:Q06 pG Zgi:=oT (.nil) Tryz.func50 Tryz.call50 [] [] 2
def Qm0(n:Int):Tree Q0n:=
.lv Zbu λ(x0:List Int)=> .lv (Q3a n 1) λ(x1:Int)=> .an (Q43 x1 (x0.length:Int)) (.lv (Q4v x1 (x0.length:Int)) λ(x2:Int)=> .cn (bS 1 1&&bT 0 1&&decide (0<=x2/\x2<(x0.length:Int))) (.an (Q43 (ishr i64 x1 8) 6) (.lv (Q4v (ishr i64 x1 8) 6) λ(x3:Int)=> .an (Q43 (ishr i64 x1 12) 6) (.lv (Q4v (ishr i64 x1 12) 6) λ(x4:Int)=> .an (Q43 (ishr i64 x1 16) 6) (.lv (Q4v (ishr i64 x1 16) 6) λ(x5:Int)=> .an (Q43 (ishr i64 x1 20) 24) (.lv (Q4v (ishr i64 x1 20) 24) λ(x6:Int)=> .br (decide (x0.getD x2.toNat (0:Int)<=(13:Int))) (.lf ({Op:=x0.getD x2.toNat 0,A:=x3,B:=x4,C:=x5,Imm:=0})) (let E4:=({Op:=x0.getD x2.toNat 0,A:=x3,B:=x4,C:=0,Imm:=wrap i32 (wrap i64 (wrap i64 (8*x6)-32))}:Q0n);let T1:Tree (Q0n):= .br (x0.getD x2.toNat (0:Int)==(49:Int)) (.lf (E4)) (.br (x0.getD x2.toNat (0:Int)==(24:Int)) (.lf ({Op:=x0.getD x2.toNat 0,A:=x3,B:=0,C:=0,Imm:=wrap i32 (wrap i64 (x6*iand i64 (ishr i64 x1 40) 1))})) (let T2:Tree (Q0n):=let E6:=({Op:=x0.getD x2.toNat 0,A:=x3,B:=0,C:=0,Imm:=wrap i32 (dB x6 8)}:Q0n); .br (x0.getD x2.toNat (0:Int)==(58:Int)) (.lf (E6)) (.br (x0.getD x2.toNat (0:Int)==(59:Int)) (.lf (E6)) (let E5:=({Op:=x0.getD x2.toNat 0,A:=x3,B:=0,C:=0,Imm:=wrap i32 (dB x6 12)}:Q0n); .br (x0.getD x2.toNat (0:Int)==(60:Int)) (.lf (E5)) (.br (x0.getD x2.toNat (0:Int)==(61:Int)) (.lf (E5)) (.lf ({Op:=x0.getD x2.toNat 0,A:=0,B:=0,C:=0,Imm:=0}))))); .br (decide (x0.getD x2.toNat (0:Int)>=(17:Int))) (.br (decide (x0.getD x2.toNat (0:Int)<=(22:Int))) (.lf ({Op:=x0.getD x2.toNat 0,A:=x3,B:=x4,C:=0,Imm:=wrap i32 x6})) T2) T2));let T3:Tree (Q0n):= .br (x0.getD x2.toNat (0:Int)==(16:Int)) (.lf (E4)) (.br (x0.getD x2.toNat (0:Int)==(23:Int)) (.lf (E4)) (.br (decide (x0.getD x2.toNat (0:Int)>=(32:Int))) (.br (decide (x0.getD x2.toNat (0:Int)<=(36:Int))) (.lf (E4)) T1) T1)); .br (decide (x0.getD x2.toNat (0:Int)>=(40:Int))) (.br (decide (x0.getD x2.toNat (0:Int)<=(48:Int))) (.br (x0.getD x2.toNat (0:Int)==(48:Int)) (.lf ({Op:=x0.getD x2.toNat 0,A:=x3,B:=0,C:=0,Imm:=wrap i32 (wrap i64 (x6-12))})) (.lf ({Op:=x0.getD x2.toNat 0,A:=x3,B:=x4,C:=0,Imm:=wrap i32 (wrap i64 (x6-12))}))) T3) T3)))))))
def Zg9 n:=(Qm0 n).m
abbrev Qhh n:=(Qm0 n).p
def Zi9:Q0d:=mT 83 [] true [.one (.int .i64)] [] (λa r=>Qm0 (argI a 0)) (λX=> .agg (Q0n.cells X)) (λX=>[])
theorem Zej:Q06 pG Zi9:=oT (.cons Zjz (.cons Qn (.cons Qmd (.nil)))) Tryz.func83 Tryz.call83 [] [] 2
def Qrh(l:List Int)(z:(Int)×(List Int)):Prop:=0<=z.1/\z.1<=l.length/\(z.2.length:Int)=z.1
def Qdf(l:List Int)(z:(Int)×(List Int)):Nat:=(l.length-z.1).toNat
def Qio(l:List Int):Tree (List Int):=
.lp inferInstance (Qdf l (0,[])+1) ((((Els.Nil (Els.ints i64 l)\/rE (1:Nat))/\rE (l:List Int))/\True/\rE (0:Int)/\True)/\rE ([]:List Int)/\True) (0,[]) λ(v0:Int×List Int)=> .br (decide (v0.1<(l.length:Int))) (let E1:=bS 1 1&&bT 0 1&&decide (0<=v0.1/\v0.1<(l.length:Int)); .cn E1 (let E2:=decide (4*(v0.2.length+1)<=140737488355328); .br (dB (l.getD v0.1.toNat 0) (17:Int)==(0:Int)) (.cn E1 (.cn E2 (.nx ((((Els.Nil (Els.ints i64 l)\/rE (1:Nat))/\rE (l:List Int))/\True/\rE ((wrap i64 (v0.1+1)):Int)/\True)/\rE ((v0.2++[wrap u32 (iand i64 (l.getD v0.1.toNat 0) 4294967295)]):List Int)/\True) (Sum.inl (wrap i64 (v0.1+1),v0.2++[wrap u32 (iand i64 (l.getD v0.1.toNat 0) 4294967295)]))))) (.cn E1 (.an (Qhh (l.getD v0.1.toNat 0)) (.lv (Zg9 (l.getD v0.1.toNat 0)) λ(x0:Q0n)=> .lv (Q1n x0) λ(x1:Int×Bool)=> .cn E2 (.nx ((((Els.Nil (Els.ints i64 l)\/rE (1:Nat))/\rE (l:List Int))/\True/\rE ((wrap i64 (v0.1+1)):Int)/\True)/\rE ((v0.2++[x1.1]):List Int)/\True) (Sum.inl (wrap i64 (v0.1+1),v0.2++[x1.1])))))))) (.lf (Sum.inr v0.2))
def Qpb l:=(Qio l).m
abbrev Qml l:=(Qio l).p
def Zcu:LInv:={
 α:=(Int)×(List Int)
 F:=λst a=>([(0,(lk st 0)),(3, .all 0),(4, .int i64 a.1)],[⟨false,25,1, .ints u32 a.2⟩])
 a0:=λst=>((lk st 4).toInt,(Q5e st.rows (rN st 3)))
 ex0:=λst=>[]++[(rX st 3 0)]}
def Z5n:List (Nat×LInv):=[(3,Zcu)]
def Zkc:Q0d:=mT 138 [] true [.one (.ints .i64)] [] (λa r=>Qio (argL .i64 a 0)) (λX=> .all 0) (λX=>[⟨false,25,1, .ints .u32 X⟩])
theorem Zeu:Q06 pG Zkc:=oT (.cons Qkt (.cons Zej (.nil))) Tryz.func138 Tryz.call138 [.row 25 1 (.ints .u32)] Z5n 3
def Qjz(pc:Int):Tree Q05:=
.lf ({X:={a0:=0,a1:=0,a2:=0,a3:=0,a4:=0,a5:=0,a6:=0,a7:=0,a8:=0,a9:=0,a10:=0,a11:=0,a12:=0,a13:=0,a14:=0,a15:=0},Pc:=pc,B6:={a0:=1,a1:=0,a2:=0,a3:=0,a4:=0,a5:=0,a6:=0,a7:=0}})
def Qpr pc:=(Qjz pc).m
def Ze0:Q0d:=mS 127 [] true [.one (.int .u32)] [] (λa r=>Qjz (argI a 0)) (λX=> .agg (Q05.cells X)) (λX=>[])
theorem Zab:Q06 pG Ze0:=oS (.nil) Tryz.func127 Tryz.call127 [] [] 2
def Qf9(pages:Int):Tree (List Int):=
.br (decide (pages<1)) (.lf ([])) (.br (decide (pages>32)) (.lf ([])) (.cn (bT 0 1&&bS 1 1&&List.all [D.int u32 0] D.plain&&decide (0<=wrap i64 (pages*32)/\wrap i64 (pages*32)<=wrap i64 (pages*32)/\wrap i64 (pages*32)<=9223372036854775807/\(↑4:Int)*wrap i64 (pages*32)<=140737488355328)) (.lf (List.replicate (dC (wrap i64 (pages*32))) 0))))
def Qsv pages:=(Qf9 pages).m
abbrev Qgc pages:=(Qf9 pages).p
def Znu:Q0d:=mT 128 [] true [.one (.int .i64)] [] (λa r=>Qf9 (argI a 0)) (λX=> .all 0) (λX=>[⟨false,25,1, .ints .u32 X⟩])
theorem Zho:Q06 pG Znu:=oT (.nil) Tryz.func128 Tryz.call128 [.row 25 1 (.ints .u32)] [] 2
def Q8y(pages blocks:Int)(image:List Int):Tree (Q00×Bool):=
let T1:Tree ((Q00×Bool)):= .lf ({B2:={X:={a0:=0,a1:=0,a2:=0,a3:=0,a4:=0,a5:=0,a6:=0,a7:=0,a8:=0,a9:=0,a10:=0,a11:=0,a12:=0,a13:=0,a14:=0,a15:=0},Pc:=0,B6:={a0:=0,a1:=0,a2:=0,a3:=0,a4:=0,a5:=0,a6:=0,a7:=0}},Mem:=[],A4:={D3:=[]},B0:={D2:=false,C9:=0,D5:=false},B1:={Blocks:=0,C1:=0,Frame:=0,C0:=0,D8:=0,B7:=0,B3:=0,C3:=[]},C4:={Frame:=0,E0:=0,C7:=false,B9:=0,B8:=false,F3:=0},A2:={D0:=0,C2:=0},A1:=0,A7:=false,A9:=false},false); .br (decide (pages<1)) T1 (.br (decide (pages>32)) T1 (.br (decide (blocks<0)) T1 (.br (decide (blocks>64)) T1 (.br (decide ((image.length:Int)>wrap i64 (pages*32))) T1 (.lv (Qpr 0) λ(x0:Q05)=> .an (Qgc pages) (.lv (Qsv pages) λ(x1:List Int)=> .lf ({B2:=x0,Mem:=cY (Min.min (image.length) (x1.length)) image++cZ (Min.min (image.length) (x1.length)) x1,A4:={D3:=[]},B0:={D2:=false,C9:=0,D5:=false},B1:={Blocks:=wrap u32 blocks,C1:=0,Frame:=0,C0:=0,D8:=0,B7:=0,B3:=0,C3:=[]},C4:={Frame:=0,E0:=0,C7:=false,B9:=0,B8:=false,F3:=0},A2:={D0:=0,C2:=0},A1:=0,A7:=false,A9:=false},true)))))))
def Q1x pages blocks image:=(Q8y pages blocks image).m
abbrev Q98 pages blocks image:=(Q8y pages blocks image).p
def Zoy:Q0d:=mT 37 [] true [.one (.int .i64), .one (.int .i64), .one (.ints .u32)] [] (λa r=>Q8y (argI a 0) (argI a 1) (argL .u32 a 2)) (λX=> .tup [.agg (Q00.cellsW (X.1) (.all 0)), .bool (X.2)]) (λX=>[⟨false,25,1, .ints .u32 (X.1).Mem⟩])
theorem Z3w:Q06 pG Zoy:=oT (.cons Zab (.cons Zho (.nil))) Tryz.func37 Tryz.call37 [.row 25 1 (.ints .u32)] [] 2
def Q28(m:Q00):Tree Bool:=
.an (Qc1 m) (.lv (Q2d m) λ(x0:Bool)=> .br (!x0) (.lf false) (.an (Qap m) (.lv (Q0s m) λ(x1:Q00)=> .an (Qkc x1.B2 x1.Mem) (.lv (Q55 x1.B2 x1.Mem) λ(x2:Q05×List Int×Q17)=> .br (x2.2.2.B5==1) (.lf (x2.2.2.D1==2)) (.lf false)))))
def Q2a m:=(Q28 m).m
abbrev Q2u m:=(Q28 m).p
def Qqe:Q0d:=mT 30 [] true [.agg Q00.sig] [] (λa r=>Q28 (Q00.of (aC a 0))) (λX=> .bool X) (λX=>[])
theorem Qoq:Q06 pG Qqe:=oT (.cons Qp (.cons Qn7 (.cons Z2e (.nil)))) Tryz.func30 Tryz.call30 [] [] 2
