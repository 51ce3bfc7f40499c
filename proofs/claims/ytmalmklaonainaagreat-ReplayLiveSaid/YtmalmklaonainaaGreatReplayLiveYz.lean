import Derived.Test.YtmalmklaonainaaGreatReplayLiveFh
import Derived.Test.YtmalmklaonainaaGreatReplayLiveYx
open List renaming take->cY, drop->cZ, length->dH, set->dD, getD->aK
open Int renaming toNat->dC, tmod->dB
open UInt8 renaming toNat->eT
open Nat renaming blt->bT, beq->bS, lt_succ_self->cK
set_option maxRecDepth 100000
set_option linter.all false
namespace Go.Proofs.YtmalmklaonainaaGreat
open Go Go.GD Go.IntKind
noncomputable section
def Q49(m:Q00):Tree Bool:=
.an (Q3o m) (.lv (Q19 m) λ(x0:Bool)=> .br x0 (.br (!m.A9) (.an (Q3r m) (.lv (Q38 m) λ(x1:Bool)=> .br (!x1) (.lf (decide (m.A1<1152921504606846976))) (.lf false))) (.lf false)) (.lf false))
def Q2g m:=(Q49 m).m
abbrev Qcm m:=(Q49 m).p
def Z8c:Q0d:=mT 112 [] true [.agg Q00.sig] [] (λa r=>Q49 (Q00.of (aC a 0))) (λX=> .bool X) (λX=>[])
theorem Qqa:Q06 pG Z8c:=oT (.cons Q91 (.cons Qek (.nil))) Tryz.func112 Tryz.call112 [] [] 2
def Qdc(m:Q00)(z:(Int)):Nat:=(5-z).toNat
def Q2z(m:Q00):Tree Q00:=
let E1:=({B2:=m.B2,Mem:=m.Mem,A6:=m.A6,B0:=m.B0,B1:=m.B1,C5:=m.C5,A4:=m.A4,A1:=m.A1,A7:=false,A9:=m.A9}:Q00); .br (iand u32 m.B2.B6.a0 (2:Int)==(0:Int)) (.lf (E1)) (.an (Qcp E1) (.lv (Q63 E1) λ(x0:Int)=> .lp inferInstance (Qdc m 0+1) ((rZ/\rZ/\rE (x0:Int)/\rE (0:Int)/\True)/\(rE m.B2.X.a0/\rE m.B2.X.a1/\rE m.B2.X.a2/\rE m.B2.X.a3/\rE m.B2.X.a4/\rE m.B2.X.a5/\rE m.B2.X.a6/\rE m.B2.X.a7/\rE m.B2.X.a8/\rE m.B2.X.a9/\rE m.B2.X.a10/\rE m.B2.X.a11/\rE m.B2.X.a12/\rE m.B2.X.a13/\rE m.B2.X.a14/\rE m.B2.X.a15/\rE m.B2.Pc/\rE m.B2.B6.a0/\rE m.B2.B6.a1/\rE m.B2.B6.a2/\rE m.B2.B6.a3/\rE m.B2.B6.a4/\rE m.B2.B6.a5/\rE m.B2.B6.a6/\rE m.B2.B6.a7/\((Els.Nil (Els.ints u32 m.Mem)\/rE (1:Nat))/\rE m.Mem)/\rE m.A6.D3/\rE m.B0.D2/\rE m.B0.C9/\rE m.B0.D5/\rE m.B1.Blocks/\rE m.B1.C2/\rE m.B1.Frame/\rE m.B1.C1/\rE m.B1.D8/\rE m.B1.B7/\rE m.B1.B4/\rE m.B1.C4/\rE m.C5.Frame/\rE m.C5.E0/\rE m.C5.C6/\rE m.C5.B9/\rE m.C5.B8/\rE m.C5.F1/\rE m.A4.D0/\rE m.A4.C3/\rE m.A1/\rE (false:Bool)/\rE m.A9/\True)/\(mE zM True True)/\True) 0 λ(v0:Int)=> .br (decide (v0<5)) (.cn (decide (0<=v0)) (.br (iand u32 x0 (ishl u32 1 v0) !=0) (.lv (Q5 m.B2 (wrap i64 (16+v0)) 0) λ(x1:Q05)=> .lf (Sum.inr {B2:=x1,Mem:=m.Mem,A6:=m.A6,B0:=m.B0,B1:=m.B1,C5:=m.C5,A4:=m.A4,A1:=m.A1,A7:=false,A9:=m.A9})) (.nx ((rZ/\rZ/\rE (x0:Int)/\rE ((wrap i64 (v0+1)):Int)/\True)/\(rE m.B2.X.a0/\rE m.B2.X.a1/\rE m.B2.X.a2/\rE m.B2.X.a3/\rE m.B2.X.a4/\rE m.B2.X.a5/\rE m.B2.X.a6/\rE m.B2.X.a7/\rE m.B2.X.a8/\rE m.B2.X.a9/\rE m.B2.X.a10/\rE m.B2.X.a11/\rE m.B2.X.a12/\rE m.B2.X.a13/\rE m.B2.X.a14/\rE m.B2.X.a15/\rE m.B2.Pc/\rE m.B2.B6.a0/\rE m.B2.B6.a1/\rE m.B2.B6.a2/\rE m.B2.B6.a3/\rE m.B2.B6.a4/\rE m.B2.B6.a5/\rE m.B2.B6.a6/\rE m.B2.B6.a7/\((Els.Nil (Els.ints u32 m.Mem)\/rE (1:Nat))/\rE m.Mem)/\rE m.A6.D3/\rE m.B0.D2/\rE m.B0.C9/\rE m.B0.D5/\rE m.B1.Blocks/\rE m.B1.C2/\rE m.B1.Frame/\rE m.B1.C1/\rE m.B1.D8/\rE m.B1.B7/\rE m.B1.B4/\rE m.B1.C4/\rE m.C5.Frame/\rE m.C5.E0/\rE m.C5.C6/\rE m.C5.B9/\rE m.C5.B8/\rE m.C5.F1/\rE m.A4.D0/\rE m.A4.C3/\rE m.A1/\rE (false:Bool)/\rE m.A9/\True)/\(mE zM True True)/\True) (Sum.inl (wrap i64 (v0+1)))))) (.lf (Sum.inr E1))))
def Q0u m:=(Q2z m).m
abbrev Qau m:=(Q2z m).p
def Z1t:LInv:={
 α:=(Int)
 F:=λst a=>([(1, .ptr 0 0 0),(2, .ptr 1 0 0),(3,(lk st 3)),(15, .int i64 a)],[⟨true,43,49, .gen [mB (cT st 1)]⟩,⟨true,43,49, .gen [mB (cT st 2)]⟩])
 a0:=λst=>(lk st 15).toInt
 ex0:=λst=>[]++[(rX st 1 0),(rX st 2 1)]}
def Qwl:List (Nat×LInv):=[(6,Z1t)]
def Z4r:Q0d:=Q0d.fz<|mkP 113 [] false [.agg Q00.sig] [] (λa r=>Qau (Q00.of (aC a 0))) (λa r=>Q0u (Q00.of (aC a 0))) (λX=> .agg (Q00.cells X)) (λX=>[])
theorem Qoa:Q06 pG Z4r:=Zkv<|Q0p drawn Q0l (.cons Ql0 (.cons Qj4 (.nil))) Tryz.func113 Tryz.call113 (λa r=>Q2z (Q00.of (aC a 0))) [.sl (.ints .u32) false] Qwl 3 (λ_ _ _=>by kernel_rfl) (λ_ _=>rfl) (λ_ _ h=>h) (λh=>by cases h)
def Qan(c:Q0c)(port:Int):Tree (Q0c×Int):=
.br (port==0) (.br (decide (c.D3=[])) (.lf (c,4294967295)) (.cn (decide ((0:Int)<=(0:Int)/\0<(c.D3.length:Int))) (.cn (decide ((0:Int)<=(1:Int)/\1<=(c.D3.length:Int)/\(c.D3.length:Int)<=(c.D3.length:Int))) (.lf ({D3:=cY (dC (c.D3.length:Int)-dC 1) (cZ (dC 1) c.D3)},wrap u32 (↑(eT (c.D3.getD (dC 0) (0:UInt8))):Int)))))) (.br (port==1) (.lf (c,wrap u32 (c.D3.length:Int))) (.lf (c,0)))
def Qqu c port:=(Qan c port).m
theorem Z73(c:Q0c)(port:Int):(Qan c port).p:=by
 unfold Tree.p Qan
 repeat'(first|exact trivial|refine w_br (λ_=> ?_) (λ_=> ?_)|refine w_cn ?_ ?_|refine w_an ?_ ?_|refine w_lv (λ_ _=> ?_)|refine w_nx ?_|refine w_lf ?_|refine And.intro ?_ ?_)
 all_goals(exact fin0)
def Zjg:Q0d:=mS 195 [] true [.agg Q0c.sig, .one (.int .i64)] [] (λa r=>Qan (Q0c.of (aC a 0)) (argI a 1)) (λX=> .tup [.agg (Q0c.cells (X.1)), .int .u32 (X.2)]) (λX=>[])
theorem Zdb:Q06 pG Zjg:=oS (.nil) Tryz.func195 Tryz.call195 [] [] 2 (λ_ _ _=>by kernel_rfl) (λa r=>Z73 (Q0c.of (aC a 0)) (argI a 1)) (λ_ X=>by kernel_rfl)
def Qrf(t:Q0j):Tree Int:=
.br t.D5 (.lf 1) (.lf 0)
def Z2h t:=(Qrf t).m
def Zq8:Q0d:=mS 196 [] true [.agg Q0j.sig] [] (λa r=>Qrf (Q0j.of (aC a 0))) (λX=> .int .u32 X) (λX=>[])
theorem Zmf:Q06 pG Zq8:=oS (.nil) Tryz.func196 Tryz.call196 [] [] 2
def Qvh(d0:Q0g)(port:Int):Tree Int:=
.br (port==4) (.lf d0.C2) (.br (port==5) (.lf d0.Frame) (.br (port==6) (.lf (wrap u32 d0.C1)) (.lf 0)))
def Qyl d0 port:=(Qvh d0 port).m
def qB:Q0d:=mS 197 [] true [.agg Q0g.sig, .one (.int .i64)] [] (λa r=>Qvh (Q0g.of (aC a 0)) (argI a 1)) (λX=> .int .u32 X) (λX=>[])
theorem Zqw:Q06 pG qB:=oS (.nil) Tryz.func197 Tryz.call197 [] [] 2
def Qva(n:Q0r)(port:Int):Tree Int:=
.br (port==7) (.lf n.Frame) (.br (port==8) (.lf n.F1) (.br (port==9) (.br n.C6 (.br n.B8 (.lf (wrap u32 (wrap u32 ((0:Int)+(1:Int))+2))) (.lf (wrap u32 ((0:Int)+(1:Int))))) (.br n.B8 (.lf (wrap u32 ((0:Int)+(2:Int)))) (.lf 0))) (.lf 0)))
def Z5x n port:=(Qva n port).m
def xW:Q0d:=mS 198 [] true [.agg Q0r.sig, .one (.int .i64)] [] (λa r=>Qva (Q0r.of (aC a 0)) (argI a 1)) (λX=> .int .u32 X) (λX=>[])
theorem xB:Q06 pG xW:=oS (.nil) Tryz.func198 Tryz.call198 [] [] 2
def Qdh(b:Q08)(port:Int):Tree Int:=
.br (port==10) (.lf b.D0) (.br (port==11) (.an (Qfw b) (.lv (Qeq b) λ(x0:Int)=> .lf (wrap u32 x0))) (.lf 0))
def Qqx b port:=(Qdh b port).m
abbrev Qs8 b port:=(Qdh b port).p
def Zgv:Q0d:=mT 199 [] true [.agg Q08.sig, .one (.int .i64)] [] (λa r=>Qdh (Q08.of (aC a 0)) (argI a 1)) (λX=> .int .u32 X) (λX=>[])
theorem Zbf:Q06 pG Zgv:=oT (.cons Qol (.nil)) Tryz.func199 Tryz.call199 [] [] 2
def Q3k(m:Q00)(port clock:Int):Tree (Q00×Int):=
let T1:Tree ((Q00×Int)):= .lv (Qqu m.A6 port) λ(x0:Q0c×Int)=> .lf ({B2:=m.B2,Mem:=m.Mem,A6:=x0.1,B0:=m.B0,B1:=m.B1,C5:=m.C5,A4:=m.A4,A1:=m.A1,A7:=m.A7,A9:=m.A9},x0.2); .br (port==0) T1 (.br (port==1) T1 (.br (port==2) (.lf (m,clock)) (.br (port==3) (.lv (Z2h m.B0) λ(x2:Int)=> .lf (m,x2)) (.br (port==4) (.lv (Qyl m.B1 port) λ(x3:Int)=> .lf (m,x3)) (.br (port==5) (.lv (Qyl m.B1 port) λ(x4:Int)=> .lf (m,x4)) (.br (port==6) (.lv (Qyl m.B1 port) λ(x5:Int)=> .lf (m,x5)) (.br (port==7) (.lv (Z5x m.C5 port) λ(x6:Int)=> .lf (m,x6)) (.br (port==8) (.lv (Z5x m.C5 port) λ(x7:Int)=> .lf (m,x7)) (.br (port==9) (.lv (Z5x m.C5 port) λ(x8:Int)=> .lf (m,x8)) (let T2:Tree ((Q00×Int)):= .an (Qs8 m.A4 port) (.lv (Qqx m.A4 port) λ(x9:Int)=> .lf (m,x9)); .br (port==10) T2 (.br (port==11) T2 (.lf (m,0)))))))))))))
def Q16 m port clock:=(Q3k m port clock).m
abbrev Qhy m port clock:=(Q3k m port clock).p
def Qvp:Q0d:=Q0d.fz<|mkP 134 [] false [.agg Q00.sig, .one (.int .i64), .one (.int .u32)] [] (λa r=>Qhy (Q00.of (aC a 0)) (argI a 1) (argI a 2)) (λa r=>Q16 (Q00.of (aC a 0)) (argI a 1) (argI a 2)) (λX=> .tup [.agg (Q00.cells (X.1)), .int .u32 (X.2)]) (λX=>[])
theorem Qto:Q06 pG Qvp:=Zkv<|Q0p drawn Q0l (.cons Zdb (.cons Zmf (.cons Zqw (.cons xB (.cons Zbf (.nil)))))) Tryz.func134 Tryz.call134 (λa r=>Q3k (Q00.of (aC a 0)) (argI a 1) (argI a 2)) [.sl (.ints .u32) false] [] 2 (λ_ _ _=>by kernel_rfl) (λ_ _=>rfl) (λ_ _ h=>h) (λh=>by cases h)
def Qnt(t:Q0j)(deadline:Int):Tree Q0j:=
.lf ({D2:=deadline !=0,C9:=deadline,D5:=false})
def Qmg t deadline:=(Qnt t deadline).m
def Zll:Q0d:=mS 200 [] true [.agg Q0j.sig, .one (.int .u32)] [] (λa r=>Qnt (Q0j.of (aC a 0)) (argI a 1)) (λX=> .agg (Q0j.cells X)) (λX=>[])
theorem Zga:Q06 pG Zll:=oS (.nil) Tryz.func200 Tryz.call200 [] [] 2
def Qeo(m:List Int)(frame:Int):Tree Bool:=
.lv (Q0z m) λ(x0:Int)=> .lf (decide (wrap u64 frame<wrap u64 x0))
def Q9y m frame:=(Qeo m frame).m
def Zdg:Q0d:=mS 193 [] true [.one (.ints .u32), .one (.int .u32)] [] (λa r=>Qeo (argL .u32 a 0) (argI a 1)) (λX=> .bool X) (λX=>[])
theorem Qsj:Q06 pG Zdg:=oS (.cons Q4p (.nil)) Tryz.func193 Tryz.call193 [] [] 2
def Q8x(m:List Int)(frame:Int):Tree Bool:=
.br (decide (frame>=0)) (.lv (Q0z m) λ(x0:Int)=> .lf (decide (frame<x0))) (.lf false)
def Q5k m frame:=(Q8x m frame).m
def Z1:Q0d:=mS 208 [] true [.one (.ints .u32), .one (.int .i64)] [] (λa r=>Q8x (argL .u32 a 0) (argI a 1)) (λX=> .bool X) (λX=>[])
theorem Qmv:Q06 pG Z1:=oS (.cons Q4p (.nil)) Tryz.func208 Tryz.call208 [] [] 2
def Qon(words:List Int)(z:(Int)×(List Int)):Prop:=0<=z.1/\z.1<=words.length/\(z.2.length:Int)=4*z.1
def Q7w(words:List Int)(z:(Int)×(List Int)):Nat:=(words.length-z.1).toNat
def Q5d(words:List Int):Tree (List UInt8):=
.cn (bT 0 1&&bS 1 1&&List.all [D.int u8 0] D.plain&&decide ((0:Int)<=(0:Int)/\0<=wrap i64 (4*(words.length:Int))/\wrap i64 (4*(words.length:Int))<=9223372036854775807/\(↑1:Int)*wrap i64 (4*(words.length:Int))<=140737488355328)) (.lp inferInstance (Q7w words (0,[])+1) ((True/\((Els.Nil (Els.ints u32 words)\/rE (1:Nat))/\rE (words:List Int))/\rE ((words.length:Int):Int)/\rE (0:Int)/\True)/\rE ([]:List Int)/\True) (0,[]) λ(v0:Int×List Int)=> .br (decide (v0.1<(words.length:Int))) (.cn (bS 1 1&&bT 0 1&&decide (0<=v0.1/\v0.1<(words.length:Int))) (.cn (decide (1*(v0.2.length+4)<=140737488355328)) (let E1:=words.getD v0.1.toNat 0; .nx ((True/\((Els.Nil (Els.ints u32 words)\/rE (1:Nat))/\rE (words:List Int))/\rE ((words.length:Int):Int)/\rE ((wrap i64 (v0.1+1)):Int)/\True)/\rE ((v0.2++[wrap u8 (words.getD v0.1.toNat 0),wrap u8 (ishr u32 (words.getD v0.1.toNat 0) 8),wrap u8 (ishr u32 (words.getD v0.1.toNat 0) 16),wrap u8 (ishr u32 (words.getD v0.1.toNat 0) 24)]):List Int)/\True) (Sum.inl (wrap i64 (v0.1+1),v0.2++[wrap u8 E1,wrap u8 (ishr u32 E1 8),wrap u8 (ishr u32 E1 16),wrap u8 (ishr u32 E1 24)]))))) (.lf (Sum.inr (bytesOf v0.2))))
def Z5h words:=(Q5d words).m
def Qem(words:List Int):Prop:=
words.length<=1000000000000
theorem Z6j(words:List Int)(hw:Qem words):(Q5d words).p:=by
 simp only[Qem]at hw
 unfold Tree.p Q5d
 repeat'(first|refine w_lp (inv:=Qon words) (μ:=Q7w words) ?_ (cK _) (λ_ _=> ?_)|exact trivial|refine w_br (λ_=> ?_) (λ_=> ?_)|refine w_cn ?_ ?_|refine w_an ?_ ?_|refine w_lv (λ_ _=> ?_)|refine w_nx ?_|refine w_lf ?_|refine And.intro ?_ ?_)
 all_goals((try simp only[Qon,Q7w]at*);exact fin0)
def Z83:LInv:={
 α:=(Int)×(List Int)
 F:=λst a=>([(3, .all 0),(10,(lk st 10)),(11,(lk st 11)),(12, .int i64 a.1)],[⟨false,5,1, .ints u8 a.2⟩])
 a0:=λst=>((lk st 12).toInt,(Q5t st.rows (rN st 3)))
 ex0:=λst=>[]++[(rX st 3 0)]}
def Z20:List (Nat×LInv):=[(3,Z83)]
def Zbj:Q0d:=mkP 209 [] true [.one (.ints .u32)] [] (λa r=>Qem (argL .u32 a 0)) (λa r=>Z5h (argL .u32 a 0)) (λX=> .str X) (λX=>[])
theorem Z7g:Q06 pG Zbj:=Q0p drawn Q0l (.nil) Tryz.func209 Tryz.call209 (λa r=>Q5d (argL .u32 a 0)) [] Z20 3 (hp:=λa r h=>Z6j (argL .u32 a 0) h)
def Q7b(m:List Int)(frame:Int):Tree ((List UInt8)×Bool):=
.lv (Q5k m frame) λ(x0:Bool)=> .br (!x0) (.lf ([],false)) (.cn (bS 1 1&&bT 0 1&&decide (0<=wrap i64 (frame*32)/\wrap i64 (frame*32)<=wrap i64 (wrap i64 (frame*32)+32)/\wrap i64 (wrap i64 (frame*32)+32)<=(m.length:Int))) (let E1:=cY (dC (wrap i64 (wrap i64 (frame*32)+32))-dC (wrap i64 (frame*32))) (cZ (dC (wrap i64 (frame*32))) m); .an (Qem E1) (.lv (Z5h E1) λ(x1:List UInt8)=> .lf (x1,true))))
def Q69 m frame:=(Q7b m frame).m
abbrev Qep m frame:=(Q7b m frame).p
def Zdz:Q0d:=mT 143 [] true [.one (.ints .u32), .one (.int .i64)] [] (λa r=>Q7b (argL .u32 a 0) (argI a 1)) (λX=> .tup [.str (X.1), .bool (X.2)]) (λX=>[])
theorem Qlk:Q06 pG Zdz:=oT (.cons Qmv (.cons Z7g (.nil))) Tryz.func143 Tryz.call143 [] [] 2
def Qsc(d0:Q0g)(at0:Int):Tree (Q03×Bool):=
.br (d0.C1 !=1) (.lf ({B5:=0,At:=0,C2:=0,C8:=[]},false)) (.br (d0.D8==1) (.lf ({B5:=3,At:=at0,C2:=d0.B7,C8:=[]},true)) (.br (d0.D8==2) (.lf ({B5:=4,At:=at0,C2:=d0.B7,C8:=d0.C4},true)) (.lf ({B5:=0,At:=0,C2:=0,C8:=[]},false))))
def Qle d0 at0:=(Qsc d0 at0).m
def Z80:Q0d:=mS 287 [] true [.agg Q0g.sig, .one (.int .u64)] [] (λa r=>Qsc (Q0g.of (aC a 0)) (argI a 1)) (λX=> .tup [.agg (Q03.cells (X.1)), .bool (X.2)]) (λX=>[])
theorem Z2r:Q06 pG Z80:=oS (.nil) Tryz.func287 Tryz.call287 [] [] 2
def Qdf(d0:Q0g)(m:List Int)(cmd at0:Int):Tree (Q0g×(List Q03)):=
.br (d0.C1 !=0) (.lf (d0,[])) (let T1:Tree ((Q0g×(List Q03))):= .lf ({Blocks:=d0.Blocks,C2:=d0.C2,Frame:=d0.Frame,C1:=3,D8:=d0.D8,B7:=d0.B7,B4:=d0.B4,C4:=d0.C4},[]); .br (decide (d0.C2>=d0.Blocks)) T1 (.lv (Q9y m d0.Frame) λ(x0:Bool)=> .br (!x0) T1 (.br (cmd==2) (.an (Qep m (wrap i64 d0.Frame)) (.lv (Q69 m (wrap i64 d0.Frame)) λ(x1:List UInt8×Bool)=>let E2:=({Blocks:=d0.Blocks,C2:=d0.C2,Frame:=d0.Frame,C1:=1,D8:=cmd,B7:=d0.C2,B4:=d0.Frame,C4:=x1.1}:Q0g); .lv (Qle E2 at0) λ(x2:Q03×Bool)=> .lf (E2,[x2.1]))) (let E3:=({Blocks:=d0.Blocks,C2:=d0.C2,Frame:=d0.Frame,C1:=1,D8:=cmd,B7:=d0.C2,B4:=d0.Frame,C4:=[]}:Q0g); .lv (Qle E3 at0) λ(x3:Q03×Bool)=> .lf (E3,[x3.1])))))
def Qz d0 m cmd at0:=(Qdf d0 m cmd at0).m
abbrev Qsl d0 m cmd at0:=(Qdf d0 m cmd at0).p
def Zgm:Q0d:=mT 251 [] true [.agg Q0g.sig, .one (.ints .u32), .one (.int .i64), .one (.int .u64)] [] (λa r=>Qdf (Q0g.of (aC a 0)) (argL .u32 a 1) (argI a 2) (argI a 3)) (λX=> .tup [.agg (Q0g.cells (X.1)), .sl 4 (.recs .apiOutput (X.2)) true]) (λX=>[])
theorem Zbu:Q06 pG Zgm:=oT (.cons Qsj (.cons Qlk (.cons Z2r (.nil)))) Tryz.func251 Tryz.call251 [.sl (.recs .apiOutput) true] [] 2
def Qio(d0:Q0g)(m:List Int)(port v at0:Int):Tree (Q0g×(List Q03)):=
.br (port==4) (.lf ({Blocks:=d0.Blocks,C2:=v,Frame:=d0.Frame,C1:=d0.C1,D8:=d0.D8,B7:=d0.B7,B4:=d0.B4,C4:=d0.C4},[])) (.br (port==5) (.lf ({Blocks:=d0.Blocks,C2:=d0.C2,Frame:=v,C1:=d0.C1,D8:=d0.D8,B7:=d0.B7,B4:=d0.B4,C4:=d0.C4},[])) (.br (port==6) (let T1:Tree ((Q0g×(List Q03))):= .an (Qsl d0 m (wrap i64 v) at0) (.lv (Qz d0 m (wrap i64 v) at0) λ(x0:Q0g×List Q03)=> .lf (x0.1,x0.2)); .br (v==1) T1 (.br (v==2) T1 (.br (v==0) (.lv (Qaa d0) λ(x2:Bool)=> .br x2 (.lf ({Blocks:=d0.Blocks,C2:=d0.C2,Frame:=d0.Frame,C1:=0,D8:=d0.D8,B7:=d0.B7,B4:=d0.B4,C4:=d0.C4},[])) (.lf (d0,[]))) (.lf (d0,[]))))) (.lf (d0,[]))))
def Z2p d0 m port v at0:=(Qio d0 m port v at0).m
abbrev Qze d0 m port v at0:=(Qio d0 m port v at0).p
def Zrc:Q0d:=mT 201 [] true [.agg Q0g.sig, .one (.ints .u32), .one (.int .i64), .one (.int .u32), .one (.int .u64)] [] (λa r=>Qio (Q0g.of (aC a 0)) (argL .u32 a 1) (argI a 2) (argI a 3) (argI a 4)) (λX=> .tup [.agg (Q0g.cells (X.1)), .sl 4 (.recs .apiOutput (X.2)) true]) (λX=>[])
theorem Zke:Q06 pG Zrc:=oT (.cons Zbu (.cons Qpg (.nil))) Tryz.func201 Tryz.call201 [.sl (.recs .apiOutput) true] [] 2
def Qh2(m:List Int)(frame:Int):Tree Bool:=
.lv (Q0z m) λ(x0:Int)=> .lf (decide (wrap u64 frame<wrap u64 x0))
def Qat m frame:=(Qh2 m frame).m
def Zhe:Q0d:=mS 194 [] true [.one (.ints .u32), .one (.int .u32)] [] (λa r=>Qh2 (argL .u32 a 0) (argI a 1)) (λX=> .bool X) (λX=>[])
theorem Qnp:Q06 pG Zhe:=oS (.cons Q4p (.nil)) Tryz.func194 Tryz.call194 [] [] 2
def Qit(n:Q0r)(m:List Int)(at0:Int):Tree (List Q03):=
.br (decide (n.E0<1)) (.lf ([])) (.br (decide (n.E0>128)) (.lf ([])) (.lv (Qat m n.Frame) λ(x0:Bool)=> .br (!x0) (.lf ([])) (.an (Qep m (wrap i64 n.Frame)) (.lv (Q69 m (wrap i64 n.Frame)) λ(x1:List UInt8×Bool)=> .cn (decide ((0:Int)<=(0:Int)/\0<=n.E0/\n.E0<=(x1.1.length:Int))) (.lf ([{B5:=2,At:=at0,C2:=0,C8:=cY (dC n.E0-dC 0) (cZ (dC 0) x1.1)}]))))))
def Zci n m at0:=(Qit n m at0).m
abbrev Z0o n m at0:=(Qit n m at0).p
def Zr2:Q0d:=mT 252 [] true [.agg Q0r.sig, .one (.ints .u32), .one (.int .u64)] [] (λa r=>Qit (Q0r.of (aC a 0)) (argL .u32 a 1) (argI a 2)) (λX=> .sl 4 (.recs .apiOutput X) true) (λX=>[])
theorem Zla:Q06 pG Zr2:=oT (.cons Qnp (.cons Qlk (.nil))) Tryz.func252 Tryz.call252 [.sl (.recs .apiOutput) true] [] 2
def Qmt(n:Q0r)(m:List Int)(port v at0:Int):Tree (Q0r×(List Q03)):=
.br (port==7) (.lf ({Frame:=v,E0:=n.E0,C6:=n.C6,B9:=n.B9,B8:=n.B8,F1:=n.F1},[])) (.br (port==8) (.lf ({Frame:=n.Frame,E0:=v,C6:=n.C6,B9:=n.B9,B8:=n.B8,F1:=n.F1},[])) (.br (port==9) (.br (v==1) (.an (Z0o n m at0) (.lv (Zci n m at0) λ(x0:List Q03)=> .lf (n,x0))) (.br (v==2) (.lv (Qat m n.Frame) λ(x1:Bool)=> .br x1 (.br (!n.C6) (.br (!n.B8) (.lf ({Frame:=n.Frame,E0:=n.E0,C6:=true,B9:=n.Frame,B8:=n.B8,F1:=n.F1},[])) (.lf (n,[]))) (.lf (n,[]))) (.lf (n,[]))) (.br (v==0) (.lf ({Frame:=n.Frame,E0:=n.E0,C6:=n.C6,B9:=n.B9,B8:=false,F1:=0},[])) (.lf (n,[]))))) (.lf (n,[]))))
def Zcm n m port v at0:=(Qmt n m port v at0).m
abbrev Z5g n m port v at0:=(Qmt n m port v at0).p
def zB:Q0d:=mT 202 [] true [.agg Q0r.sig, .one (.ints .u32), .one (.int .i64), .one (.int .u32), .one (.int .u64)] [] (λa r=>Qmt (Q0r.of (aC a 0)) (argL .u32 a 1) (argI a 2) (argI a 3) (argI a 4)) (λX=> .tup [.agg (Q0r.cells (X.1)), .sl 4 (.recs .apiOutput (X.2)) true]) (λX=>[])
theorem Zqn:Q06 pG zB:=oT (.cons Zla (.cons Qnp (.nil))) Tryz.func202 Tryz.call202 [.sl (.recs .apiOutput) true] [] 2
def Qbs(m:List Int)(frame:Int)(s:List UInt8)(z:(Int)×(List Int)):Nat:=(32-z.1).toNat
def Q3t(m:List Int)(frame:Int)(s:List UInt8):Tree ((List Int)×Bool):=
.an (Q0a m) (.lv (Q04 m) λ(x0:List Int)=> .lv (Q5k m frame) λ(x1:Bool)=> .br (!x1) (.lf (x0,false)) (.br ((s.length:Int) !=(128:Int)) (.lf (x0,false)) (.lp inferInstance (Qbs m frame s (0,x0)+1) ((rE (s:List UInt8)/\True/\rE ((wrap i64 (frame*32)):Int)/\rE (0:Int)/\True)/\rE (x0:List Int)/\True) (0,x0) λ(v0:Int×List Int)=> .br (decide (v0.1<32)) (.cn (decide (0<=wrap i64 (4*v0.1)/\wrap i64 (4*v0.1)<=wrap i64 (wrap i64 (4*v0.1)+4)/\wrap i64 (wrap i64 (4*v0.1)+4)<=(s.length:Int))) (let E1:=cY (dC (wrap i64 (wrap i64 (4*v0.1)+4))-dC (wrap i64 (4*v0.1))) (cZ (dC (wrap i64 (4*v0.1))) s); .cn (decide ((0:Int)<=(0:Int)/\0<(↑(dH E1):Int))) (.cn (decide ((0:Int)<=(1:Int)/\1<(↑(dH E1):Int))) (.cn (decide ((0:Int)<=(2:Int)/\2<(↑(dH E1):Int))) (.cn (decide ((0:Int)<=(3:Int)/\3<(↑(dH E1):Int))) (.cn (bS 1 1&&bT 0 1&&decide (0<=wrap i64 (wrap i64 (frame*32)+v0.1)/\wrap i64 (wrap i64 (frame*32)+v0.1)<(v0.2.length:Int))) (.nx ((rE (s:List UInt8)/\True/\rE ((wrap i64 (frame*32)):Int)/\rE ((wrap i64 (v0.1+1)):Int)/\True)/\rE ((dD v0.2 (dC (wrap i64 (wrap i64 (frame*32)+v0.1))) (ior u32 (ior u32 (ior u32 (wrap u32 (↑(eT (aK (cY (dC (wrap i64 (wrap i64 (4*v0.1)+4))-dC (wrap i64 (4*v0.1))) (cZ (dC (wrap i64 (4*v0.1))) s)) (dC 0) (0:UInt8))):Int)) (ishl u32 (wrap u32 (↑(eT (aK (cY (dC (wrap i64 (wrap i64 (4*v0.1)+4))-dC (wrap i64 (4*v0.1))) (cZ (dC (wrap i64 (4*v0.1))) s)) (dC 1) (0:UInt8))):Int)) 8)) (ishl u32 (wrap u32 (↑(eT (aK (cY (dC (wrap i64 (wrap i64 (4*v0.1)+4))-dC (wrap i64 (4*v0.1))) (cZ (dC (wrap i64 (4*v0.1))) s)) (dC 2) (0:UInt8))):Int)) 16)) (ishl u32 (wrap u32 (↑(eT (aK (cY (dC (wrap i64 (wrap i64 (4*v0.1)+4))-dC (wrap i64 (4*v0.1))) (cZ (dC (wrap i64 (4*v0.1))) s)) (dC 3) (0:UInt8))):Int)) 24))):List Int)/\True) (Sum.inl (wrap i64 (v0.1+1),dD v0.2 (dC (wrap i64 (wrap i64 (frame*32)+v0.1))) (ior u32 (ior u32 (ior u32 (wrap u32 (↑(eT (aK E1 (dC 0) (0:UInt8))):Int)) (ishl u32 (wrap u32 (↑(eT (aK E1 (dC 1) (0:UInt8))):Int)) 8)) (ishl u32 (wrap u32 (↑(eT (aK E1 (dC 2) (0:UInt8))):Int)) 16)) (ishl u32 (wrap u32 (↑(eT (aK E1 (dC 3) (0:UInt8))):Int)) 24))))))))))) (.lf (Sum.inr (v0.2,true))))))
def Q30 m frame s:=(Q3t m frame s).m
abbrev Q9h m frame s:=(Q3t m frame s).p
def Qx9:LInv:={
 α:=(Int)×(List Int)
 F:=λst a=>([(2,(lk st 2)),(8, .all 0),(9,(lk st 9)),(26, .int i64 a.1)],[⟨false,25,1, .ints u32 a.2⟩])
 a0:=λst=>((lk st 26).toInt,(Q5t st.rows (rN st 8)))
 ex0:=λst=>[]++[(rX st 8 0)]}
def Qt6:List (Nat×LInv):=[(6,Qx9)]
def Z1e:Q0d:=mT 144 [] true [.one (.ints .u32), .one (.int .i64), .one (.str)] [] (λa r=>Q3t (argL .u32 a 0) (argI a 1) (argS a 2)) (λX=> .tup [.all 0, .bool (X.2)]) (λX=>[⟨false,25,1, .ints .u32 (X.1)⟩])
theorem Qf6:Q06 pG Z1e:=oT (.cons Q0x (.cons Qmv (.nil))) Tryz.func144 Tryz.call144 [.row 25 1 (.ints .u32)] Qt6 3
def strings_Repeat(s:List UInt8)(count:Int):(List UInt8):=
Lib.repeatL s count.toNat
def Qe(s:List UInt8)(count:Int):Prop:=
0<=count/\count<=9223372036854775807/\s.length*count.toNat<=140737488355328
def Qjn(s:List UInt8)(count:Int):List D:=[.str s, .int .i64 count]
def Qke(s:List UInt8)(count:Int):List Row:=[]
def Qes(X:List UInt8):D:= .str X
def Qeh(X:List UInt8):List Row:=[]
def Qkz:List PT:=[.one (.str), .one (.int .i64)]
def Qko:List RT:=[]
def Qu1(args:List D)(rows:List Row):(List UInt8):=strings_Repeat (argS args 0) (argI args 1)
def Qw0(args:List D)(rows:List Row):Prop:=Qe (argS args 0) (argI args 1)
def Z1c:Q0d:=mkP 253 [] true Qkz Qko Qw0 Qu1 Qes Qeh
theorem Qrv(s:List UInt8)(count:Int)(hw:Qe s count):Q4r pG 253 (Qjn s count) (Qke s count) (Qes (strings_Repeat s count)) (Qeh (strings_Repeat s count)):=by
 exact vc Tryz.strings_Repeat hw.1 hw.2.1 hw.2.2
set_option maxRecDepth 100000 in
theorem Qt0(args:List D)(rows:List Row):Qgz Qkz args 0=Qjn (argS args 0) (argI args 1):=by kernel_rfl
set_option maxRecDepth 100000 in
theorem Qro(args:List D)(rows:List Row):Q6g Qko rows 0=Qke (argS args 0) (argI args 1):=by kernel_rfl
set_option maxRecDepth 100000 in
theorem Qz1(X:List UInt8):(ffB (Qes X)&&ffBR (Qeh X))=true:=by kernel_rfl
theorem Qxz:Q06 pG Z1c:=Z03 Tryz.call253 (λargs rows hp=>by rw[Qt0 args rows,Qro args rows];exact Qrv (argS args 0) (argI args 1) hp) (λ_ X=>Qz1 X)
def Q4a(b:Q08)(m:List Int)(port v:Int):Tree (Q08×(List Int)):=
let T1:Tree ((Q08×(List Int))):= .an (Q0a m) (.lv (Q04 m) λ(x0:List Int)=> .lf (b,x0)); .br (decide (v>=32)) T1 (.cn (decide (0<=v)) (.br (port==10) (.lv (Q0z m) λ(x1:Int)=> .br (decide (wrap i64 v<x1)) (.br (iand u32 b.C3 (ishl u32 1 v)==0) (.an (Qe [(0:UInt8)] 128) (.lv (strings_Repeat [(0:UInt8)] 128) λ(x2:List UInt8)=> .an (Q9h m (wrap i64 v) x2) (.lv (Q30 m (wrap i64 v) x2) λ(x3:List Int×Bool)=> .lf ({D0:=b.D0,C3:=ior u32 b.C3 (ishl u32 1 v)},x3.1)))) T1) T1) (.br (port==11) (.an (Q0a m) (.lv (Q04 m) λ(x6:List Int)=> .lf ({D0:=b.D0,C3:=Qie u32 b.C3 (ishl u32 1 v)},x6))) T1)))
def Q8j b m port v:=(Q4a b m port v).m
abbrev Qq5 b m port v:=(Q4a b m port v).p
def Zd8:Q0d:=mT 203 [] true [.agg Q08.sig, .one (.ints .u32), .one (.int .i64), .one (.int .u32)] [] (λa r=>Q4a (Q08.of (aC a 0)) (argL .u32 a 1) (argI a 2) (argI a 3)) (λX=> .tup [.agg (Q08.cells (X.1)), .all 0]) (λX=>[⟨false,25,1, .ints .u32 (X.2)⟩])
theorem Z6y:Q06 pG Zd8:=oT (.cons Q0x (.cons Q4p (.cons Qf6 (.cons Qxz (.nil))))) Tryz.func203 Tryz.call203 [.row 25 1 (.ints .u32)] [] 2
def Q3z(m:Q00)(port v at0:Int):Tree (Q00×(List Q03)):=
.br (port==0) (.lf (m,[{B5:=1,At:=at0,C2:=0,C8:=[(λ(n:Int)=>UInt8.ofNat n.toNat) (wrap u8 v)]}])) (.br (port==3) (.lv (Qmg m.B0 v) λ(x0:Q0j)=> .lf ({B2:=m.B2,Mem:=m.Mem,A6:=m.A6,B0:=x0,B1:=m.B1,C5:=m.C5,A4:=m.A4,A1:=m.A1,A7:=m.A7,A9:=m.A9},[])) (let T1:Tree ((Q00×(List Q03))):= .an (Qze m.B1 m.Mem port v at0) (.lv (Z2p m.B1 m.Mem port v at0) λ(x1:Q0g×List Q03)=> .lf ({B2:=m.B2,Mem:=m.Mem,A6:=m.A6,B0:=m.B0,B1:=x1.1,C5:=m.C5,A4:=m.A4,A1:=m.A1,A7:=m.A7,A9:=m.A9},x1.2)); .br (port==4) T1 (.br (port==5) T1 (.br (port==6) T1 (let T2:Tree ((Q00×(List Q03))):= .an (Z5g m.C5 m.Mem port v at0) (.lv (Zcm m.C5 m.Mem port v at0) λ(x4:Q0r×List Q03)=> .lf ({B2:=m.B2,Mem:=m.Mem,A6:=m.A6,B0:=m.B0,B1:=m.B1,C5:=x4.1,A4:=m.A4,A1:=m.A1,A7:=m.A7,A9:=m.A9},x4.2)); .br (port==7) T2 (.br (port==8) T2 (.br (port==9) T2 (let T3:Tree ((Q00×(List Q03))):= .an (Qq5 m.A4 m.Mem port v) (.lv (Q8j m.A4 m.Mem port v) λ(x7:Q08×List Int)=> .lf ({B2:=m.B2,Mem:=x7.2,A6:=m.A6,B0:=m.B0,B1:=m.B1,C5:=m.C5,A4:=x7.1,A1:=m.A1,A7:=m.A7,A9:=m.A9},[])); .br (port==10) T3 (.br (port==11) T3 (.lf (m,[])))))))))))
def Q2p m port v at0:=(Q3z m port v at0).m
abbrev Qgc m port v at0:=(Q3z m port v at0).p
def Qt5:Q0d:=Q0d.fz<|mkP 135 [] false [.agg Q00.sig, .one (.int .i64), .one (.int .u32), .one (.int .u64)] [] (λa r=>Qgc (Q00.of (aC a 0)) (argI a 1) (argI a 2) (argI a 3)) (λa r=>Q2p (Q00.of (aC a 0)) (argI a 1) (argI a 2) (argI a 3)) (λX=> .tup [.agg (Q00.cells (X.1)), .sl 4 (.recs .apiOutput (X.2)) true]) (λX=>[])
theorem Qry:Q06 pG Qt5:=Zkv<|Q0p drawn Q0l (.cons Zga (.cons Zke (.cons Zqn (.cons Z6y (.nil))))) Tryz.func135 Tryz.call135 (λa r=>Q3z (Q00.of (aC a 0)) (argI a 1) (argI a 2) (argI a 3)) [.sl (.ints .u32) false, .sl (.recs .apiOutput) true] [] 2 (λ_ _ _=>by kernel_rfl) (λ_ _=>rfl) (λ_ _ h=>h) (λh=>by cases h)
def Q2y(m:Q00)(clock:Int):Tree (Q00×(List Q03)):=
.an (Q0a m.Mem) (.lv (Q04 m.Mem) λ(x0:List Int)=>let E1:=({B2:=m.B2,Mem:=x0,A6:=m.A6,B0:=m.B0,B1:=m.B1,C5:=m.C5,A4:=m.A4,A1:=m.A1,A7:=m.A7,A9:=m.A9}:Q00); .an (Qcm E1) (.lv (Q2g E1) λ(x1:Bool)=> .br (!x1) (.lf (E1,[])) (.an (Qau E1) (.lv (Q0u E1) λ(x2:Q00)=> .an (Ql7 x2.B2 x2.Mem) (.lv (Q5b x2.B2 x2.Mem) λ(x3:Q05×List Int×Q17)=>let E2:=({B2:=x3.1,Mem:=x3.2.1,A6:=x2.A6,B0:=x2.B0,B1:=x2.B1,C5:=x2.C5,A4:=x2.A4,A1:=x2.A1,A7:=x2.A7,A9:=x2.A9}:Q00); .br (x3.2.2.B5==1) (.an (Qhy E2 x3.2.2.D1 clock) (.lv (Q16 E2 x3.2.2.D1 clock) λ(x4:Q00×Int)=> .br (x3.2.2.D9 !=0) (.cn (bT 0 1&&decide (0<=x3.2.2.D9/\x3.2.2.D9<(↑16:Int))) (.lf ({B2:={X:=A16.of 0 (dD (A16.l x4.1.B2.X) x3.2.2.D9.toNat x4.2),Pc:=x4.1.B2.Pc,B6:=x4.1.B2.B6},Mem:=x4.1.Mem,A6:=x4.1.A6,B0:=x4.1.B0,B1:=x4.1.B1,C5:=x4.1.C5,A4:=x4.1.A4,A1:=wrap u64 (x4.1.A1+1),A7:=x4.1.A7,A9:=x4.1.A9},[]))) (.lf ({B2:=x4.1.B2,Mem:=x4.1.Mem,A6:=x4.1.A6,B0:=x4.1.B0,B1:=x4.1.B1,C5:=x4.1.C5,A4:=x4.1.A4,A1:=wrap u64 (x4.1.A1+1),A7:=x4.1.A7,A9:=x4.1.A9},[])))) (.br (x3.2.2.B5==2) (.an (Qgc E2 x3.2.2.D1 x3.2.2.Value m.A1) (.lv (Q2p E2 x3.2.2.D1 x3.2.2.Value m.A1) λ(x5:Q00×List Q03)=> .lf ({B2:=x5.1.B2,Mem:=x5.1.Mem,A6:=x5.1.A6,B0:=x5.1.B0,B1:=x5.1.B1,C5:=x5.1.C5,A4:=x5.1.A4,A1:=wrap u64 (x5.1.A1+1),A7:=x5.1.A7,A9:=x5.1.A9},x5.2))) (.br (x3.2.2.B5==3) (.lf ({B2:=x3.1,Mem:=x3.2.1,A6:=x2.A6,B0:=x2.B0,B1:=x2.B1,C5:=x2.C5,A4:=x2.A4,A1:=wrap u64 (x2.A1+1),A7:=true,A9:=x2.A9},[])) (.br (x3.2.2.B5==4) (.lf ({B2:=x3.1,Mem:=x3.2.1,A6:=x2.A6,B0:=x2.B0,B1:=x2.B1,C5:=x2.C5,A4:=x2.A4,A1:=wrap u64 (x2.A1+1),A7:=x2.A7,A9:=true},[])) (.lf ({B2:=x3.1,Mem:=x3.2.1,A6:=x2.A6,B0:=x2.B0,B1:=x2.B1,C5:=x2.C5,A4:=x2.A4,A1:=wrap u64 (x2.A1+1),A7:=x2.A7,A9:=x2.A9},[]))))))))))
def Q1z m clock:=(Q2y m clock).m
abbrev Q2l m clock:=(Q2y m clock).p
def Z82:Q0d:=Q0d.fz<|mkP 39 [] false [.agg Q00.sig, .one (.int .u32)] [] (λa r=>Q2l (Q00.of (aC a 0)) (argI a 1)) (λa r=>Q1z (Q00.of (aC a 0)) (argI a 1)) (λX=> .tup [.agg (Q00.cells (X.1)), .sl 4 (.recs .apiOutput (X.2)) false]) (λX=>[])
theorem Qkh:Q06 pG Z82:=Zkv<|Q0p drawn Q0l (.cons Q0x (.cons Qqa (.cons Qoa (.cons Z3i (.cons Qto (.cons Qry (.nil))))))) Tryz.func39 Tryz.call39 (λa r=>Q2y (Q00.of (aC a 0)) (argI a 1)) [.sl (.ints .u32) false, .sl (.recs .apiOutput) false] [] 2 (λ_ _ _=>by kernel_rfl) (λ_ _=>rfl) (λ_ _ h=>h) (λh=>by cases h)
end
noncomputable section
def Z43(op:Int):Tree Int:=
let T1:Tree (Int):= .br (op==49) (.lf 3) (let T2:Tree (Int):= .br (op==24) (.lf 6) (.br (op==48) (.lf 7) (.br (op==58) (.lf 8) (.br (op==59) (.lf 8) (.br (op==60) (.lf 9) (.br (op==61) (.lf 9) (.br (op==56) (.lf 1) (.br (op==57) (.lf 1) (.br (decide (op>=62)) (.br (decide (op<=64)) (.lf 1) (.lf 0)) (.lf 0))))))))); .br (decide (op>=17)) (.br (decide (op<=19)) (.lf 4) (.br (decide (op>=20)) (.br (decide (op<=22)) (.lf 5) T2) T2)) (.br (decide (op>=20)) (.br (decide (op<=22)) (.lf 5) T2) T2));let T3:Tree (Int):= .br (op==16) (.lf 3) (.br (op==23) (.lf 3) (.br (decide (op>=32)) (.br (decide (op<=36)) (.lf 3) (.br (decide (op>=40)) (.br (decide (op<=45)) (.lf 3) T1) T1)) (.br (decide (op>=40)) (.br (decide (op<=45)) (.lf 3) T1) T1))); .br (decide (op>=1)) (.br (decide (op<=13)) (.lf 2) T3) T3
def Q2i op:=(Z43 op).m
def Zl3:Q0d:=mS 191 [] true [.one (.int .i64)] [] (λa r=>Z43 (argI a 0)) (λX=> .int .i64 X) (λX=>[])
theorem Qgi:Q06 pG Zl3:=oS (.nil) Tryz.func191 Tryz.call191 [] [] 2
def Qe2(r:Int):Tree Bool:=
.br (decide (r>=0)) (.lf (decide (r<=15))) (.lf false)
def Q8f r:=(Qe2 r).m
def Z5e:Q0d:=mS 225 [] true [.one (.int .i64)] [] (λa r=>Qe2 (argI a 0)) (λX=> .bool X) (λX=>[])
theorem Z0z:Q06 pG Z5e:=oS (.nil) Tryz.func225 Tryz.call225 [] [] 2
def Qnz(f:Int):Tree (Int×Int):=
.br (f==3) (.lf ((-32768),32767)) (.br (f==7) (.lf ((-32768),32767)) (.br (f==4) (.lf (0,65535)) (.br (f==6) (.lf (0,65535)) (.br (f==5) (.lf (0,31)) (.br (f==8) (.lf (0,7)) (.br (f==9) (.lf (0,11)) (.lf (0,0))))))))
def Qne f:=(Qnz f).m
def Zdq:Q0d:=mS 192 [] true [.one (.int .i64)] [] (λa r=>Qnz (argI a 0)) (λX=> .tup [.int .i64 (X.1), .int .i64 (X.2)]) (λX=>[])
theorem Qs1:Q06 pG Zdq:=oS (.nil) Tryz.func192 Tryz.call192 [] [] 2
def Qgy(i:Q0o):Tree Bool:=
.lv (Q2i i.Op) λ(x0:Int)=> .br (x0==0) (.lf false) (.lv (Q8f i.A) λ(x1:Bool)=> .br (!x1) (.lf false) (.lv (Q8f i.B) λ(x2:Bool)=> .br (!x2) (.lf false) (.lv (Q8f i.C) λ(x3:Bool)=> .br (!x3) (.lf false) (.lv (Qne x0) λ(x4:Int×Int)=> .br (decide (wrap i64 i.Imm<x4.1)) (.lf false) (.br (decide (wrap i64 i.Imm>x4.2)) (.lf false) (let T1:Tree (Bool):= .br (x0==1) (.br (i.A !=0) (.lf false) (.br (i.B==0) (.lf true) (.br (decide (x0>=2)) (.lf (decide (x0<=5))) (.lf false)))) (.br (i.B==0) (.lf true) (.br (decide (x0>=2)) (.lf (decide (x0<=5))) (.lf false))); .br (x0 !=2) (.br (i.C !=0) (.lf false) T1) T1))))))
def Q85 i:=(Qgy i).m
def Ziw:Q0d:=mS 167 [] true [.agg Q0o.sig] [] (λa r=>Qgy (Q0o.of (aC a 0))) (λX=> .bool X) (λX=>[])
theorem Qvx:Q06 pG Ziw:=oS (.cons Qgi (.cons Z0z (.cons Qs1 (.nil)))) Tryz.func167 Tryz.call167 [] [] 2
def Qi9(i:Q0o):Tree (Int×Bool):=
.lv (Q85 i) λ(x0:Bool)=> .br (!x0) (.lf (0,false)) (.lf (ior u32 (ior u32 (ior u32 (ior u32 (ishl u32 (wrap u32 i.Op) 24) (ishl u32 (wrap u32 i.A) 20)) (ishl u32 (wrap u32 i.B) 16)) (iand u32 (wrap u32 i.Imm) 65535)) (wrap u32 i.C),true))
def Q1p i:=(Qi9 i).m
def Zef:Q0d:=mS 82 [] true [.agg Q0o.sig] [] (λa r=>Qi9 (Q0o.of (aC a 0))) (λX=> .tup [.int .u32 (X.1), .bool (X.2)]) (λX=>[])
theorem Qlo:Q06 pG Zef:=oS (.cons Qvx (.nil)) Tryz.func82 Tryz.call82 [] [] 2
def Z9w:Tree (List Int):=
.lf ([1,2,3,4,5,6,7,8,9,10,11,12,13,16,16,17,18,19,20,21,22,23,24,24,32,32,33,34,35,35,36,40,41,42,43,44,45,48,49,56,57,58,59,60,60,61,61,62,63,64])
def Zcw:(List Int):=(Z9w).m
def Zp5:Q0d:=mS 168 [] true [] [] (λa r=>Z9w) (λX=> .sl 1 (.ints .i64 X) true) (λX=>[])
theorem Zkf:Q06 pG Zp5:=oS (.nil) Tryz.func168 Tryz.call168 [.sl (.ints .i64) true] [] 2
def Z4h(seed:Int):Tree (Int×Int):=
let E1:=wrap u64 (ixor u64 (wrap u64 (seed+11400714819323198485)) (ishr u64 (wrap u64 (seed+11400714819323198485)) 30)*13787848793156543929);let E2:=wrap u64 (ixor u64 E1 (ishr u64 E1 27)*10723151780598845931); .lf (ixor u64 E2 (ishr u64 E2 31),wrap u64 (seed+11400714819323198485))
def Zjj seed:=(Z4h seed).m
def Zlt:Q0d:=mS 162 [] true [.one (.int .u64)] [] (λa r=>Z4h (argI a 0)) (λX=> .tup [.int .u64 (X.1), .int .u64 (X.2)]) (λX=>[])
theorem Zep:Q06 pG Zlt:=oS (.nil) Tryz.func162 Tryz.call162 [] [] 2
def Qr0(n k:Int):Tree Int:=
.lv (Zjj (ixor u64 (wrap u64 n) (wrap u64 (wrap u64 k*11400714819323198485)))) λ(x0:Int×Int)=> .lf (wrap i64 (ishr u64 x0.1 1))
def Q3n n k:=(Qr0 n k).m
def Zqf:Q0d:=mS 77 [] true [.one (.int .i64), .one (.int .i64)] [] (λa r=>Qr0 (argI a 0) (argI a 1)) (λX=> .int .i64 X) (λX=>[])
theorem Qnm:Q06 pG Zqf:=oS (.cons Zep (.nil)) Tryz.func77 Tryz.call77 [] [] 2
def Qq3(n k:Int):Tree Int:=
.cn (decide (k≠0)) (.br (decide (dB n k<0)) (.lf (wrap i64 (dB n k+k))) (.lf (dB n k)))
def Q4y n k:=(Qq3 n k).m
abbrev Q4b n k:=(Qq3 n k).p
def Zfx:Q0d:=mT 50 [] true [.one (.int .i64), .one (.int .i64)] [] (λa r=>Qq3 (argI a 0) (argI a 1)) (λX=> .int .i64 X) (λX=>[])
theorem Qo2:Q06 pG Zfx:=oT (.nil) Tryz.func50 Tryz.call50 [] [] 2
def Qnb(n:Int):Tree Q0o:=
.lv Zcw λ(x0:List Int)=> .lv (Q3n n 1) λ(x1:Int)=> .an (Q4b x1 (x0.length:Int)) (.lv (Q4y x1 (x0.length:Int)) λ(x2:Int)=> .cn (bS 1 1&&bT 0 1&&decide (0<=x2/\x2<(x0.length:Int))) (.an (Q4b (ishr i64 x1 8) 6) (.lv (Q4y (ishr i64 x1 8) 6) λ(x3:Int)=> .an (Q4b (ishr i64 x1 12) 6) (.lv (Q4y (ishr i64 x1 12) 6) λ(x4:Int)=> .an (Q4b (ishr i64 x1 16) 6) (.lv (Q4y (ishr i64 x1 16) 6) λ(x5:Int)=> .an (Q4b (ishr i64 x1 20) 24) (.lv (Q4y (ishr i64 x1 20) 24) λ(x6:Int)=> .br (decide (x0.getD x2.toNat (0:Int)<=(13:Int))) (.lf ({Op:=x0.getD x2.toNat 0,A:=x3,B:=x4,C:=x5,Imm:=0})) (let E4:=({Op:=x0.getD x2.toNat 0,A:=x3,B:=x4,C:=0,Imm:=wrap i32 (wrap i64 (wrap i64 (8*x6)-32))}:Q0o);let T1:Tree (Q0o):= .br (x0.getD x2.toNat (0:Int)==(49:Int)) (.lf (E4)) (.br (x0.getD x2.toNat (0:Int)==(24:Int)) (.lf ({Op:=x0.getD x2.toNat 0,A:=x3,B:=0,C:=0,Imm:=wrap i32 (wrap i64 (x6*iand i64 (ishr i64 x1 40) 1))})) (let T2:Tree (Q0o):=let E6:=({Op:=x0.getD x2.toNat 0,A:=x3,B:=0,C:=0,Imm:=wrap i32 (dB x6 8)}:Q0o); .br (x0.getD x2.toNat (0:Int)==(58:Int)) (.lf (E6)) (.br (x0.getD x2.toNat (0:Int)==(59:Int)) (.lf (E6)) (let E5:=({Op:=x0.getD x2.toNat 0,A:=x3,B:=0,C:=0,Imm:=wrap i32 (dB x6 12)}:Q0o); .br (x0.getD x2.toNat (0:Int)==(60:Int)) (.lf (E5)) (.br (x0.getD x2.toNat (0:Int)==(61:Int)) (.lf (E5)) (.lf ({Op:=x0.getD x2.toNat 0,A:=0,B:=0,C:=0,Imm:=0}))))); .br (decide (x0.getD x2.toNat (0:Int)>=(17:Int))) (.br (decide (x0.getD x2.toNat (0:Int)<=(22:Int))) (.lf ({Op:=x0.getD x2.toNat 0,A:=x3,B:=x4,C:=0,Imm:=wrap i32 x6})) T2) T2));let T3:Tree (Q0o):= .br (x0.getD x2.toNat (0:Int)==(16:Int)) (.lf (E4)) (.br (x0.getD x2.toNat (0:Int)==(23:Int)) (.lf (E4)) (.br (decide (x0.getD x2.toNat (0:Int)>=(32:Int))) (.br (decide (x0.getD x2.toNat (0:Int)<=(36:Int))) (.lf (E4)) T1) T1)); .br (decide (x0.getD x2.toNat (0:Int)>=(40:Int))) (.br (decide (x0.getD x2.toNat (0:Int)<=(48:Int))) (.br (x0.getD x2.toNat (0:Int)==(48:Int)) (.lf ({Op:=x0.getD x2.toNat 0,A:=x3,B:=0,C:=0,Imm:=wrap i32 (wrap i64 (x6-12))})) (.lf ({Op:=x0.getD x2.toNat 0,A:=x3,B:=x4,C:=0,Imm:=wrap i32 (wrap i64 (x6-12))}))) T3) T3)))))))
def Zhn n:=(Qnb n).m
abbrev Qic n:=(Qnb n).p
def Zmc:Q0d:=mT 83 [] true [.one (.int .i64)] [] (λa r=>Qnb (argI a 0)) (λX=> .agg (Q0o.cells X)) (λX=>[])
theorem Zit:Q06 pG Zmc:=oT (.cons Zkf (.cons Qnm (.cons Qo2 (.nil)))) Tryz.func83 Tryz.call83 [] [] 2
def Qsd(l:List Int)(z:(Int)×(List Int)):Prop:=0<=z.1/\z.1<=l.length/\(z.2.length:Int)=z.1
def Qe7(l:List Int)(z:(Int)×(List Int)):Nat:=(l.length-z.1).toNat
def Qkl(l:List Int):Tree (List Int):=
.lp inferInstance (Qe7 l (0,[])+1) ((((Els.Nil (Els.ints i64 l)\/rE (1:Nat))/\rE (l:List Int))/\True/\rE (0:Int)/\True)/\rE ([]:List Int)/\True) (0,[]) λ(v0:Int×List Int)=> .br (decide (v0.1<(l.length:Int))) (let E1:=bS 1 1&&bT 0 1&&decide (0<=v0.1/\v0.1<(l.length:Int)); .cn E1 (let E2:=decide (4*(v0.2.length+1)<=140737488355328); .br (dB (l.getD v0.1.toNat 0) (17:Int)==(0:Int)) (.cn E1 (.cn E2 (.nx ((((Els.Nil (Els.ints i64 l)\/rE (1:Nat))/\rE (l:List Int))/\True/\rE ((wrap i64 (v0.1+1)):Int)/\True)/\rE ((v0.2++[wrap u32 (iand i64 (l.getD v0.1.toNat 0) 4294967295)]):List Int)/\True) (Sum.inl (wrap i64 (v0.1+1),v0.2++[wrap u32 (iand i64 (l.getD v0.1.toNat 0) 4294967295)]))))) (.cn E1 (.an (Qic (l.getD v0.1.toNat 0)) (.lv (Zhn (l.getD v0.1.toNat 0)) λ(x0:Q0o)=> .lv (Q1p x0) λ(x1:Int×Bool)=> .cn E2 (.nx ((((Els.Nil (Els.ints i64 l)\/rE (1:Nat))/\rE (l:List Int))/\True/\rE ((wrap i64 (v0.1+1)):Int)/\True)/\rE ((v0.2++[x1.1]):List Int)/\True) (Sum.inl (wrap i64 (v0.1+1),v0.2++[x1.1])))))))) (.lf (Sum.inr v0.2))
def Qq0 l:=(Qkl l).m
abbrev Qnj l:=(Qkl l).p
def Zf4:LInv:={
 α:=(Int)×(List Int)
 F:=λst a=>([(0,(lk st 0)),(3, .all 0),(4, .int i64 a.1)],[⟨false,25,1, .ints u32 a.2⟩])
 a0:=λst=>((lk st 4).toInt,(Q5t st.rows (rN st 3)))
 ex0:=λst=>[]++[(rX st 3 0)]}
def Z7n:List (Nat×LInv):=[(3,Zf4)]
def Zk7:Q0d:=mT 138 [] true [.one (.ints .i64)] [] (λa r=>Qkl (argL .i64 a 0)) (λX=> .all 0) (λX=>[⟨false,25,1, .ints .u32 X⟩])
theorem Zgx:Q06 pG Zk7:=oT (.cons Qlo (.cons Zit (.nil))) Tryz.func138 Tryz.call138 [.row 25 1 (.ints .u32)] Z7n 3
def Ql(pc:Int):Tree Q05:=
.lf ({X:={a0:=0,a1:=0,a2:=0,a3:=0,a4:=0,a5:=0,a6:=0,a7:=0,a8:=0,a9:=0,a10:=0,a11:=0,a12:=0,a13:=0,a14:=0,a15:=0},Pc:=pc,B6:={a0:=1,a1:=0,a2:=0,a3:=0,a4:=0,a5:=0,a6:=0,a7:=0}})
def Qrj pc:=(Ql pc).m
def Zi1:Q0d:=mS 127 [] true [.one (.int .u32)] [] (λa r=>Ql (argI a 0)) (λX=> .agg (Q05.cells X)) (λX=>[])
theorem Zbs:Q06 pG Zi1:=oS (.nil) Tryz.func127 Tryz.call127 [] [] 2
def Qfv(pages:Int):Tree (List Int):=
.br (decide (pages<1)) (.lf ([])) (.br (decide (pages>32)) (.lf ([])) (.cn (bT 0 1&&bS 1 1&&List.all [D.int u32 0] D.plain&&decide (0<=wrap i64 (pages*32)/\wrap i64 (pages*32)<=wrap i64 (pages*32)/\wrap i64 (pages*32)<=9223372036854775807/\(↑4:Int)*wrap i64 (pages*32)<=140737488355328)) (.lf (List.replicate (dC (wrap i64 (pages*32))) 0))))
def Qv5 pages:=(Qfv pages).m
abbrev Qgm pages:=(Qfv pages).p
def Zpy:Q0d:=mT 128 [] true [.one (.int .i64)] [] (λa r=>Qfv (argI a 0)) (λX=> .all 0) (λX=>[⟨false,25,1, .ints .u32 X⟩])
theorem Zkd:Q06 pG Zpy:=oT (.nil) Tryz.func128 Tryz.call128 [.row 25 1 (.ints .u32)] [] 2
def Q90(pages blocks:Int)(image:List Int):Tree (Q00×Bool):=
let T1:Tree ((Q00×Bool)):= .lf ({B2:={X:={a0:=0,a1:=0,a2:=0,a3:=0,a4:=0,a5:=0,a6:=0,a7:=0,a8:=0,a9:=0,a10:=0,a11:=0,a12:=0,a13:=0,a14:=0,a15:=0},Pc:=0,B6:={a0:=0,a1:=0,a2:=0,a3:=0,a4:=0,a5:=0,a6:=0,a7:=0}},Mem:=[],A6:={D3:=[]},B0:={D2:=false,C9:=0,D5:=false},B1:={Blocks:=0,C2:=0,Frame:=0,C1:=0,D8:=0,B7:=0,B4:=0,C4:=[]},C5:={Frame:=0,E0:=0,C6:=false,B9:=0,B8:=false,F1:=0},A4:={D0:=0,C3:=0},A1:=0,A7:=false,A9:=false},false); .br (decide (pages<1)) T1 (.br (decide (pages>32)) T1 (.br (decide (blocks<0)) T1 (.br (decide (blocks>64)) T1 (.br (decide ((image.length:Int)>wrap i64 (pages*32))) T1 (.lv (Qrj 0) λ(x0:Q05)=> .an (Qgm pages) (.lv (Qv5 pages) λ(x1:List Int)=> .lf ({B2:=x0,Mem:=cY (Min.min (image.length) (x1.length)) image++cZ (Min.min (image.length) (x1.length)) x1,A6:={D3:=[]},B0:={D2:=false,C9:=0,D5:=false},B1:={Blocks:=wrap u32 blocks,C2:=0,Frame:=0,C1:=0,D8:=0,B7:=0,B4:=0,C4:=[]},C5:={Frame:=0,E0:=0,C6:=false,B9:=0,B8:=false,F1:=0},A4:={D0:=0,C3:=0},A1:=0,A7:=false,A9:=false},true)))))))
def Q21 pages blocks image:=(Q90 pages blocks image).m
abbrev Qa1 pages blocks image:=(Q90 pages blocks image).p
def Zow:Q0d:=mT 37 [] true [.one (.int .i64), .one (.int .i64), .one (.ints .u32)] [] (λa r=>Q90 (argI a 0) (argI a 1) (argL .u32 a 2)) (λX=> .tup [.agg (Q00.cellsW (X.1) (.all 0)), .bool (X.2)]) (λX=>[⟨false,25,1, .ints .u32 (X.1).Mem⟩])
theorem Z6f:Q06 pG Zow:=oT (.cons Zbs (.cons Zkd (.nil))) Tryz.func37 Tryz.call37 [.row 25 1 (.ints .u32)] [] 2
def Qjp(a b:List Int)(z:(Int)):Prop:=0<=z/\z<=a.length/\a.length=b.length
def Q57(a b:List Int)(z:(Int)):Nat:=(a.length-z).toNat
def Q8t(a b:List Int):Tree Bool:=
.br ((a.length:Int) !=(b.length:Int)) (.lf false) (.lp inferInstance (Q57 a b 0+1) ((((Els.Nil (Els.ints u32 a)\/rE (1:Nat))/\rE (a:List Int))/\((Els.Nil (Els.ints u32 b)\/rE (1:Nat))/\rE (b:List Int))/\rE (0:Int)/\True)/\True) 0 λ(v0:Int)=> .br (decide (v0<(a.length:Int))) (.cn (bS 1 1&&bT 0 1&&decide (0<=v0/\v0<(a.length:Int))) (.cn (bS 1 1&&bT 0 1&&decide (0<=v0/\v0<(b.length:Int))) (.br (a.getD v0.toNat 0 !=b.getD v0.toNat 0) (.lf (Sum.inr false)) (.nx ((((Els.Nil (Els.ints u32 a)\/rE (1:Nat))/\rE (a:List Int))/\((Els.Nil (Els.ints u32 b)\/rE (1:Nat))/\rE (b:List Int))/\rE ((wrap i64 (v0+1)):Int)/\True)/\True) (Sum.inl (wrap i64 (v0+1))))))) (.lf (Sum.inr true)))
def Qg2 a b:=(Q8t a b).m
def Q9k(a b:List Int):Prop:=
a.length<=1000000000000
theorem Qwf(a b:List Int)(hw:Q9k a b):(Q8t a b).p:=by
 simp only[Q9k]at hw
 unfold Tree.p Q8t
 repeat'(first|refine w_lp (inv:=Qjp a b) (μ:=Q57 a b) ?_ (cK _) (λ_ _=> ?_)|exact trivial|refine w_br (λ_=> ?_) (λ_=> ?_)|refine w_cn ?_ ?_|refine w_an ?_ ?_|refine w_lv (λ_ _=> ?_)|refine w_nx ?_|refine w_lf ?_|refine And.intro ?_ ?_)
 all_goals((try simp only[Qjp,Q57]at*);exact fin0)
def Qym:LInv:={
 α:=(Int)
 F:=λst a=>([(0,(lk st 0)),(1,(lk st 1)),(5, .int i64 a)],[])
 a0:=λst=>(lk st 5).toInt
 ex0:=λst=>[]++[]}
def Qsu:List (Nat×LInv):=[(4,Qym)]
def Z1z:Q0d:=mkP 49 [] true [.one (.ints .u32), .one (.ints .u32)] [] (λa r=>Q9k (argL .u32 a 0) (argL .u32 a 1)) (λa r=>Qg2 (argL .u32 a 0) (argL .u32 a 1)) (λX=> .bool X) (λX=>[])
theorem Qz5:Q06 pG Z1z:=Q0p drawn Q0l (.nil) Tryz.func49 Tryz.call49 (λa r=>Q8t (argL .u32 a 0) (argL .u32 a 1)) [] Qsu 3 (hp:=λa r h=>Qwf (argL .u32 a 0) (argL .u32 a 1) h)
def Qki(a b:Q00):Tree Bool:=
.br (eqs [D.int u32 a.B2.X.a0,D.int u32 a.B2.X.a1,D.int u32 a.B2.X.a2,D.int u32 a.B2.X.a3,D.int u32 a.B2.X.a4,D.int u32 a.B2.X.a5,D.int u32 a.B2.X.a6,D.int u32 a.B2.X.a7,D.int u32 a.B2.X.a8,D.int u32 a.B2.X.a9,D.int u32 a.B2.X.a10,D.int u32 a.B2.X.a11,D.int u32 a.B2.X.a12,D.int u32 a.B2.X.a13,D.int u32 a.B2.X.a14,D.int u32 a.B2.X.a15,D.int u32 a.B2.Pc,D.int u32 a.B2.B6.a0,D.int u32 a.B2.B6.a1,D.int u32 a.B2.B6.a2,D.int u32 a.B2.B6.a3,D.int u32 a.B2.B6.a4,D.int u32 a.B2.B6.a5,D.int u32 a.B2.B6.a6,D.int u32 a.B2.B6.a7] [D.int u32 b.B2.X.a0,D.int u32 b.B2.X.a1,D.int u32 b.B2.X.a2,D.int u32 b.B2.X.a3,D.int u32 b.B2.X.a4,D.int u32 b.B2.X.a5,D.int u32 b.B2.X.a6,D.int u32 b.B2.X.a7,D.int u32 b.B2.X.a8,D.int u32 b.B2.X.a9,D.int u32 b.B2.X.a10,D.int u32 b.B2.X.a11,D.int u32 b.B2.X.a12,D.int u32 b.B2.X.a13,D.int u32 b.B2.X.a14,D.int u32 b.B2.X.a15,D.int u32 b.B2.Pc,D.int u32 b.B2.B6.a0,D.int u32 b.B2.B6.a1,D.int u32 b.B2.B6.a2,D.int u32 b.B2.B6.a3,D.int u32 b.B2.B6.a4,D.int u32 b.B2.B6.a5,D.int u32 b.B2.B6.a6,D.int u32 b.B2.B6.a7]) (.an (Q9k a.Mem b.Mem) (.lv (Qg2 a.Mem b.Mem) λ(x0:Bool)=> .br x0 (.br (eqs [D.str a.A6.D3] [D.str b.A6.D3]) (.br (eqs [D.bool a.B0.D2,D.int u32 a.B0.C9,D.bool a.B0.D5] [D.bool b.B0.D2,D.int u32 b.B0.C9,D.bool b.B0.D5]) (.br (eqs [D.int u32 a.B1.Blocks,D.int u32 a.B1.C2,D.int u32 a.B1.Frame,D.int i64 a.B1.C1,D.int i64 a.B1.D8,D.int u32 a.B1.B7,D.int u32 a.B1.B4,D.str a.B1.C4] [D.int u32 b.B1.Blocks,D.int u32 b.B1.C2,D.int u32 b.B1.Frame,D.int i64 b.B1.C1,D.int i64 b.B1.D8,D.int u32 b.B1.B7,D.int u32 b.B1.B4,D.str b.B1.C4]) (.br (eqs [D.int u32 a.C5.Frame,D.int u32 a.C5.E0,D.bool a.C5.C6,D.int u32 a.C5.B9,D.bool a.C5.B8,D.int u32 a.C5.F1] [D.int u32 b.C5.Frame,D.int u32 b.C5.E0,D.bool b.C5.C6,D.int u32 b.C5.B9,D.bool b.C5.B8,D.int u32 b.C5.F1]) (.br (eqs [D.int u32 a.A4.D0,D.int u32 a.A4.C3] [D.int u32 b.A4.D0,D.int u32 b.A4.C3]) (.br (a.A1==b.A1) (.br (a.A7==b.A7) (.lf (a.A9==b.A9)) (.lf false)) (.lf false)) (.lf false)) (.lf false)) (.lf false)) (.lf false)) (.lf false)) (.lf false))) (.lf false)
def Zh1 a b:=(Qki a b).m
abbrev Qvq a b:=(Qki a b).p
def Zjn:Q0d:=mT 19 [] true [.agg Q00.sig, .agg Q00.sig] [] (λa r=>Qki (Q00.of (aC a 0)) (Q00.of (aC a 1))) (λX=> .bool X) (λX=>[])
theorem Zes:Q06 pG Zjn:=oT (.cons Qz5 (.nil)) Tryz.func19 Tryz.call19 [] [] 2
def Q2d(m:Q00):Tree Bool:=
.an (Qcm m) (.lv (Q2g m) λ(x0:Bool)=> .br (!x0) (.lf false) (.an (Qau m) (.lv (Q0u m) λ(x1:Q00)=> .an (Ql7 x1.B2 x1.Mem) (.lv (Q5b x1.B2 x1.Mem) λ(x2:Q05×List Int×Q17)=> .br (x2.2.2.B5==1) (.lf (x2.2.2.D1==2)) (.lf false)))))
def Q1y m:=(Q2d m).m
abbrev Q1r m:=(Q2d m).p
def Qrp:Q0d:=mT 30 [] true [.agg Q00.sig] [] (λa r=>Q2d (Q00.of (aC a 0))) (λX=> .bool X) (λX=>[])
theorem Qge:Q06 pG Qrp:=oT (.cons Qqa (.cons Qoa (.cons Z3i (.nil)))) Tryz.func30 Tryz.call30 [] [] 2
