import Derived.Test.YthjfindbamdacaaGreatDoorPostNeedsYz
open Nat renaming blt->bJ,beq->bT,lt_succ_self->cL
open List renaming length->dG,replicate->cM,take->cW,drop->cX,set->dC,getD->aK
open Int renaming toNat->dB,tdiv->eN,tmod->dA
open UInt8 renaming ofNat->eR,toNat->eQ
set_option maxRecDepth 100000
set_option linter.all false
namespace Go.Proofs.YthjfindbamdacaaGreatDoor
open Go Go.GD Go.IntKind
noncomputable section
def Q90(m:List Int):Tree (List Int):=
.cn (bJ (0:Nat) (1:Nat)&&bT (1:Nat) (1:Nat)&&List.all [D.int u32 (0:Int)] D.plain&&decide ((0:Int)<=(m.length:Int)/\(m.length:Int)<=(m.length:Int)/\(m.length:Int)<=(9223372036854775807:Int)/\(↑(4:Nat):Int)*(m.length:Int)<=(140737488355328:Int))) (let E1:=dG (cM (dB (m.length:Int)) (0:Int));.lf (cW (Min.min (m.length) E1) m++cX (Min.min (m.length) E1) (cM (dB (m.length:Int)) (0:Int))))
def Qmd m:=(Q90 m).m
abbrev Qsl m:=(Q90 m).p
def Zh2:Q0a:=mT 141 [] true [.one (.ints .u32)] [] (λa r=>Q90 (argL .u32 a 0)) (λX=>.all 0) (λX=>[⟨false,23,1,.ints .u32 X⟩])
theorem Zay:Q04 pG Zh2:=oT (.nil) Tryz.func141 Tryz.call141 [.row 23 1 (.ints .u32)] [] 2
def Qbh(m:Q00):Tree Q00:=
.an (Qsl m.Mem) (.lv (Qmd m.Mem) λ(x0:List Int)=>.lf ({B2:=m.B2,Mem:=x0,A2:=m.A2,A9:=m.A9,A7:=m.A7,C1:=m.C1,A0:=m.A0,A3:=m.A3,A4:=m.A4,A6:=m.A6}))
def Qof m:=(Qbh m).m
abbrev Qiq m:=(Qbh m).p
def Zjy:Q0a:=mT 87 [] true [.agg Q00.sig] [] (λa r=>Qbh (Q00.of (aC a 0))) (λX=>.agg (Q00.cellsW X (.all 0))) (λX=>[⟨false,23,1,.ints .u32 X.Mem⟩])
theorem Qqn:Q04 pG Zjy:=oT (.cons Zay (.nil)) Tryz.func87 Tryz.call87 [.row 23 1 (.ints .u32)] [] 2
def Qpv(n k:Int)(z:(Int)×(List Int)):Prop:=0<=z.1/\(z.2.length:Int)=z.1/\(z.1<=k\/z.1=0)
def Qck(n k:Int)(z:(Int)×(List Int)):Nat:=(k-z.1).toNat
def Qd2(n k:Int):Tree (List UInt8):=
.lp inferInstance (Qck n k (0,[])+1) ((rE (n:Int)/\rE (k:Int)/\True/\rE (0:Int)/\True)/\rE ([]:List Int)/\True) (0,[]) λ(v0:Int×List Int)=>.br (decide (v0.1<k)) (.lv (Qyb n (wrap i64 (eN v0.1 9))) λ(x0:Int)=>.cn (decide (1*(v0.2.length+1)<=140737488355328)) (.nx ((rE (n:Int)/\rE (k:Int)/\True/\rE ((wrap i64 (v0.1+1)):Int)/\True)/\rE ((v0.2++[wrap u8 x0]):List Int)/\True) (Sum.inl (wrap i64 (v0.1+1),v0.2++[wrap u8 x0])))) (.lf (Sum.inr (bytesOf v0.2)))
def Qmb n k:=(Qd2 n k).m
def Q6d(n k:Int):Prop:=
k<=1000000000000
theorem Z86(n k:Int)(hw:Q6d n k):(Qd2 n k).p:=by
 simp only[Q6d]at hw
 unfold Tree.p Qd2
 repeat'(first|refine w_lp (inv:=Qpv n k) (μ:=Qck n k) ?_ (cL _) (λ_ _=>?_)|exact trivial|refine w_br (λ_=>?_) (λ_=>?_)|refine w_cn ?_ ?_|refine w_an ?_ ?_|refine w_lv (λ_ _=>?_)|refine w_nx ?_|refine w_lf ?_|refine And.intro ?_ ?_)
 all_goals((try simp only[Qpv,Qck]at*);exact fin0)
def Zcc:LInv:={
 α:=(Int)×(List Int)
 F:=λst a=>([(0,(lk st 0)),(1,(lk st 1)),(5,.all 0),(6,.int i64 a.1)],[⟨false,5,1,.ints u8 a.2⟩])
 a0:=λst=>((lk st 6).toInt,(Q5t st.rows (rN st 5)))
 ex0:=λst=>[]++[(rX st 5 0)]}
def Z2u:List (Nat×LInv):=[(3,Zcc)]
def Zev:Q0a:=mkP 20 [] true [.one (.int .i64),.one (.int .i64)] [] (λa r=>Q6d (argI a 0) (argI a 1)) (λa r=>Qmb (argI a 0) (argI a 1)) (λX=>.str X) (λX=>[])
theorem Qwa:Q04 pG Zev:=Q0i drawn Q0h (.cons Qq3 (.nil)) Tryz.func20 Tryz.call20 (λa r=>Qd2 (argI a 0) (argI a 1)) [] Z2u 3 (hp:=λa r h=>Z86 (argI a 0) (argI a 1) h)
def Qer(n:Int):Tree Q0v:=
.lv (Qyb n 2) λ(x0:Int)=>.br (dA x0 (7:Int)==(0:Int)) (.lf ({C2:=2,N:=0,C8:=[]})) (.br (dA x0 (7:Int)==(1:Int)) (.lf ({C2:=3,N:=wrap u32 (iand i64 (ishr i64 x0 8) 255),C8:=[]})) (.br (dA x0 (7:Int)==(2:Int)) (.lf ({C2:=3,N:=wrap u32 (iand i64 (ishr i64 x0 8) 255),C8:=[]})) (.br (dA x0 (7:Int)==(3:Int)) (.lf ({C2:=4,N:=1,C8:=[]})) (.br (dA x0 (7:Int)==(4:Int)) (.an (Q6d x0 128) (.lv (Qmb x0 128) λ(x1:List UInt8)=>.lf ({C2:=4,N:=1,C8:=x1}))) (.br (dA x0 (7:Int)==(5:Int)) (let E1:=wrap i64 (1+dA (ishr i64 x0 8) 40);.an (Q6d x0 E1) (.lv (Qmb x0 E1) λ(x2:List UInt8)=>.lf ({C2:=5,N:=0,C8:=x2}))) (.br (dA (ishr i64 x0 8) (4:Int)==(0:Int)) (.lf ({C2:=4,N:=0,C8:=[]})) (.lf ({C2:=6,N:=wrap u32 (dA (ishr i64 x0 8) 3),C8:=[]}))))))))
def Quc n:=(Qer n).m
abbrev Qpl n:=(Qer n).p
def Zed:Q0a:=mT 28 [] true [.one (.int .i64)] [] (λa r=>Qer (argI a 0)) (λX=>.agg (Q0v.cells X)) (λX=>[])
theorem Z6u:Q04 pG Zed:=oT (.cons Qq3 (.cons Qwa (.nil))) Tryz.func28 Tryz.call28 [] [] 2
def Qnk(m:List Int):Tree Int:=
.br (dA (m.length:Int) (32:Int) !=(0:Int)) (.lf 0) (.br (decide ((m.length:Int)>(1024:Int))) (.lf 0) (.lf (wrap i64 (eN (m.length:Int) 32))))
def Q4b m:=(Qnk m).m
def Zd8:Q0a:=mS 157 [] true [.one (.ints .u32)] [] (λa r=>Qnk (argL .u32 a 0)) (λX=>.int .i64 X) (λX=>[])
theorem Qcm:Q04 pG Zd8:=oS (.nil) Tryz.func157 Tryz.call157 [] [] 2
def Qk7(c:Q0e):Tree Bool:=
.lf (decide ((c.C9.length:Int)<=(16:Int)))
def Qh8 c:=(Qk7 c).m
def Qv7:Q0a:=mS 158 [] true [.agg Q0e.sig] [] (λa r=>Qk7 (Q0e.of (aC a 0))) (λX=>.bool X) (λX=>[])
theorem Qt6:Q04 pG Qv7:=oS (.nil) Tryz.func158 Tryz.call158 [] [] 2
def Qhi(t:Q0l):Tree Bool:=
.br t.D4 (.br t.D2 (.lf false) (.br t.D4 (.lf (t.C6 !=0)) (.br t.D2 (.lf true) (.lf (t.C6==0))))) (.br t.D4 (.lf (t.C6 !=0)) (.br t.D2 (.lf true) (.lf (t.C6==0))))
def Qc2 t:=(Qhi t).m
def Qzz:Q0a:=mS 159 [] true [.agg Q0l.sig] [] (λa r=>Qhi (Q0l.of (aC a 0))) (λX=>.bool X) (λX=>[])
theorem Qxt:Q04 pG Qzz:=oS (.nil) Tryz.func159 Tryz.call159 [] [] 2
def Qjb(d0:Q0d)(pages:Int):Tree Bool:=
.br (decide (d0.Blocks>64)) (.lf false) (.br (decide (d0.B7<0)) (.lf false) (.br (decide (d0.B7>3)) (.lf false) (.br (d0.B7 !=1) (.br (d0.D6==0) (.br (d0.B4==0) (.br (d0.B1==0) (.lf (decide (d0.C0=[]))) (.lf false)) (.lf false)) (.lf false)) (.br (decide (d0.B4>=d0.Blocks)) (.lf false) (.br (decide (wrap i64 d0.B1>=pages)) (.lf false) (.br (d0.D6==1) (.br (decide (d0.C0=[])) (.lf true) (.br (d0.D6==2) (.lf ((d0.C0.length:Int)==(128:Int))) (.lf false))) (.br (d0.D6==2) (.lf ((d0.C0.length:Int)==(128:Int))) (.lf false))))))))
def Qex d0 pages:=(Qjb d0 pages).m
def Z34:Q0a:=mS 160 [] true [.agg Q0d.sig,.one (.int .i64)] [] (λa r=>Qjb (Q0d.of (aC a 0)) (argI a 1)) (λX=>.bool X) (λX=>[])
theorem Z06:Q04 pG Z34:=oS (.nil) Tryz.func160 Tryz.call160 [] [] 2
def Qld(n:Q0w)(pages:Int):Tree Bool:=
let T1:Tree (Bool):=.br n.B5 (.br (decide (n.E0>=1)) (.lf (decide (n.E0<=128))) (.lf false)) (.lf (n.E0==0));.br n.C3 (.br n.B5 (.lf false) (.br (decide (wrap i64 n.B6>=pages)) (.lf false) (.br (!n.C3) (.br (n.B6 !=0) (.lf false) T1) T1))) (.br (!n.C3) (.br (n.B6 !=0) (.lf false) T1) T1)
def Qgq n pages:=(Qld n pages).m
def Z9f:Q0a:=mS 161 [] true [.agg Q0w.sig,.one (.int .i64)] [] (λa r=>Qld (Q0w.of (aC a 0)) (argI a 1)) (λX=>.bool X) (λX=>[])
theorem Z3b:Q04 pG Z9f:=oS (.nil) Tryz.func161 Tryz.call161 [] [] 2
def Qfg(b:Q06)(pages:Int)(z:(Int)):Prop:=0<=z/\z<=32
def Q6m(b:Q06)(pages:Int)(z:(Int)):Nat:=(32-z).toNat
def Q5c(b:Q06)(pages:Int):Tree Bool:=
.lp inferInstance (Q6m b pages 0+1) ((rE (pages:Int)/\rZ/\rE (0:Int)/\True)/\(rE b.C4/\rE b.B9/\True)/\True) 0 λ(v0:Int)=>.br (decide (v0<32)) (.cn (decide (0<=wrap u64 v0)) (let T1:Tree ((Int)⊕(Bool)):=.nx ((rE (pages:Int)/\rZ/\rE ((wrap i64 (v0+1)):Int)/\True)/\(rE b.C4/\rE b.B9/\True)/\True) (Sum.inl (wrap i64 (v0+1)));.br (iand u32 (ishr u32 b.B9 (wrap u64 v0)) (1:Int)==(1:Int)) (.br (decide (v0>=pages)) (.lf (Sum.inr false)) T1) T1)) (.lf (Sum.inr true))
def Q93 b pages:=(Q5c b pages).m
theorem Qqu(b:Q06)(pages:Int):(Q5c b pages).p:=by
 unfold Tree.p Q5c
 repeat'(first|refine w_lp (inv:=Qfg b pages) (μ:=Q6m b pages) ?_ (cL _) (λ_ _=>?_)|exact trivial|refine w_br (λ_=>?_) (λ_=>?_)|refine w_cn ?_ ?_|refine w_an ?_ ?_|refine w_lv (λ_ _=>?_)|refine w_nx ?_|refine w_lf ?_|refine And.intro ?_ ?_)
 all_goals((try simp only[Qfg,Q6m]at*);exact fin0)
def Qrx:LInv:={
 α:=(Int)
 F:=λst a=>([(1,(lk st 1)),(2,.ptr 0 0 0),(5,.int i64 a)],[⟨true,39,2,.gen [[(cT st 2 0),(cT st 2 1)]]⟩])
 a0:=λst=>(lk st 5).toInt
 ex0:=λst=>[]++[(rX st 2 0)]}
def Qp6:List (Nat×LInv):=[(2,Qrx)]
def Quu:Q0a:=mS 162 [] true [.agg Q06.sig,.one (.int .i64)] [] (λa r=>Q5c (Q06.of (aC a 0)) (argI a 1)) (λX=>.bool X) (λX=>[])
theorem Qt5:Q04 pG Quu:=oS (.nil) Tryz.func162 Tryz.call162 [] Qp6 3 (λ_ _ _=>by kernel_rfl) (λa r=>Qqu (Q06.of (aC a 0)) (argI a 1)) (λ_ X=>by kernel_rfl)
def Qul(m:Q00):Tree Bool:=
.lv (Q4b m.Mem) λ(x0:Int)=>.br (decide (x0<1)) (.lf false) (.br (m.B2.X.a0 !=0) (.lf false) (.br (decide (m.B2.B3.a0>31)) (.lf false) (.br (decide (m.B2.B3.a7>31)) (.lf false) (.br (decide (m.B2.B3.a6>255)) (.lf false) (.br (dA m.B2.B3.a1 (4:Int) !=(0:Int)) (.lf false) (.lv (Qh8 m.A2) λ(x1:Bool)=>.br (!x1) (.lf false) (.lv (Qc2 m.A9) λ(x2:Bool)=>.br (!x2) (.lf false) (.lv (Qex m.A7 x0) λ(x3:Bool)=>.br (!x3) (.lf false) (.lv (Qgq m.C1 x0) λ(x4:Bool)=>.br (!x4) (.lf false) (.lv (Q93 m.A0 x0) λ(x5:Bool)=>.br (!x5) (.lf false) (.br (decide (m.A3<=1152921504606846976)) (.br m.A4 (.lf (!m.A6)) (.lf true)) (.lf false))))))))))))
def Qbv m:=(Qul m).m
def Zl5:Q0a:=mS 101 [] true [.agg Q00.sig] [] (λa r=>Qul (Q00.of (aC a 0))) (λX=>.bool X) (λX=>[])
theorem Qqh:Q04 pG Zl5:=oS (.cons Qcm (.cons Qt6 (.cons Qxt (.cons Z06 (.cons Z3b (.cons Qt5 (.nil))))))) Tryz.func101 Tryz.call101 [] [] 2
def Z1a(t:Q0l):Tree (Q0l×Bool):=
.br (!t.D4) (.lf (t,false)) (.lf ({D4:=false,C6:=t.C6,D2:=true},true))
def Z28 t:=(Z1a t).m
def Zga:Q0a:=mS 163 [] true [.agg Q0l.sig] [] (λa r=>Z1a (Q0l.of (aC a 0))) (λX=>.tup [.agg (Q0l.cells (X.1)),.bool (X.2)]) (λX=>[])
theorem Za6:Q04 pG Zga:=oS (.nil) Tryz.func163 Tryz.call163 [] [] 2
def Qgl(c:Q0e)(b:Int):Tree (Q0e×Bool):=
.br (decide ((c.C9.length:Int)>=(16:Int))) (.lf (c,false)) (.cn (decide (c.C9.length+1<=maxLen)) (.lf ({C9:=c.C9++[(λ(n:Int)=>eR n.toNat) b]},true)))
def Qzr c b:=(Qgl c b).m
abbrev Qss c b:=(Qgl c b).p
def Zf1:Q0a:=mT 164 [] true [.agg Q0e.sig,.one (.int .u8)] [] (λa r=>Qgl (Q0e.of (aC a 0)) (argI a 1)) (λX=>.tup [.agg (Q0e.cells (X.1)),.bool (X.2)]) (λX=>[])
theorem Zaw:Q04 pG Zf1:=oT (.nil) Tryz.func164 Tryz.call164 [] [] 2
def Qgx(m:List Int)(frame:Int):Tree Bool:=
.lv (Q4b m) λ(x0:Int)=>.lf (decide (wrap u64 frame<wrap u64 x0))
def Q2b m frame:=(Qgx m frame).m
def Zgg:Q0a:=mS 237 [] true [.one (.ints .u32),.one (.int .u32)] [] (λa r=>Qgx (argL .u32 a 0) (argI a 1)) (λX=>.bool X) (λX=>[])
theorem Qem:Q04 pG Zgg:=oS (.cons Qcm (.nil)) Tryz.func237 Tryz.call237 [] [] 2
def Qdc(m:List Int)(addr size v:Int):Tree (List Int):=
let E1:=bT 1 1&&bJ 0 1&&decide (0<=wrap u32 (eN addr 4)/\wrap u32 (eN addr 4)<(m.length:Int));let E2:=dB (wrap u32 (eN addr 4));.br (size==4) (.cn E1 (.lf (dC m E2 v))) (.cn E1 (let E3:=decide (0<=wrap u32 (8*dA addr 4));.cn E3 (.cn E3 (.cn E1 (.lf (dC m E2 (ior u32 (Q7k u32 (m.getD E2 0) (ishl u32 255 (wrap u32 (8*dA addr 4)))) (ishl u32 (iand u32 v 255) (wrap u32 (8*dA addr 4))))))))))
def Q9v m addr size v:=(Qdc m addr size v).m
abbrev Qey m addr size v:=(Qdc m addr size v).p
def Zlf:Q0a:=mT 278 [true,false,false,false] true [.one (.row 0),.one (.int .u32),.one (.int .i64),.one (.int .u32)] [.arr 23 1 (.ints .u32)] (λa r=>Qdc (rowL .u32 r 0) (argI a 1) (argI a 2) (argI a 3)) (λX=>.tup []) (λX=>[⟨false,23,1,.ints .u32 X⟩])
theorem Z2c:Q04 pG Zlf:=oT (.nil) Tryz.func278 Tryz.call278 [] [] 2
def Qgj(m:List Int)(frame:Int)(s:List UInt8)(z:(Int)×(List Int)):Nat:=(128-z.1).toNat
def Q95(m:List Int)(frame:Int)(s:List UInt8):Tree (List Int):=
.lp inferInstance (Qgj m frame s (0,m)+1) ((True/\rE (frame:Int)/\rE (s:List UInt8)/\rE (0:Int)/\True)/\rE (m:List Int)/\True) (0,m) λ(v0:Int×List Int)=>.br (decide (v0.1<(s.length:Int))) (.br (decide (v0.1<128)) (.cn (decide (0<=v0.1/\v0.1<(s.length:Int))) (let E1:=wrap u32 (↑(eQ (s.getD v0.1.toNat (0:UInt8))):Int);let E2:=wrap u32 (wrap i64 (wrap i64 (frame*128)+v0.1));.an (Qey v0.2 E2 1 E1) (.lv (Q9v v0.2 E2 1 E1) λ(x0:List Int)=>.nx ((True/\rE (frame:Int)/\rE (s:List UInt8)/\rE ((wrap i64 (v0.1+1)):Int)/\True)/\rE (x0:List Int)/\True) (Sum.inl (wrap i64 (v0.1+1),x0))))) (.lf (Sum.inr v0.2))) (.lf (Sum.inr v0.2))
def Qjy m frame s:=(Q95 m frame s).m
abbrev Qli m frame s:=(Q95 m frame s).p
def Zdn:LInv:={
 α:=(Int)×(List Int)
 F:=λst a=>([(0,.all 0),(1,(lk st 1)),(2,(lk st 2)),(6,.int i64 a.1)],[⟨false,23,1,.ints u32 a.2⟩])
 a0:=λst=>((lk st 6).toInt,(Q5t st.rows 0))
 ex0:=λst=>[0]++[]}
def Z4b:List (Nat×LInv):=[(1,Zdn)]
def Zfa:Q0a:=mT 238 [true,false,false] true [.one (.row 0),.one (.int .i64),.one (.str)] [.arr 23 1 (.ints .u32)] (λa r=>Q95 (rowL .u32 r 0) (argI a 1) (argS a 2)) (λX=>.tup []) (λX=>[⟨false,23,1,.ints .u32 X⟩])
theorem Qw7:Q04 pG Zfa:=oT (.cons Z2c (.nil)) Tryz.func238 Tryz.call238 [] Z4b 3
def Qa3(d0:Q0d)(m:List Int)(e:Q0v):Tree (Q0d×Bool×(List Int)):=
.br (d0.B7 !=1) (.lf (d0,false,m)) (.br (e.C2 !=4) (.lf (d0,false,m)) (.br (decide (e.N>1)) (.lf (d0,false,m)) (let E4:=({Blocks:=d0.Blocks,B8:=d0.B8,Frame:=d0.Frame,B7:=2,D6:=0,B4:=0,B1:=0,C0:=[]}:Q0d);let E5:=({Blocks:=d0.Blocks,B8:=d0.B8,Frame:=d0.Frame,B7:=3,D6:=0,B4:=0,B1:=0,C0:=[]}:Q0d);let T2:Tree ((Q0d×Bool×(List Int))):=.br (e.N==1) (.lf (E4,true,m)) (.lf (E5,true,m));let E6:=decide ((e.C8.length:Int)>(0:Int));.br (e.N==1) (let T1:Tree ((Q0d×Bool×(List Int))):=.br (d0.D6==1) (.an (Qli m (wrap i64 d0.B1) e.C8) (.lv (Qjy m (wrap i64 d0.B1) e.C8) λ(x1:List Int)=>.br (e.N==1) (.lf (E4,true,x1)) (.lf (E5,true,x1)))) T2;let T3:Tree ((Q0d×Bool×(List Int))):=.br (!d0.D6==1) (.br E6 (.lf (d0,false,m)) T1) T1;.br (d0.D6==1) (.br ((e.C8.length:Int) !=(128:Int)) (.lf (d0,false,m)) (.lv (Q2b m d0.B1) λ(x0:Bool)=>.br (!x0) (.lf (d0,false,m)) T3)) T3) (.br E6 (.lf (d0,false,m)) T2))))
def Qd6 d0 m e:=(Qa3 d0 m e).m
abbrev Qnb d0 m e:=(Qa3 d0 m e).p
def Z89:Q0a:=mT 165 [false,true,false] true [.agg Q0d.sig,.one (.row 0),.agg Q0v.sig] [.arr 23 1 (.ints .u32)] (λa r=>Qa3 (Q0d.of (aC a 0)) (rowL .u32 r 0) (Q0v.of (aC a 2))) (λX=>.tup [.agg (Q0d.cells (X.1)),.bool (X.2.1)]) (λX=>[⟨false,23,1,.ints .u32 (X.2.2)⟩])
theorem Z48:Q04 pG Z89:=oT (.cons Qem (.cons Qw7 (.nil))) Tryz.func165 Tryz.call165 [] [] 2
def Qa2(n:Q0w)(m:List Int)(frame:List UInt8):Tree (Q0w×Bool×(List Int)):=
.br (!n.C3) (.lf (n,false,m)) (.br (decide ((frame.length:Int)<(1:Int))) (.lf (n,false,m)) (.br (decide ((frame.length:Int)>(128:Int))) (.lf (n,false,m)) (.lv (Q2b m n.B6) λ(x0:Bool)=>.br (!x0) (.lf (n,false,m)) (.an (Qli m (wrap i64 n.B6) frame) (.lv (Qjy m (wrap i64 n.B6) frame) λ(x1:List Int)=>.lf ({Frame:=n.Frame,D8:=n.D8,C3:=false,B6:=0,B5:=true,E0:=wrap u32 (frame.length:Int)},true,x1))))))
def Qdf n m frame:=(Qa2 n m frame).m
abbrev Qnz n m frame:=(Qa2 n m frame).p
def Z7o:Q0a:=mT 166 [false,true,false] true [.agg Q0w.sig,.one (.row 0),.one (.str)] [.arr 23 1 (.ints .u32)] (λa r=>Qa2 (Q0w.of (aC a 0)) (rowL .u32 r 0) (argS a 2)) (λX=>.tup [.agg (Q0w.cells (X.1)),.bool (X.2.1)]) (λX=>[⟨false,23,1,.ints .u32 (X.2.2)⟩])
theorem Z2t:Q04 pG Z7o:=oT (.cons Qem (.cons Qw7 (.nil))) Tryz.func166 Tryz.call166 [] [] 2
def Qbi(m:Q00)(e:Q0v):Tree (Bool×Q00):=
.br m.A6 (.lf (false,m)) (let T1:Tree ((Bool×Q00)):=.br (e.C2==4) (.an (Qnb m.A7 m.Mem e) (.lv (Qd6 m.A7 m.Mem e) λ(x2:Q0d×Bool×List Int)=>.lf (x2.2.1,{B2:=m.B2,Mem:=x2.2.2,A2:=m.A2,A9:=m.A9,A7:=x2.1,C1:=m.C1,A0:=m.A0,A3:=m.A3,A4:=m.A4,A6:=m.A6}))) (let T3:Tree ((Bool×Q00)):=.br (e.C2==6) (.br (decide (e.C8=[])) (.lf (true,{B2:=m.B2,Mem:=m.Mem,A2:=m.A2,A9:=m.A9,A7:=m.A7,C1:=m.C1,A0:={C4:=e.N,B9:=m.A0.B9},A3:=m.A3,A4:=m.A4,A6:=m.A6})) (.lf (false,m))) (.lf (false,m));.br (e.C2==5) (.br (e.N==0) (.an (Qnz m.C1 m.Mem e.C8) (.lv (Qdf m.C1 m.Mem e.C8) λ(x3:Q0w×Bool×List Int)=>.lf (x3.2.1,{B2:=m.B2,Mem:=x3.2.2,A2:=m.A2,A9:=m.A9,A7:=m.A7,C1:=x3.1,A0:=m.A0,A3:=m.A3,A4:=m.A4,A6:=m.A6}))) T3) T3);let T2:Tree ((Bool×Q00)):=.br (e.C2==3) (.br (decide (e.N<=255)) (.br (decide (e.C8=[])) (.an (Qss m.A2 (wrap u8 e.N)) (.lv (Qzr m.A2 (wrap u8 e.N)) λ(x1:Q0e×Bool)=>.lf (x1.2,{B2:=m.B2,Mem:=m.Mem,A2:=x1.1,A9:=m.A9,A7:=m.A7,C1:=m.C1,A0:=m.A0,A3:=m.A3,A4:=m.A4,A6:=m.A6}))) T1) T1) T1;.br (e.C2==2) (.br (e.N==0) (.br (decide (e.C8=[])) (.lv (Z28 m.A9) λ(x0:Q0l×Bool)=>.lf (x0.2,{B2:=m.B2,Mem:=m.Mem,A2:=m.A2,A9:=x0.1,A7:=m.A7,C1:=m.C1,A0:=m.A0,A3:=m.A3,A4:=m.A4,A6:=m.A6})) T2) T2) T2)
def Q5b m e:=(Qbi m e).m
abbrev Qpb m e:=(Qbi m e).p
def Zcr:Q0a:=mT 103 [true,false] true [.ptr 0,.agg Q0v.sig] [.box 42 49 (Q00.sigW (.row 1)),.arr 23 1 (.ints .u32)] (λa r=>Qbi (Q00.ofW (r.getD 0 default).cs (rowL .u32 r 1)) (Q0v.of (aC a 1))) (λX=>.bool (X.1)) (λX=>[⟨true,42,49,.gen [(Q00.cellsW (X.2) (.all 1))]⟩,⟨false,23,1,.ints .u32 (X.2).Mem⟩])
theorem Qs:Q04 pG Zcr:=oT (.cons Za6 (.cons Zaw (.cons Z48 (.cons Z2t (.nil))))) Tryz.func103 Tryz.call103 [.row 23 1 (.ints .u32)] [] 2
def Qgn(is:Bool)(n:Int):Tree Int:=
.br is (.cn (decide (0<=wrap u64 n)) (.lf (ishl u32 1 (wrap u64 n)))) (.lf 0)
def Q9a is n:=(Qgn is n).m
abbrev Q9s is n:=(Qgn is n).p
def Zfs:Q0a:=mT 292 [] true [.one (.bool),.one (.int .i64)] [] (λa r=>Qgn (argB a 0) (argI a 1)) (λX=>.int .u32 X) (λX=>[])
theorem Ze0:Q04 pG Zfs:=oT (.nil) Tryz.func292 Tryz.call292 [] [] 2
def Qh1(t:Q0l):Tree Bool:=
.lf t.D2
def Qa9 t:=(Qh1 t).m
def Qqe:Q0a:=mS 293 [] true [.agg Q0l.sig] [] (λa r=>Qh1 (Q0l.of (aC a 0))) (λX=>.bool X) (λX=>[])
theorem Qp5:Q04 pG Qqe:=oS (.nil) Tryz.func293 Tryz.call293 [] [] 2
def Qe8(c:Q0e):Tree Bool:=
.lf (decide ((c.C9.length:Int)>(0:Int)))
def Q5i c:=(Qe8 c).m
def Qn7:Q0a:=mS 294 [] true [.agg Q0e.sig] [] (λa r=>Qe8 (Q0e.of (aC a 0))) (λX=>.bool X) (λX=>[])
theorem Qm7:Q04 pG Qn7:=oS (.nil) Tryz.func294 Tryz.call294 [] [] 2
def Qij(d0:Q0d):Tree Bool:=
.br (d0.B7==2) (.lf true) (.lf (d0.B7==3))
def Qb1 d0:=(Qij d0).m
def Qrv:Q0a:=mS 295 [] true [.agg Q0d.sig] [] (λa r=>Qij (Q0d.of (aC a 0))) (λX=>.bool X) (λX=>[])
theorem Qqq:Q04 pG Qrv:=oS (.nil) Tryz.func295 Tryz.call295 [] [] 2
def Qk9(n:Q0w):Tree Bool:=
.lf n.B5
def Qcl n:=(Qk9 n).m
def Qtq:Q0a:=mS 296 [] true [.agg Q0w.sig] [] (λa r=>Qk9 (Q0w.of (aC a 0))) (λX=>.bool X) (λX=>[])
theorem Qrp:Q04 pG Qtq:=oS (.nil) Tryz.func296 Tryz.call296 [] [] 2
def Qnj(b:Q06)(z:(Int)×(Int)):Prop:=0<=z.2/\z.2<=32
def Qf6(b:Q06)(z:(Int)×(Int)):Nat:=(32-z.2).toNat
def Qic(b:Q06):Tree Int:=
.lp inferInstance (Qf6 b (0,0)+1) ((rZ/\rE (0:Int)/\rE (0:Int)/\True)/\(rE b.C4/\rE b.B9/\True)/\True) (0,0) λ(v0:Int×Int)=>.br (decide (v0.2<32)) (.cn (decide (0<=wrap u64 v0.2)) (.nx ((rZ/\rE ((wrap i64 (v0.1+wrap i64 (iand u32 (ishr u32 b.B9 (wrap u64 v0.2)) 1))):Int)/\rE ((wrap i64 (v0.2+1)):Int)/\True)/\(rE b.C4/\rE b.B9/\True)/\True) (Sum.inl (wrap i64 (v0.1+wrap i64 (iand u32 (ishr u32 b.B9 (wrap u64 v0.2)) 1)),wrap i64 (v0.2+1))))) (.lf (Sum.inr v0.1))
def Qd4 b:=(Qic b).m
theorem Z2n(b:Q06):(Qic b).p:=by
 unfold Tree.p Qic
 repeat'(first|refine w_lp (inv:=Qnj b) (μ:=Qf6 b) ?_ (cL _) (λ_ _=>?_)|exact trivial|refine w_br (λ_=>?_) (λ_=>?_)|refine w_cn ?_ ?_|refine w_an ?_ ?_|refine w_lv (λ_ _=>?_)|refine w_nx ?_|refine w_lf ?_|refine And.intro ?_ ?_)
 all_goals((try simp only[Qnj,Qf6]at*);exact fin0)
def Z9x:LInv:={
 α:=(Int)×(Int)
 F:=λst a=>([(1,.ptr 0 0 0),(3,.int i64 a.1),(4,.int i64 a.2)],[⟨true,39,2,.gen [[(cT st 1 0),(cT st 1 1)]]⟩])
 a0:=λst=>((lk st 3).toInt,(lk st 4).toInt)
 ex0:=λst=>[]++[(rX st 1 0)]}
def Z0l:List (Nat×LInv):=[(3,Z9x)]
def Zaz:Q0a:=mS 282 [] true [.agg Q06.sig] [] (λa r=>Qic (Q06.of (aC a 0))) (λX=>.int .i64 X) (λX=>[])
theorem Qrh:Q04 pG Zaz:=oS (.nil) Tryz.func282 Tryz.call282 [] Z0l 3 (λ_ _ _=>by kernel_rfl) (λa r=>Z2n (Q06.of (aC a 0))) (λ_ X=>by kernel_rfl)
def Q9o(b:Q06):Tree Bool:=
.lv (Qd4 b) λ(x0:Int)=>.lf (wrap u64 x0 !=wrap u64 b.C4)
def Q43 b:=(Q9o b).m
def Qmv:Q0a:=mS 297 [] true [.agg Q06.sig] [] (λa r=>Q9o (Q06.of (aC a 0))) (λX=>.bool X) (λX=>[])
theorem Qm5:Q04 pG Qmv:=oS (.cons Qrh (.nil)) Tryz.func297 Tryz.call297 [] [] 2
def Qec(m:Q00):Tree Int:=
.lv (Qa9 m.A9) λ(x0:Bool)=>.an (Q9s x0 0) (.lv (Q9a x0 0) λ(x1:Int)=>.lv (Q5i m.A2) λ(x2:Bool)=>.an (Q9s x2 1) (.lv (Q9a x2 1) λ(x3:Int)=>.lv (Qb1 m.A7) λ(x4:Bool)=>.an (Q9s x4 2) (.lv (Q9a x4 2) λ(x5:Int)=>.lv (Qcl m.C1) λ(x6:Bool)=>.an (Q9s x6 3) (.lv (Q9a x6 3) λ(x7:Int)=>.lv (Q43 m.A0) λ(x8:Bool)=>.an (Q9s x8 4) (.lv (Q9a x8 4) λ(x9:Int)=>.lf (ior u32 (ior u32 (ior u32 (ior u32 x1 x3) x5) x7) x9))))))
def Qg1 m:=(Qec m).m
abbrev Qpk m:=(Qec m).p
def Zb3:Q0a:=mT 239 [] true [.agg Q00.sig] [] (λa r=>Qec (Q00.of (aC a 0))) (λX=>.int .u32 X) (λX=>[])
theorem Z75:Q04 pG Zb3:=oT (.cons Ze0 (.cons Qp5 (.cons Qm7 (.cons Qqq (.cons Qrp (.cons Qm5 (.nil))))))) Tryz.func239 Tryz.call239 [] [] 2
def Q8j(m:Q00):Tree Int:=
.an (Qpk m) (.lv (Qg1 m) λ(x0:Int)=>.lf (iand u32 x0 m.B2.B3.a7))
def Q2f m:=(Q8j m).m
abbrev Qf7 m:=(Q8j m).p
def Z4d:Q0a:=mT 167 [] true [.agg Q00.sig] [] (λa r=>Q8j (Q00.of (aC a 0))) (λX=>.int .u32 X) (λX=>[])
theorem Qmr:Q04 pG Z4d:=oT (.cons Z75 (.nil)) Tryz.func167 Tryz.call167 [] [] 2
def Qdi(m:Q00):Tree Bool:=
.br m.A4 (.an (Qf7 m) (.lv (Q2f m) λ(x0:Int)=>.lf (x0==0))) (.lf false)
def Qep m:=(Qdi m).m
abbrev Qks m:=(Qdi m).p
def Zhb:Q0a:=mT 104 [] true [.agg Q00.sig] [] (λa r=>Qdi (Q00.of (aC a 0))) (λX=>.bool X) (λX=>[])
theorem Qww:Q04 pG Zhb:=oT (.cons Qmr (.nil)) Tryz.func104 Tryz.call104 [] [] 2
def Q8z(m:Q00):Tree Bool:=
.lv (Qbv m) λ(x0:Bool)=>.br (!x0) (.lf true) (.br m.A6 (.lf true) (.an (Qks m) (.lv (Qep m) λ(x1:Bool)=>.br x1 (.lf true) (.lf (decide (m.A3>=1152921504606846976))))))
def Q74 m:=(Q8z m).m
abbrev Qpy m:=(Q8z m).p
def Zbr:Q0a:=mT 88 [] true [.agg Q00.sig] [] (λa r=>Q8z (Q00.of (aC a 0))) (λX=>.bool X) (λX=>[])
theorem Z99:Q04 pG Zbr:=oT (.cons Qqh (.cons Qww (.nil))) Tryz.func88 Tryz.call88 [] [] 2
end
noncomputable section
def Z6l(b:Bool):Tree Int:=
.br b (.lf 1) (.lf 0)
def Qaz b:=(Z6l b).m
def Zlk:Q0a:=mS 269 [] true [.one (.bool)] [] (λa r=>Z6l (argB a 0)) (λX=>.int .u32 X) (λX=>[])
theorem Qq4:Q04 pG Zlk:=oS (.nil) Tryz.func269 Tryz.call269 [] [] 2
def Qh2(c:Q01)(cause bad:Int):Tree Q01:=
.lv (Qaz (iand u32 c.B3.a0 (1:Int) !=(0:Int))) λ(x0:Int)=>.lv (Qaz (iand u32 c.B3.a0 (2:Int) !=(0:Int))) λ(x1:Int)=>.lf ({X:=c.X,Pc:=c.B3.a1,B3:={a0:=ior u32 (Q7k u32 (ior u32 (ior u32 (Q7k u32 c.B3.a0 24) (wrap u32 (8*x0))) (wrap u32 (16*x1))) 2) 1,a1:=c.B3.a1,a2:=c.Pc,a3:=wrap u32 cause,a4:=bad,a5:=c.B3.a5,a6:=c.B3.a6,a7:=c.B3.a7}})
def Q30 c cause bad:=(Qh2 c cause bad).m
def Zgy:Q0a:=mS 208 [] true [.agg Q01.sig,.one (.int .i64),.one (.int .u32)] [] (λa r=>Qh2 (Q01.of (aC a 0)) (argI a 1) (argI a 2)) (λX=>.agg (Q01.cells X)) (λX=>[])
theorem Qik:Q04 pG Zgy:=oS (.cons Qq4 (.nil)) Tryz.func208 Tryz.call208 [] [] 2
def Q7t(m:List Int)(addr size:Int):Tree Bool:=
let T1:Tree (Bool):=.cn (decide (wrap u32 size≠0)) (.br (dA addr (wrap u32 size)==0) (.lv (Q4b m) λ(x0:Int)=>.lf (decide (addr<wrap u32 (wrap i64 (128*x0))))) (.lf false));.br (size !=1) (.br (size !=4) (.lf false) T1) T1
def Q2y m addr size:=(Q7t m addr size).m
abbrev Qca m addr size:=(Q7t m addr size).p
def Z9w:Q0a:=mT 240 [] true [.one (.ints .u32),.one (.int .u32),.one (.int .i64)] [] (λa r=>Q7t (argL .u32 a 0) (argI a 1) (argI a 2)) (λX=>.bool X) (λX=>[])
theorem Qjf:Q04 pG Z9w:=oT (.cons Qcm (.nil)) Tryz.func240 Tryz.call240 [] [] 2
def Q6r(m:List Int)(addr size:Int):Tree (Int×Bool):=
.an (Qca m addr size) (.lv (Q2y m addr size) λ(x0:Bool)=>.br (!x0) (.lf (0,false)) (.cn (bT 1 1&&bJ 0 1&&decide (0<=wrap u32 (eN addr 4)/\wrap u32 (eN addr 4)<(m.length:Int))) (.br (size==1) (.cn (decide (0<=wrap u32 (8*dA addr 4))) (.lf (iand u32 (ishr u32 (m.getD (dB (wrap u32 (eN addr 4))) 0) (wrap u32 (8*dA addr 4))) 255,true))) (.lf (m.getD (dB (wrap u32 (eN addr 4))) 0,true)))))
def Q2p m addr size:=(Q6r m addr size).m
abbrev Qbt m addr size:=(Q6r m addr size).p
def Zg:Q0a:=mT 168 [] true [.one (.ints .u32),.one (.int .u32),.one (.int .i64)] [] (λa r=>Q6r (argL .u32 a 0) (argI a 1) (argI a 2)) (λX=>.tup [.int .u32 (X.1),.bool (X.2)]) (λX=>[])
theorem Qml:Q04 pG Zg:=oT (.cons Qjf (.nil)) Tryz.func168 Tryz.call168 [] [] 2
def Q9z(w:Int):Tree (Q0f×Bool):=
.lv (Q2l (wrap i64 (ishr u32 w 24))) λ(x0:Int)=>let E5:=({Op:=0,A:=0,B:=0,C:=0,Imm:=0}:Q0f);.br (x0==0) (.lf (E5,false)) (.br (x0==2) (let E3:=({Op:=wrap i64 (ishr u32 w 24),A:=wrap i64 (iand u32 (ishr u32 w 20) 15),B:=wrap i64 (iand u32 (ishr u32 w 16) 15),C:=wrap i64 (iand u32 w 65535),Imm:=0}:Q0f);.lv (Q8e E3) λ(x1:Bool)=>.br (!x1) (.lf (E5,false)) (.lf (E3,true))) (let T1:Tree ((Q0f×Bool)):=let E2:=({Op:=wrap i64 (ishr u32 w 24),A:=wrap i64 (iand u32 (ishr u32 w 20) 15),B:=wrap i64 (iand u32 (ishr u32 w 16) 15),C:=0,Imm:=wrap i32 (wrap i16 (iand u32 w 65535))}:Q0f);.lv (Q8e E2) λ(x2:Bool)=>.br (!x2) (.lf (E5,false)) (.lf (E2,true));.br (x0==3) T1 (.br (x0==7) T1 (let E4:=({Op:=wrap i64 (ishr u32 w 24),A:=wrap i64 (iand u32 (ishr u32 w 20) 15),B:=wrap i64 (iand u32 (ishr u32 w 16) 15),C:=0,Imm:=wrap i32 (iand u32 w 65535)}:Q0f);.lv (Q8e E4) λ(x4:Bool)=>.br (!x4) (.lf (E5,false)) (.lf (E4,true))))))
def Q4a w:=(Q9z w).m
def Z96:Q0a:=mS 169 [] true [.one (.int .u32)] [] (λa r=>Q9z (argI a 0)) (λX=>.tup [.agg (Q0f.cells (X.1)),.bool (X.2)]) (λX=>[])
theorem Qpr:Q04 pG Z96:=oS (.cons Qek (.cons Qs8 (.nil))) Tryz.func169 Tryz.call169 [] [] 2
def Qwk(access:Int):Tree Bool:=
.br (decide (access>=1)) (.lf (decide (access<=3))) (.lf false)
def Qg4 access:=(Qwk access).m
def Zb8:Q0a:=mS 270 [] true [.one (.int .i64)] [] (λa r=>Qwk (argI a 0)) (λX=>.bool X) (λX=>[])
theorem Qsm:Q04 pG Zb8:=oS (.nil) Tryz.func270 Tryz.call270 [] [] 2
def Qw6(c:Q01):Tree Bool:=
.lf (iand u32 c.B3.a0 (5:Int)==(4:Int))
def Qou c:=(Qw6 c).m
def Zd9:Q0a:=mS 271 [] true [.agg Q01.sig] [] (λa r=>Qw6 (Q01.of (aC a 0))) (λX=>.bool X) (λX=>[])
theorem Za3:Q04 pG Zd9:=oS (.nil) Tryz.func271 Tryz.call271 [] [] 2
def Q8h(access:Int):Tree Int:=
.br (access==1) (.lf 4) (.br (access==3) (.lf 6) (.lf 5))
def Q3u access:=(Q8h access).m
def Z3y:Q0a:=mS 272 [] true [.one (.int .i64)] [] (λa r=>Q8h (argI a 0)) (λX=>.int .i64 X) (λX=>[])
theorem Qn1:Q04 pG Z3y:=oS (.nil) Tryz.func272 Tryz.call272 [] [] 2
def Q9c(m:List Int)(root va access:Int):Tree Q13:=
.lv (Q3u access) λ(x0:Int)=>.lv (Q4b m) λ(x1:Int)=>.lv (Qg4 access) λ(x2:Bool)=>let E4:=({Addr:=0,D9:=0,D0:=x0}:Q13);.br (!x2) (.lf (E4)) (.br (decide (va>=4096)) (.lf (E4)) (.br (decide (root>=wrap u32 x1)) (.lf (E4)) (let E6:=wrap u32 (root*128)+wrap u32 (4*wrap u32 (eN va 128));let E3:=eN (wrap u32 E6) 4;.cn (bT 1 1&&bJ 0 1&&decide (0<=wrap u32 E3/\wrap u32 E3<(m.length:Int))) (let E5:=m.getD (dB (wrap u32 E3)) 0;.br (iand u32 E5 (1:Int)==(0:Int)) (.lf (E4)) (let T1:Tree (Q13):=.br (decide (iand u32 (ishr u32 E5 8) 255>=wrap u32 x1)) (.lf (E4)) (.lf ({Addr:=wrap u32 (wrap u32 (iand u32 (ishr u32 E5 8) (255:Int)*(128:Int))+dA va 128),D9:=wrap u32 E6,D0:=0}));let T2:Tree (Q13):=.br (access==1) (.br (iand u32 E5 (4:Int)==(0:Int)) (.lf (E4)) T1) T1;.br (access==3) (.br (iand u32 E5 (2:Int)==(0:Int)) (.lf (E4)) T2) T2)))))
def Q6b m root va access:=(Q9c m root va access).m
abbrev Qry m root va access:=(Q9c m root va access).p
def Zgw:Q0a:=mT 273 [] true [.one (.ints .u32),.one (.int .u32),.one (.int .u32),.one (.int .i64)] [] (λa r=>Q9c (argL .u32 a 0) (argI a 1) (argI a 2) (argI a 3)) (λX=>.agg (Q13.cells X)) (λX=>[])
theorem Zc6:Q04 pG Zgw:=oT (.cons Qn1 (.cons Qcm (.cons Qsm (.nil)))) Tryz.func273 Tryz.call273 [] [] 2
def Qdd(m:List Int)(entry access:Int):Tree (List Int):=
.an (Qca m entry 4) (.lv (Q2y m entry 4) λ(x0:Bool)=>.br (!x0) (.lf m) (let E3:=bT 1 1&&bJ 0 1&&decide (0<=wrap u32 (eN entry 4)/\wrap u32 (eN entry 4)<(m.length:Int));.cn E3 (.cn E3 (let E4:=dB (wrap u32 (eN entry 4));let E1:=dC m E4 (ior u32 (m.getD E4 0) 8);.br (access==3) (let E2:=bT 1 1&&bJ 0 1&&decide (0<=wrap u32 (eN entry 4)/\wrap u32 (eN entry 4)<(↑(dG E1):Int));.cn E2 (.cn E2 (.lf (dC E1 E4 (ior u32 (aK E1 E4 0) 16))))) (.lf E1)))))
def Qni m entry access:=(Qdd m entry access).m
abbrev Qs2 m entry access:=(Qdd m entry access).p
def Zgo:Q0a:=mT 274 [true,false,false] true [.one (.row 0),.one (.int .u32),.one (.int .i64)] [.arr 23 1 (.ints .u32)] (λa r=>Qdd (rowL .u32 r 0) (argI a 1) (argI a 2)) (λX=>.tup []) (λX=>[⟨false,23,1,.ints .u32 X⟩])
theorem Zc2:Q04 pG Zgo:=oT (.cons Qjf (.nil)) Tryz.func274 Tryz.call274 [] [] 2
def Q9n(c:Q01)(m:List Int)(va size access:Int):Tree (Int×Int×(List Int)):=
.lv (Qg4 access) λ(x0:Bool)=>.br (!x0) (.lf (0,5,m)) (let T1:Tree ((Int×Int×(List Int))):=.cn (decide (wrap u32 size≠0)) (.br (dA va (wrap u32 size) !=0) (.lf (0,3,m)) (.lv (Qou c) λ(x1:Bool)=>.br (!x1) (.an (Qca m va size) (.lv (Q2y m va size) λ(x2:Bool)=>.br (!x2) (.lv (Q3u access) λ(x3:Int)=>.lf (0,x3,m)) (.lf (va,0,m)))) (.an (Qry m c.B3.a6 va access) (.lv (Q6b m c.B3.a6 va access) λ(x4:Q13)=>.br (x4.D0 !=0) (.lf (0,x4.D0,m)) (.an (Qs2 m x4.D9 access) (.lv (Qni m x4.D9 access) λ(x5:List Int)=>.lf (x4.Addr,0,x5)))))));.br (size !=1) (.br (size !=4) (.lf (0,5,m)) T1) T1)
def Q18 c m va size access:=(Q9n c m va size access).m
abbrev Q8g c m va size access:=(Q9n c m va size access).p
def Zbh:Q0a:=mT 209 [false,true,false,false,false] true [.agg Q01.sig,.one (.row 0),.one (.int .u32),.one (.int .i64),.one (.int .i64)] [.arr 23 1 (.ints .u32)] (λa r=>Q9n (Q01.of (aC a 0)) (rowL .u32 r 0) (argI a 2) (argI a 3) (argI a 4)) (λX=>.tup [.int .u32 (X.1),.int .i64 (X.2.1)]) (λX=>[⟨false,23,1,.ints .u32 (X.2.2)⟩])
theorem Qt2:Q04 pG Zbh:=oT (.cons Qsm (.cons Za3 (.cons Qjf (.cons Qn1 (.cons Zc6 (.cons Zc2 (.nil))))))) Tryz.func209 Tryz.call209 [] [] 2
def Qk0(op:Int):Tree Bool:=
.br (decide (op>=57)) (.lf (decide (op<=64))) (.lf false)
def Q5n op:=(Qk0 op).m
def Qu3:Q0a:=mS 210 [] true [.one (.int .i64)] [] (λa r=>Qk0 (argI a 0)) (λX=>.bool X) (λX=>[])
theorem Qrf:Q04 pG Qu3:=oS (.nil) Tryz.func210 Tryz.call210 [] [] 2
def Qc5(c:Q01):Tree Q01:=
.lv (Qaz (iand u32 c.B3.a0 (8:Int) !=(0:Int))) λ(x0:Int)=>.lv (Qaz (iand u32 c.B3.a0 (16:Int) !=(0:Int))) λ(x1:Int)=>.lf ({X:=c.X,Pc:=c.B3.a2,B3:={a0:=ior u32 (ior u32 (Q7k u32 c.B3.a0 3) (wrap u32 (1*x0))) (wrap u32 (2*x1)),a1:=c.B3.a1,a2:=c.B3.a2,a3:=c.B3.a3,a4:=c.B3.a4,a5:=c.B3.a5,a6:=c.B3.a6,a7:=c.B3.a7}})
def Qgr c:=(Qc5 c).m
def Z7k:Q0a:=mS 275 [] true [.agg Q01.sig] [] (λa r=>Qc5 (Q01.of (aC a 0))) (λX=>.agg (Q01.cells X)) (λX=>[])
theorem Z2v:Q04 pG Z7k:=oS (.cons Qq4 (.nil)) Tryz.func275 Tryz.call275 [] [] 2
def Qde(c:Q01)(r v:Int):Tree Q01:=
.br (decide (r>0)) (.br (decide (r<16)) (.cn (bJ 0 1&&decide (0<=r/\r<(↑16:Int))) (.lf ({X:=A16.of 0 (dC (A16.l c.X) r.toNat v),Pc:=c.Pc,B3:=c.B3}))) (.lf c)) (.lf c)
def Q1x c r v:=(Qde c r v).m
abbrev Q3q c r v:=(Qde c r v).p
def Zkv:Q0a:=mT 145 [] true [.agg Q01.sig,.one (.int .i64),.one (.int .u32)] [] (λa r=>Qde (Q01.of (aC a 0)) (argI a 1) (argI a 2)) (λX=>.agg (Q01.cells X)) (λX=>[])
theorem Qgu:Q04 pG Zkv:=oT (.nil) Tryz.func145 Tryz.call145 [] [] 2
def Qbg(c:Q01)(csr v:Int):Tree Q01:=
let E4:=bJ 0 1&&decide (0<=csr/\csr<(↑8:Int));let T2:Tree (Q01):=.cn E4 (.lf ({X:=c.X,Pc:=c.Pc,B3:=A8.of 0 (dC (A8.l c.B3) csr.toNat (iand u32 v 31))}));.br (csr==0) T2 (.br (csr==7) T2 (.br (csr==6) (.cn E4 (.lf ({X:=c.X,Pc:=c.Pc,B3:=A8.of 0 (dC (A8.l c.B3) csr.toNat (iand u32 v 255))}))) (let T3:Tree (Q01):=.cn E4 (.lf ({X:=c.X,Pc:=c.Pc,B3:=A8.of 0 (dC (A8.l c.B3) csr.toNat (Q7k u32 v 3))}));.br (csr==1) T3 (.br (csr==2) T3 (let T1:Tree (Q01):=.cn E4 (.lf ({X:=c.X,Pc:=c.Pc,B3:=A8.of 0 (dC (A8.l c.B3) csr.toNat v)}));.br (csr==3) T1 (.br (csr==4) T1 (.br (csr==5) T1 (.lf c))))))))
def Qg3 c csr v:=(Qbg c csr v).m
abbrev Qq c csr v:=(Qbg c csr v).p
def Zdu:Q0a:=mT 276 [] true [.agg Q01.sig,.one (.int .i64),.one (.int .u32)] [] (λa r=>Qbg (Q01.of (aC a 0)) (argI a 1) (argI a 2)) (λX=>.agg (Q01.cells X)) (λX=>[])
theorem Z95:Q04 pG Zdu:=oT (.nil) Tryz.func276 Tryz.call276 [] [] 2
def Qc(c:Q01)(i:Q0f):Tree (Q01×Q1b):=
.br (i.Op==56) (.lv (Q30 c 7 0) λ(x0:Q01)=>.lf (x0,{C2:=0,C5:=0,D7:=0,Value:=0})) (.br (i.Op==57) (.lv (Qgr c) λ(x1:Q01)=>.lf (x1,{C2:=0,C5:=0,D7:=0,Value:=0})) (.br (i.Op==58) (.cn (bJ 0 1&&decide (0<=i.Imm/\i.Imm<(↑8:Int))) (let E3:=aK (A8.l c.B3) i.Imm.toNat 0;.an (Q3q c i.A E3) (.lv (Q1x c i.A E3) λ(x2:Q01)=>.lf ({X:=x2.X,Pc:=wrap u32 (x2.Pc+4),B3:=x2.B3},{C2:=0,C5:=0,D7:=0,Value:=0})))) (let E2:=bJ 0 1&&decide (0<=i.A/\i.A<(↑16:Int));.br (i.Op==59) (.cn E2 (let E4:=aK (A16.l c.X) i.A.toNat 0;.an (Qq c (wrap i64 i.Imm) E4) (.lv (Qg3 c (wrap i64 i.Imm) E4) λ(x3:Q01)=>.lf ({X:=x3.X,Pc:=wrap u32 (x3.Pc+4),B3:=x3.B3},{C2:=0,C5:=0,D7:=0,Value:=0})))) (let E1:=({X:=c.X,Pc:=wrap u32 (c.Pc+4),B3:=c.B3}:Q01);.br (i.Op==60) (.lf (E1,{C2:=1,C5:=wrap i64 i.Imm,D7:=i.A,Value:=0})) (.br (i.Op==61) (.cn E2 (.lf (E1,{C2:=2,C5:=wrap i64 i.Imm,D7:=0,Value:=aK (A16.l c.X) i.A.toNat 0}))) (.br (i.Op==62) (.lf (E1,{C2:=3,C5:=0,D7:=0,Value:=0})) (.br (i.Op==63) (.lf (E1,{C2:=5,C5:=0,D7:=0,Value:=0})) (.br (i.Op==64) (.lf (E1,{C2:=4,C5:=0,D7:=0,Value:=0})) (.lf (E1,{C2:=0,C5:=0,D7:=0,Value:=0}))))))))))
def Qkj c i:=(Qc c i).m
abbrev Qmn c i:=(Qc c i).p
def Z9l:Q0a:=mT 211 [] true [.agg Q01.sig,.agg Q0f.sig] [] (λa r=>Qc (Q01.of (aC a 0)) (Q0f.of (aC a 1))) (λX=>.tup [.agg (Q01.cells (X.1)),.agg (Q1b.cells (X.2))]) (λX=>[])
theorem Z2q:Q04 pG Z9l:=oT (.cons Qik (.cons Z2v (.cons Qgu (.cons Z95 (.nil))))) Tryz.func211 Tryz.call211 [] [] 2
def Qvs(op a b:Int):Tree Bool:=
.br (op==40) (.lf (a==b)) (.br (op==41) (.lf (a !=b)) (.br (op==42) (.lf (decide (wrap i32 a<wrap i32 b))) (.br (op==43) (.lf (decide (wrap i32 a>=wrap i32 b))) (.br (op==44) (.lf (decide (a<b))) (.lf (decide (a>=b)))))))
def Q2k op a b:=(Qvs op a b).m
def Zb7:Q0a:=mS 277 [] true [.one (.int .i64),.one (.int .u32),.one (.int .u32)] [] (λa r=>Qvs (argI a 0) (argI a 1) (argI a 2)) (λX=>.bool X) (λX=>[])
theorem Z92:Q04 pG Zb7:=oS (.nil) Tryz.func277 Tryz.call277 [] [] 2
def Qhd(c:Q01)(i:Q0f):Tree Q01:=
.br (i.Op==48) (.an (Q3q c i.A (wrap u32 (c.Pc+4))) (.lv (Q1x c i.A (wrap u32 (c.Pc+4))) λ(x0:Q01)=>.lf ({X:=x0.X,Pc:=wrap u32 (c.Pc+wrap u32 (4*wrap u32 i.Imm)),B3:=x0.B3}))) (let E1:=bJ 0 1&&decide (0<=i.B/\i.B<(↑16:Int));.br (i.Op==49) (.cn E1 (.an (Q3q c i.A (wrap u32 (c.Pc+4))) (.lv (Q1x c i.A (wrap u32 (c.Pc+4))) λ(x1:Q01)=>.lf ({X:=x1.X,Pc:=wrap u32 (aK (A16.l c.X) i.B.toNat 0+wrap u32 i.Imm),B3:=x1.B3})))) (.cn (bJ 0 1&&decide (0<=i.A/\i.A<(↑16:Int))) (.cn E1 (.lv (Q2k i.Op (aK (A16.l c.X) i.A.toNat 0) (aK (A16.l c.X) i.B.toNat 0)) λ(x2:Bool)=>.br x2 (.lf ({X:=c.X,Pc:=wrap u32 (c.Pc+wrap u32 (4*wrap u32 i.Imm)),B3:=c.B3})) (.lf ({X:=c.X,Pc:=wrap u32 (c.Pc+4),B3:=c.B3}))))))
def Z08 c i:=(Qhd c i).m
abbrev Qsw c i:=(Qhd c i).p
def Zek:Q0a:=mT 212 [] true [.agg Q01.sig,.agg Q0f.sig] [] (λa r=>Qhd (Q01.of (aC a 0)) (Q0f.of (aC a 1))) (λX=>.agg (Q01.cells X)) (λX=>[])
theorem Zeb:Q04 pG Zek:=oT (.cons Qgu (.cons Z92 (.nil))) Tryz.func212 Tryz.call212 [] [] 2
def Q7h(x n:Int):Tree Int:=
.br (decide (n<1)) (.lf 0) (.br (decide (n>=32)) (.lf x) (.cn (decide (0<=wrap u64 n)) (.cn (decide (0<=wrap u64 (wrap i64 (n-1)))) (let E1:=iand u32 x (wrap u32 (ishl u32 1 (wrap u64 n)-1));.br (ishr u32 E1 (wrap u64 (wrap i64 (n-1)))==1) (.cn (decide (0<=wrap u64 n)) (.lf (ior u32 E1 (ishl u32 4294967295 (wrap u64 n))))) (.lf E1)))))
def Q3d x n:=(Q7h x n).m
abbrev Qb6 x n:=(Q7h x n).p
def Qua:Q0a:=mT 279 [] true [.one (.int .u32),.one (.int .i64)] [] (λa r=>Q7h (argI a 0) (argI a 1)) (λX=>.int .u32 X) (λX=>[])
theorem Qrk:Q04 pG Qua:=oT (.nil) Tryz.func279 Tryz.call279 [] [] 2
def Q8w(c:Q01)(m:List Int)(i:Q0f):Tree (Q01×(List Int)):=
.cn (bJ 0 1&&decide (0<=i.B/\i.B<(↑16:Int))) (let E4:=wrap u32 (aK (A16.l c.X) i.B.toNat 0+wrap u32 i.Imm);let E5:=aK (A16.l c.X) i.A.toNat 0;let E6:=bJ 0 1&&decide (0<=i.A/\i.A<(↑16:Int));let E7:=({X:=c.X,Pc:=wrap u32 (c.Pc+4),B3:=c.B3}:Q01);let T1:Tree ((Q01×(List Int))):=let T3:Tree ((Q01×(List Int))):=.an (Q8g c m E4 4 3) (.lv (Q18 c m E4 4 3) λ(x0:Int×Int×List Int)=>.br (x0.2.1 !=0) (.lv (Q30 c x0.2.1 E4) λ(x1:Q01)=>.lf (x1,x0.2.2)) (.cn E6 (.an (Qey x0.2.2 x0.1 4 E5) (.lv (Q9v x0.2.2 x0.1 4 E5) λ(x2:List Int)=>.lf (E7,x2)))));.br (i.Op==35) T3 (.br (i.Op==36) T3 (.an (Q8g c m E4 4 2) (.lv (Q18 c m E4 4 2) λ(x6:Int×Int×List Int)=>.br (x6.2.1 !=0) (.lv (Q30 c x6.2.1 E4) λ(x7:Q01)=>.lf (x7,x6.2.2)) (.an (Qbt x6.2.2 x6.1 4) (.lv (Q2p x6.2.2 x6.1 4) λ(x8:Int×Bool)=>.br (i.Op==33) (.an (Qb6 x8.1 8) (.lv (Q3d x8.1 8) λ(x9:Int)=>.an (Q3q c i.A x9) (.lv (Q1x c i.A x9) λ(x10:Q01)=>.lf ({X:=x10.X,Pc:=wrap u32 (x10.Pc+4),B3:=x10.B3},x6.2.2)))) (.an (Q3q c i.A x8.1) (.lv (Q1x c i.A x8.1) λ(x11:Q01)=>.lf ({X:=x11.X,Pc:=wrap u32 (x11.Pc+4),B3:=x11.B3},x6.2.2))))))));.br (i.Op==32) T1 (.br (i.Op==35) T1 (let T2:Tree ((Q01×(List Int))):=.an (Q8g c m E4 1 3) (.lv (Q18 c m E4 1 3) λ(x24:Int×Int×List Int)=>.br (x24.2.1 !=0) (.lv (Q30 c x24.2.1 E4) λ(x25:Q01)=>.lf (x25,x24.2.2)) (.cn E6 (.an (Qey x24.2.2 x24.1 1 E5) (.lv (Q9v x24.2.2 x24.1 1 E5) λ(x26:List Int)=>.lf (E7,x26)))));.br (i.Op==35) T2 (.br (i.Op==36) T2 (.an (Q8g c m E4 1 2) (.lv (Q18 c m E4 1 2) λ(x30:Int×Int×List Int)=>.br (x30.2.1 !=0) (.lv (Q30 c x30.2.1 E4) λ(x31:Q01)=>.lf (x31,x30.2.2)) (.an (Qbt x30.2.2 x30.1 1) (.lv (Q2p x30.2.2 x30.1 1) λ(x32:Int×Bool)=>.br (i.Op==33) (.an (Qb6 x32.1 8) (.lv (Q3d x32.1 8) λ(x33:Int)=>.an (Q3q c i.A x33) (.lv (Q1x c i.A x33) λ(x34:Q01)=>.lf ({X:=x34.X,Pc:=wrap u32 (x34.Pc+4),B3:=x34.B3},x30.2.2)))) (.an (Q3q c i.A x32.1) (.lv (Q1x c i.A x32.1) λ(x35:Q01)=>.lf ({X:=x35.X,Pc:=wrap u32 (x35.Pc+4),B3:=x35.B3},x30.2.2)))))))))))
def Q53 c m i:=(Q8w c m i).m
abbrev Qkb c m i:=(Q8w c m i).p
def Qzt:Q0a:=mT 213 [false,true,false] true [.agg Q01.sig,.one (.row 0),.agg Q0f.sig] [.arr 23 1 (.ints .u32)] (λa r=>Q8w (Q01.of (aC a 0)) (rowL .u32 r 0) (Q0f.of (aC a 2))) (λX=>.agg (Q01.cells (X.1))) (λX=>[⟨false,23,1,.ints .u32 (X.2)⟩])
theorem Qxa:Q04 pG Qzt:=oT (.cons Qt2 (.cons Qik (.cons Z2c (.cons Qml (.cons Qrk (.cons Qgu (.nil))))))) Tryz.func213 Tryz.call213 [] [] 2
def Qw8(op:Int):Tree Int:=
.br (op==16) (.lf 1) (.br (op==17) (.lf 3) (.br (op==18) (.lf 4) (.br (op==19) (.lf 5) (.br (op==20) (.lf 6) (.br (op==21) (.lf 7) (.br (op==22) (.lf 8) (.br (op==23) (.lf 12) (.lf op))))))))
def Z6f op:=(Qw8 op).m
def Zd3:Q0a:=mS 280 [] true [.one (.int .i64)] [] (λa r=>Qw8 (argI a 0)) (λX=>.int .i64 X) (λX=>[])
theorem Z8s:Q04 pG Zd3:=oS (.nil) Tryz.func280 Tryz.call280 [] [] 2
def Qa0(a b:Int):Tree (Int×Int):=
.br (b==0) (.lf (4294967295,a)) (.cn (decide (wrap i64 (wrap i32 b)≠0)) (.cn (decide (wrap i64 (wrap i32 b)≠0)) (.lf (wrap u32 (wrap i64 (eN (wrap i64 (wrap i32 a)) (wrap i64 (wrap i32 b)))),wrap u32 (dA (wrap i64 (wrap i32 a)) (wrap i64 (wrap i32 b)))))))
def Qb7 a b:=(Qa0 a b).m
abbrev Qhe a b:=(Qa0 a b).p
def Z8v:Q0a:=mT 281 [] true [.one (.int .u32),.one (.int .u32)] [] (λa r=>Qa0 (argI a 0) (argI a 1)) (λX=>.tup [.int .u32 (X.1),.int .u32 (X.2)]) (λX=>[])
theorem Z31:Q04 pG Z8v:=oT (.nil) Tryz.func281 Tryz.call281 [] [] 2
def Qjm(op a b:Int):Tree (Int×Bool):=
.lv (Z6f op) λ(x0:Int)=>.br (x0==1) (.lf (wrap u32 (a+b),true)) (.br (x0==2) (.lf (wrap u32 (a-b),true)) (.br (x0==3) (.lf (iand u32 a b,true)) (.br (x0==4) (.lf (ior u32 a b,true)) (.br (x0==5) (.lf (ixor u32 a b,true)) (.br (x0==6) (.lf (ishl u32 a (iand u32 b 31),true)) (.br (x0==7) (.lf (ishr u32 a (iand u32 b 31),true)) (.br (x0==8) (.lf (wrap u32 (ishr i32 (wrap i32 a) (iand u32 b 31)),true)) (.br (x0==9) (.lf (wrap u32 (a*b),true)) (.br (x0==10) (.an (Qhe a b) (.lv (Qb7 a b) λ(x1:Int×Int)=>.lf (x1.1,true))) (.br (x0==11) (.an (Qhe a b) (.lv (Qb7 a b) λ(x2:Int×Int)=>.lf (x2.2,true))) (.br (x0==12) (.lv (Qaz (decide (wrap i32 a<wrap i32 b))) λ(x3:Int)=>.lf (x3,true)) (.br (x0==13) (.lv (Qaz (decide (a<b))) λ(x4:Int)=>.lf (x4,true)) (.lf (0,false))))))))))))))
def Qcj op a b:=(Qjm op a b).m
abbrev Qn op a b:=(Qjm op a b).p
def Zk6:Q0a:=mT 214 [] true [.one (.int .i64),.one (.int .u32),.one (.int .u32)] [] (λa r=>Qjm (argI a 0) (argI a 1) (argI a 2)) (λX=>.tup [.int .u32 (X.1),.bool (X.2)]) (λX=>[])
theorem Zf4:Q04 pG Zk6:=oT (.cons Z8s (.cons Z31 (.cons Qq4 (.nil)))) Tryz.func214 Tryz.call214 [] [] 2
def Qma(c:Q01)(m:List Int):Tree (Q01×Q1b×(List Int)):=
.an (Q8g c m c.Pc 4 1) (.lv (Q18 c m c.Pc 4 1) λ(x0:Int×Int×List Int)=>.br (x0.2.1 !=0) (.lv (Q30 c x0.2.1 c.Pc) λ(x1:Q01)=>.lf (x1,{C2:=0,C5:=0,D7:=0,Value:=0},x0.2.2)) (.an (Qbt x0.2.2 x0.1 4) (.lv (Q2p x0.2.2 x0.1 4) λ(x2:Int×Bool)=>.lv (Q4a x2.1) λ(x3:Q0f×Bool)=>.br (!x3.2) (.lv (Q30 c 1 x2.1) λ(x4:Q01)=>.lf (x4,{C2:=0,C5:=0,D7:=0,Value:=0},x0.2.2)) (.lv (Q5n x3.1.Op) λ(x5:Bool)=>let T1:Tree ((Q01×Q1b×(List Int))):=.br (decide (x3.1.Op>=56)) (.an (Qmn c x3.1) (.lv (Qkj c x3.1) λ(x7:Q01×Q1b)=>.lf (x7.1,x7.2,x0.2.2))) (.br (decide (x3.1.Op>=40)) (.an (Qsw c x3.1) (.lv (Z08 c x3.1) λ(x8:Q01)=>.lf (x8,{C2:=0,C5:=0,D7:=0,Value:=0},x0.2.2))) (.br (decide (x3.1.Op>=32)) (.an (Qkb c x0.2.2 x3.1) (.lv (Q53 c x0.2.2 x3.1) λ(x9:Q01×List Int)=>.lf (x9.1,{C2:=0,C5:=0,D7:=0,Value:=0},x9.2))) (.br (x3.1.Op==24) (.an (Q3q c x3.1.A (ishl u32 (wrap u32 x3.1.Imm) 16)) (.lv (Q1x c x3.1.A (ishl u32 (wrap u32 x3.1.Imm) 16)) λ(x10:Q01)=>.lf ({X:=x10.X,Pc:=wrap u32 (x10.Pc+4),B3:=x10.B3},{C2:=0,C5:=0,D7:=0,Value:=0},x0.2.2))) (let E2:=aK (A16.l c.X) x3.1.B.toNat 0;let E3:=bJ 0 1&&decide (0<=x3.1.B/\x3.1.B<(↑16:Int));.br (decide (x3.1.Op<=13)) (.cn (bJ 0 1&&decide (0<=x3.1.C/\x3.1.C<(↑16:Int))) (.cn E3 (let E4:=aK (A16.l c.X) x3.1.C.toNat 0;.an (Qn x3.1.Op E2 E4) (.lv (Qcj x3.1.Op E2 E4) λ(x11:Int×Bool)=>.an (Q3q c x3.1.A x11.1) (.lv (Q1x c x3.1.A x11.1) λ(x12:Q01)=>.lf ({X:=x12.X,Pc:=wrap u32 (x12.Pc+4),B3:=x12.B3},{C2:=0,C5:=0,D7:=0,Value:=0},x0.2.2)))))) (.cn E3 (.an (Qn x3.1.Op E2 (wrap u32 x3.1.Imm)) (.lv (Qcj x3.1.Op E2 (wrap u32 x3.1.Imm)) λ(x13:Int×Bool)=>.an (Q3q c x3.1.A x13.1) (.lv (Q1x c x3.1.A x13.1) λ(x14:Q01)=>.lf ({X:=x14.X,Pc:=wrap u32 (x14.Pc+4),B3:=x14.B3},{C2:=0,C5:=0,D7:=0,Value:=0},x0.2.2)))))))));.br x5 (.br (iand u32 c.B3.a0 (1:Int)==(0:Int)) (.lv (Q30 c 2 x2.1) λ(x6:Q01)=>.lf (x6,{C2:=0,C5:=0,D7:=0,Value:=0},x0.2.2)) T1) T1))))
def Qd7 c m:=(Qma c m).m
abbrev Z1o c m:=(Qma c m).p
def xx:Q0a:=mT 143 [false,true] true [.agg Q01.sig,.one (.row 0)] [.arr 23 1 (.ints .u32)] (λa r=>Qma (Q01.of (aC a 0)) (rowL .u32 r 0)) (λX=>.tup [.agg (Q01.cells (X.1)),.agg (Q1b.cells (X.2.1))]) (λX=>[⟨false,23,1,.ints .u32 (X.2.2)⟩])
theorem Zl6:Q04 pG xx:=oT (.cons Qt2 (.cons Qik (.cons Qml (.cons Qpr (.cons Qrf (.cons Z2q (.cons Zeb (.cons Qxa (.cons Qgu (.cons Zf4 (.nil))))))))))) Tryz.func143 Tryz.call143 [] [] 2
end
noncomputable section
def Qcq(m:Q00)(z:(Int)):Nat:=(32-z).toNat
def Q4t(m:Q00):Tree Q01:=
.an (Qf7 m) (.lv (Q2f m) λ(x0:Int)=>.br (iand u32 m.B2.B3.a0 (2:Int)==(0:Int)) (.lf m.B2) (.br (x0==0) (.lf m.B2) (.lp inferInstance (Qcq m 0+1) ((rZ/\rZ/\rE (x0:Int)/\rE (0:Int)/\True)/\(mE m (((Els.Nil (Els.ints u32 m.Mem)\/rE (1:Nat))/\rE m.Mem)) True)/\(rE (0:Int)/\rE (0:Int)/\rE (0:Int)/\rE (0:Int)/\rE (0:Int)/\rE (0:Int)/\rE (0:Int)/\rE (0:Int)/\rE (0:Int)/\rE (0:Int)/\rE (0:Int)/\rE (0:Int)/\rE (0:Int)/\rE (0:Int)/\rE (0:Int)/\rE (0:Int)/\rE (0:Int)/\rE (0:Int)/\rE (0:Int)/\rE (0:Int)/\rE (0:Int)/\rE (0:Int)/\rE (0:Int)/\rE (0:Int)/\rE (0:Int)/\True)/\True) 0 λ(v0:Int)=>.cn (decide (0<=wrap u64 v0)) (.br (iand u32 (ishr u32 x0 (wrap u64 v0)) (1:Int)==(0:Int)) (.nx ((rZ/\rZ/\rE (x0:Int)/\rE ((wrap i64 (v0+1)):Int)/\True)/\(mE m (((Els.Nil (Els.ints u32 m.Mem)\/rE (1:Nat))/\rE m.Mem)) True)/\(rE (0:Int)/\rE (0:Int)/\rE (0:Int)/\rE (0:Int)/\rE (0:Int)/\rE (0:Int)/\rE (0:Int)/\rE (0:Int)/\rE (0:Int)/\rE (0:Int)/\rE (0:Int)/\rE (0:Int)/\rE (0:Int)/\rE (0:Int)/\rE (0:Int)/\rE (0:Int)/\rE (0:Int)/\rE (0:Int)/\rE (0:Int)/\rE (0:Int)/\rE (0:Int)/\rE (0:Int)/\rE (0:Int)/\rE (0:Int)/\rE (0:Int)/\True)/\True) (Sum.inl (wrap i64 (v0+1)))) (.lv (Q30 m.B2 (wrap i64 (16+v0)) 0) λ(x1:Q01)=>.lf (Sum.inr x1))))))
def Q09 m:=(Q4t m).m
abbrev Qae m:=(Q4t m).p
def Qqf:LInv:={
 α:=(Int)
 F:=λst a=>([(1,.ptr 0 0 0),(2,.ptr 1 0 0),(3,(lk st 3)),(4,.int i64 a)],[⟨true,42,49,.gen [mB (cT st 1)]⟩,⟨true,28,25,.gen [[(cT st 2 0),(cT st 2 1),(cT st 2 2),(cT st 2 3),(cT st 2 4),(cT st 2 5),(cT st 2 6),(cT st 2 7),(cT st 2 8),(cT st 2 9),(cT st 2 10),(cT st 2 11),(cT st 2 12),(cT st 2 13),(cT st 2 14),(cT st 2 15),(cT st 2 16),(cT st 2 17),(cT st 2 18),(cT st 2 19),(cT st 2 20),(cT st 2 21),(cT st 2 22),(cT st 2 23),(cT st 2 24)]]⟩])
 a0:=λst=>(lk st 4).toInt
 ex0:=λst=>[]++[(rX st 1 0),(rX st 2 1)]}
def Qng:List (Nat×LInv):=[(5,Qqf)]
def Qro:Q0a:=mT 142 [] true [.agg Q00.sig] [] (λa r=>Q4t (Q00.of (aC a 0))) (λX=>.agg (Q01.cells X)) (λX=>[])
theorem Qho:Q04 pG Qro:=oT (.cons Qmr (.cons Qik (.nil))) Tryz.func142 Tryz.call142 [] Qng 3
def Qeo(m:Q00):Tree Bool:=
.an (Qae m) (.lv (Q09 m) λ(x0:Q01)=>.br (iand u32 x0.B3.a0 (1:Int)==(0:Int)) (.lf false) (.an (Qbt m.Mem x0.Pc 4) (.lv (Q2p m.Mem x0.Pc 4) λ(x1:Int×Bool)=>.lv (Q4a x1.1) λ(x2:Q0f×Bool)=>.br x1.2 (.br x2.2 (.br (x2.1.Op==60) (.lf (x2.1.Imm==2)) (.lf false)) (.lf false)) (.lf false))))
def Z5m m:=(Qeo m).m
abbrev Qpw m:=(Qeo m).p
def Ze4:Q0a:=mT 105 [] true [.agg Q00.sig] [] (λa r=>Qeo (Q00.of (aC a 0))) (λX=>.bool X) (λX=>[])
theorem Z8c:Q04 pG Ze4:=oT (.cons Qho (.cons Qml (.cons Qpr (.nil)))) Tryz.func105 Tryz.call105 [] [] 2
def Q3s(c:Q0e)(port:Int):Tree (Q0e×Int):=
let T1:Tree ((Q0e×Int)):=.br (port==0) (.cn (decide ((0:Int)<=(1:Int)/\1<=(c.C9.length:Int)/\(c.C9.length:Int)<=(c.C9.length:Int))) (.cn (decide ((0:Int)<=(0:Int)/\0<(c.C9.length:Int))) (.lf ({C9:=cW (dB (c.C9.length:Int)-dB 1) (cX (dB 1) c.C9)},wrap u32 (↑(eQ (c.C9.getD (dB 0) (0:UInt8))):Int))))) (.br (port==1) (.lf (c,wrap u32 (c.C9.length:Int))) (.lf (c,0)));.br (port==0) (.br ((c.C9.length:Int)==(0:Int)) (.lf (c,4294967295)) T1) T1
def Q6t c port:=(Q3s c port).m
theorem Qtg(c:Q0e)(port:Int):(Q3s c port).p:=by
 unfold Tree.p Q3s
 repeat'(first|exact trivial|refine w_br (λ_=>?_) (λ_=>?_)|refine w_cn ?_ ?_|refine w_an ?_ ?_|refine w_lv (λ_ _=>?_)|refine w_nx ?_|refine w_lf ?_|refine And.intro ?_ ?_)
 all_goals(exact fin0)
def Qxc:Q0a:=mS 215 [] true [.agg Q0e.sig,.one (.int .i64)] [] (λa r=>Q3s (Q0e.of (aC a 0)) (argI a 1)) (λX=>.tup [.agg (Q0e.cells (X.1)),.int .u32 (X.2)]) (λX=>[])
theorem Quv:Q04 pG Qxc:=oS (.nil) Tryz.func215 Tryz.call215 [] [] 2 (λ_ _ _=>by kernel_rfl) (λa r=>Qtg (Q0e.of (aC a 0)) (argI a 1)) (λ_ X=>by kernel_rfl)
def Qe0(t:Q0l):Tree Int:=
.br t.D2 (.lf 1) (.lf 0)
def Qiv t:=(Qe0 t).m
def Z2x:Q0a:=mS 216 [] true [.agg Q0l.sig] [] (λa r=>Qe0 (Q0l.of (aC a 0))) (λX=>.int .u32 X) (λX=>[])
theorem Qyy:Q04 pG Z2x:=oS (.nil) Tryz.func216 Tryz.call216 [] [] 2
def Qfu(d0:Q0d)(port:Int):Tree Int:=
.br (port==4) (.lf d0.B8) (.br (port==5) (.lf d0.Frame) (.br (port==6) (.lf (wrap u32 d0.B7)) (.lf 0)))
def Qlb d0 port:=(Qfu d0 port).m
def Z7w:Q0a:=mS 217 [] true [.agg Q0d.sig,.one (.int .i64)] [] (λa r=>Qfu (Q0d.of (aC a 0)) (argI a 1)) (λX=>.int .u32 X) (λX=>[])
theorem Z2o:Q04 pG Z7w:=oS (.nil) Tryz.func217 Tryz.call217 [] [] 2
def Qed(n:Q0w)(port:Int):Tree Int:=
.br (port==7) (.lf n.Frame) (.br (port==8) (.lf n.E0) (.br (port==9) (.br n.C3 (.br n.B5 (.lf (wrap u32 ((1:Int)+(2:Int)))) (.lf 1)) (.br n.B5 (.lf (wrap u32 ((0:Int)+(2:Int)))) (.lf 0))) (.lf 0)))
def Qjh n port:=(Qed n port).m
def Zce:Q0a:=mS 218 [] true [.agg Q0w.sig,.one (.int .i64)] [] (λa r=>Qed (Q0w.of (aC a 0)) (argI a 1)) (λX=>.int .u32 X) (λX=>[])
theorem Z9o:Q04 pG Zce:=oS (.nil) Tryz.func218 Tryz.call218 [] [] 2
def Q60(b:Q06)(port:Int):Tree Int:=
.br (port==10) (.lf b.C4) (.br (port==11) (.lv (Qd4 b) λ(x0:Int)=>.lf (wrap u32 x0)) (.lf 0))
def Q6p b port:=(Q60 b port).m
def Qxg:Q0a:=mS 219 [] true [.agg Q06.sig,.one (.int .i64)] [] (λa r=>Q60 (Q06.of (aC a 0)) (argI a 1)) (λX=>.int .u32 X) (λX=>[])
theorem Qu7:Q04 pG Qxg:=oS (.cons Qrh (.nil)) Tryz.func219 Tryz.call219 [] [] 2
def Qnd(m:Q00)(port clock:Int):Tree (Int×Q00):=
.br (decide (port<=1)) (.lv (Q6t m.A2 port) λ(x0:Q0e×Int)=>.lf (x0.2,{B2:=m.B2,Mem:=m.Mem,A2:=x0.1,A9:=m.A9,A7:=m.A7,C1:=m.C1,A0:=m.A0,A3:=m.A3,A4:=m.A4,A6:=m.A6})) (.br (port==2) (.lf (clock,m)) (.br (port==3) (.lv (Qiv m.A9) λ(x1:Int)=>.lf (x1,m)) (.br (decide (port<=6)) (.lv (Qlb m.A7 port) λ(x2:Int)=>.lf (x2,m)) (.br (decide (port<=9)) (.lv (Qjh m.C1 port) λ(x3:Int)=>.lf (x3,m)) (.lv (Q6p m.A0 port) λ(x4:Int)=>.lf (x4,m))))))
def Qh m port clock:=(Qnd m port clock).m
def zx:Q0a:=mS 144 [true,false,false] true [.ptr 0,.one (.int .i64),.one (.int .u32)] [.box 42 49 (Q00.sigW (.row 1)),.arr 23 1 (.ints .u32)] (λa r=>Qnd (Q00.ofW (r.getD 0 default).cs (rowL .u32 r 1)) (argI a 1) (argI a 2)) (λX=>.int .u32 (X.1)) (λX=>[⟨true,42,49,.gen [(Q00.cellsW (X.2) (.all 1))]⟩,⟨false,23,1,.ints .u32 (X.2).Mem⟩])
theorem Zjn:Q04 pG zx:=oS (.cons Quv (.cons Qyy (.cons Z2o (.cons Z9o (.cons Qu7 (.nil)))))) Tryz.func144 Tryz.call144 [.row 23 1 (.ints .u32)] [] 2
def Qv(deadline:Int):Tree Q0l:=
.br (deadline==0) (.lf ({D4:=false,C6:=0,D2:=false})) (.lf ({D4:=true,C6:=deadline,D2:=false}))
def Qyu deadline:=(Qv deadline).m
def Zjm:Q0a:=mS 220 [] true [.one (.int .u32)] [] (λa r=>Qv (argI a 0)) (λX=>.agg (Q0l.cells X)) (λX=>[])
theorem Zfh:Q04 pG Zjm:=oS (.nil) Tryz.func220 Tryz.call220 [] [] 2
def Qsr(x n:Int)(z:(Int)×(List Int)):Prop:=0<=z.1/\(z.2.length:Int)=z.1/\(z.1<=n\/z.1=0)
def Qe3(x n:Int)(z:(Int)×(List Int)):Nat:=(n-z.1).toNat
def Qg6(x n:Int):Tree (List UInt8):=
.lp inferInstance (Qe3 x n (0,[])+1) ((rE (x:Int)/\rE (n:Int)/\True/\rE (0:Int)/\True)/\rE ([]:List Int)/\True) (0,[]) λ(v0:Int×List Int)=>.br (decide (v0.1<n)) (.cn (decide (0<=wrap u64 (wrap i64 (8*v0.1)))) (.cn (decide (1*(v0.2.length+1)<=140737488355328)) (.nx ((rE (x:Int)/\rE (n:Int)/\True/\rE ((wrap i64 (v0.1+1)):Int)/\True)/\rE ((v0.2++[wrap u8 (ishr u32 x (wrap u64 (wrap i64 (8*v0.1))))]):List Int)/\True) (Sum.inl (wrap i64 (v0.1+1),v0.2++[wrap u8 (ishr u32 x (wrap u64 (wrap i64 (8*v0.1))))]))))) (.lf (Sum.inr (bytesOf v0.2)))
def Z9z x n:=(Qg6 x n).m
def Qid(x n:Int):Prop:=
n<=1000000000000
theorem Zc3(x n:Int)(hw:Qid x n):(Qg6 x n).p:=by
 simp only[Qid]at hw
 unfold Tree.p Qg6
 repeat'(first|refine w_lp (inv:=Qsr x n) (μ:=Qe3 x n) ?_ (cL _) (λ_ _=>?_)|exact trivial|refine w_br (λ_=>?_) (λ_=>?_)|refine w_cn ?_ ?_|refine w_an ?_ ?_|refine w_lv (λ_ _=>?_)|refine w_nx ?_|refine w_lf ?_|refine And.intro ?_ ?_)
 all_goals((try simp only[Qsr,Qe3]at*);exact fin0)
def Zhd:LInv:={
 α:=(Int)×(List Int)
 F:=λst a=>([(0,(lk st 0)),(1,(lk st 1)),(5,.all 0),(6,.int i64 a.1)],[⟨false,5,1,.ints u8 a.2⟩])
 a0:=λst=>((lk st 6).toInt,(Q5t st.rows (rN st 5)))
 ex0:=λst=>[]++[(rX st 5 0)]}
def Z9j:List (Nat×LInv):=[(3,Zhd)]
def Zkb:Q0a:=mkP 304 [] true [.one (.int .u32),.one (.int .i64)] [] (λa r=>Qid (argI a 0) (argI a 1)) (λa r=>Z9z (argI a 0) (argI a 1)) (λX=>.str X) (λX=>[])
theorem Zfm:Q04 pG Zkb:=Q0i drawn Q0h (.nil) Tryz.func304 Tryz.call304 (λa r=>Qg6 (argI a 0) (argI a 1)) [] Z9j 3 (hp:=λa r h=>Zc3 (argI a 0) (argI a 1) h)
def Qi6(m:List Int)(frame:Int)(z:(Int)×(List Int)):Nat:=(32-z.1).toNat
def Q8t(m:List Int)(frame:Int):Tree ((List UInt8)×Bool):=
.br (decide (frame<0)) (.lf ([],false)) (.lv (Q4b m) λ(x0:Int)=>.br (decide (frame>=x0)) (.lf ([],false)) (.lp inferInstance (Qi6 m frame (0,[])+1) ((((Els.Nil (Els.ints u32 m)\/rE (1:Nat))/\rE (m:List Int))/\rE (frame:Int)/\True/\rE (0:Int)/\True)/\rE ([]:List Int)/\True) (0,[]) λ(v0:Int×List Int)=>.br (decide (v0.1<32)) (.cn (bT 1 1&&bJ 0 1&&decide (0<=wrap i64 (wrap i64 (frame*32)+v0.1)/\wrap i64 (wrap i64 (frame*32)+v0.1)<(m.length:Int))) (let E1:=m.getD (dB (wrap i64 (wrap i64 (frame*32)+v0.1))) 0;.an (Qid E1 4) (.lv (Z9z E1 4) λ(x1:List UInt8)=>.cn (decide (1*(v0.2.length+dG (Qat x1))<=140737488355328)) (.nx ((((Els.Nil (Els.ints u32 m)\/rE (1:Nat))/\rE (m:List Int))/\rE (frame:Int)/\True/\rE ((wrap i64 (v0.1+1)):Int)/\True)/\rE ((v0.2++Qat x1):List Int)/\True) (Sum.inl (wrap i64 (v0.1+1),v0.2++Qat x1)))))) (.lf (Sum.inr (bytesOf v0.2,true)))))
def Qgv m frame:=(Q8t m frame).m
abbrev Qfs m frame:=(Q8t m frame).p
def Zbf:LInv:={
 α:=(Int)×(List Int)
 F:=λst a=>([(0,(lk st 0)),(1,(lk st 1)),(6,.all 0),(7,.int i64 a.1)],[⟨false,5,1,.ints u8 a.2⟩])
 a0:=λst=>((lk st 7).toInt,(Q5t st.rows (rN st 6)))
 ex0:=λst=>[]++[(rX st 6 0)]}
def Z36:List (Nat×LInv):=[(5,Zbf)]
def Zgb:Q0a:=mT 283 [] true [.one (.ints .u32),.one (.int .i64)] [] (λa r=>Q8t (argL .u32 a 0) (argI a 1)) (λX=>.tup [.str (X.1),.bool (X.2)]) (λX=>[])
theorem Qwo:Q04 pG Zgb:=oT (.cons Qcm (.cons Zfm (.nil))) Tryz.func283 Tryz.call283 [] Z36 3
def Qpf(d0:Q0d)(at0:Int):Tree (Q0b×Bool):=
.br (d0.B7 !=1) (.lf ({C2:=0,At:=0,B8:=0,C8:=[]},false)) (.br (d0.D6==1) (.lf ({C2:=3,At:=at0,B8:=d0.B4,C8:=[]},true)) (.br (d0.D6==2) (.lf ({C2:=4,At:=at0,B8:=d0.B4,C8:=d0.C0},true)) (.lf ({C2:=0,At:=0,B8:=0,C8:=[]},false))))
def Qii d0 at0:=(Qpf d0 at0).m
def Z45:Q0a:=mS 284 [] true [.agg Q0d.sig,.one (.int .u64)] [] (λa r=>Qpf (Q0d.of (aC a 0)) (argI a 1)) (λX=>.tup [.agg (Q0b.cells (X.1)),.bool (X.2)]) (λX=>[])
theorem Z1c:Q04 pG Z45:=oS (.nil) Tryz.func284 Tryz.call284 [] [] 2
def Q8k(d0:Q0d)(m:List Int)(port v at0:Int):Tree (Q0d×(List Q0b)):=
.br (port==4) (.lf ({Blocks:=d0.Blocks,B8:=v,Frame:=d0.Frame,B7:=d0.B7,D6:=d0.D6,B4:=d0.B4,B1:=d0.B1,C0:=d0.C0},[])) (.br (port==5) (.lf ({Blocks:=d0.Blocks,B8:=d0.B8,Frame:=v,B7:=d0.B7,D6:=d0.D6,B4:=d0.B4,B1:=d0.B1,C0:=d0.C0},[])) (.br (port !=6) (.lf (d0,[])) (let T1:Tree ((Q0d×(List Q0b))):=.br (d0.B7==0) (let T2:Tree ((Q0d×(List Q0b))):=.lf ({Blocks:=d0.Blocks,B8:=d0.B8,Frame:=d0.Frame,B7:=3,D6:=d0.D6,B4:=d0.B4,B1:=d0.B1,C0:=d0.C0},[]);.br (decide (d0.B8>=d0.Blocks)) T2 (.lv (Q2b m d0.Frame) λ(x0:Bool)=>.br (!x0) T2 (.br (v==2) (.an (Qfs m (wrap i64 d0.Frame)) (.lv (Qgv m (wrap i64 d0.Frame)) λ(x1:List UInt8×Bool)=>let E4:=({Blocks:=d0.Blocks,B8:=d0.B8,Frame:=d0.Frame,B7:=1,D6:=wrap i64 v,B4:=d0.B8,B1:=d0.Frame,C0:=x1.1}:Q0d);.lv (Qii E4 at0) λ(x2:Q0b×Bool)=>.lf (E4,[x2.1]))) (let E5:=({Blocks:=d0.Blocks,B8:=d0.B8,Frame:=d0.Frame,B7:=1,D6:=wrap i64 v,B4:=d0.B8,B1:=d0.Frame,C0:=[]}:Q0d);.lv (Qii E5 at0) λ(x3:Q0b×Bool)=>.lf (E5,[x3.1]))))) (.lf (d0,[]));.br (v==0) (let T3:Tree ((Q0d×(List Q0b))):=.lf ({Blocks:=d0.Blocks,B8:=d0.B8,Frame:=d0.Frame,B7:=0,D6:=d0.D6,B4:=d0.B4,B1:=d0.B1,C0:=d0.C0},[]);.br (d0.B7==2) T3 (.br (d0.B7==3) T3 (.br (v==1) T1 (.br (v==2) T1 (.lf (d0,[])))))) (.br (v==1) T1 (.br (v==2) T1 (.lf (d0,[])))))))
def Qip d0 m port v at0:=(Q8k d0 m port v at0).m
abbrev Qm0 d0 m port v at0:=(Q8k d0 m port v at0).p
def Z49:Q0a:=mT 221 [] true [.agg Q0d.sig,.one (.ints .u32),.one (.int .i64),.one (.int .u32),.one (.int .u64)] [] (λa r=>Q8k (Q0d.of (aC a 0)) (argL .u32 a 1) (argI a 2) (argI a 3) (argI a 4)) (λX=>.tup [.agg (Q0d.cells (X.1)),.sl 4 (.recs .apiOutput (X.2)) true]) (λX=>[])
theorem Z1n:Q04 pG Z49:=oT (.cons Qem (.cons Qwo (.cons Z1c (.nil)))) Tryz.func221 Tryz.call221 [.sl (.recs .apiOutput) true] [] 2
def Q9q(n:Q0w)(m:List Int)(port v at0:Int):Tree (Q0w×(List Q0b)):=
.br (port==7) (.lf ({Frame:=v,D8:=n.D8,C3:=n.C3,B6:=n.B6,B5:=n.B5,E0:=n.E0},[])) (.br (port==8) (.lf ({Frame:=n.Frame,D8:=v,C3:=n.C3,B6:=n.B6,B5:=n.B5,E0:=n.E0},[])) (.br (port !=9) (.lf (n,[])) (.br (v==0) (.lf ({Frame:=n.Frame,D8:=n.D8,C3:=n.C3,B6:=n.B6,B5:=false,E0:=0},[])) (let T1:Tree ((Q0w×(List Q0b))):=.br (v==2) (.lv (Q2b m n.Frame) λ(x2:Bool)=>.br x2 (.br (!n.C3) (.br (!n.B5) (.lf ({Frame:=n.Frame,D8:=n.D8,C3:=true,B6:=n.Frame,B5:=n.B5,E0:=n.E0},[])) (.lf (n,[]))) (.lf (n,[]))) (.lf (n,[]))) (.lf (n,[]));.br (v==1) (.br (decide (n.D8>=1)) (.br (decide (n.D8<=128)) (.lv (Q2b m n.Frame) λ(x0:Bool)=>.br x0 (.an (Qfs m (wrap i64 n.Frame)) (.lv (Qgv m (wrap i64 n.Frame)) λ(x1:List UInt8×Bool)=>.cn (decide ((0:Int)<=(0:Int)/\0<=n.D8/\n.D8<=(x1.1.length:Int))) (.lf (n,[{C2:=2,At:=at0,B8:=0,C8:=cW (dB n.D8-dB 0) (cX (dB 0) x1.1)}])))) T1) T1) T1) T1))))
def Qki n m port v at0:=(Q9q n m port v at0).m
abbrev Qn0 n m port v at0:=(Q9q n m port v at0).p
def Z7n:Q0a:=mT 222 [] true [.agg Q0w.sig,.one (.ints .u32),.one (.int .i64),.one (.int .u32),.one (.int .u64)] [] (λa r=>Q9q (Q0w.of (aC a 0)) (argL .u32 a 1) (argI a 2) (argI a 3) (argI a 4)) (λX=>.tup [.agg (Q0w.cells (X.1)),.sl 4 (.recs .apiOutput (X.2)) true]) (λX=>[])
theorem Z40:Q04 pG Z7n:=oT (.cons Qem (.cons Qwo (.nil))) Tryz.func222 Tryz.call222 [.sl (.recs .apiOutput) true] [] 2
def Qhy(b:Q06)(m:List Int)(port v:Int)(z:(Int)×(List Int)):Nat:=(32-z.1).toNat
def Q4z(b:Q06)(m:List Int)(port v:Int):Tree (Q06×(List Int)):=
let T1:Tree ((Q06×(List Int))):=.br (port==11) (.br (decide (v<32)) (.cn (decide (0<=v)) (.lf ({C4:=b.C4,B9:=Q7k u32 b.B9 (ishl u32 1 v)},m))) (.lf (b,m))) (.lf (b,m));.br (port==10) (.lv (Q2b m v) λ(x0:Bool)=>.br x0 (.cn (decide (0<=v)) (.br (iand u32 (ishr u32 b.B9 v) (1:Int)==(0:Int)) (.cn (decide (0<=v)) (.lp inferInstance (Qhy b m port v (0,m)+1) ((True/\rE (v:Int)/\rZ/\rZ/\rE (0:Int)/\True)/\rE (m:List Int)/\(rE b.C4/\rE ((ior u32 b.B9 (ishl u32 1 v)):Int)/\True)/\(rE (0:Int)/\rE (0:Int)/\True)/\True) (0,m) λ(v0:Int×List Int)=>.br (decide (v0.1<32)) (let E2:=wrap i64 (wrap i64 v*32)+v0.1;.cn (bT 1 1&&bJ 0 1&&decide (0<=wrap i64 E2/\wrap i64 E2<(v0.2.length:Int))) (.nx ((True/\rE (v:Int)/\rZ/\rZ/\rE ((wrap i64 (v0.1+1)):Int)/\True)/\rE ((dC v0.2 (dB (wrap i64 (wrap i64 (wrap i64 v*32)+v0.1))) 0):List Int)/\(rE b.C4/\rE ((ior u32 b.B9 (ishl u32 1 v)):Int)/\True)/\(rE (0:Int)/\rE (0:Int)/\True)/\True) (Sum.inl (wrap i64 (v0.1+1),dC v0.2 (dB (wrap i64 E2)) 0)))) (.lf (Sum.inr ({C4:=b.C4,B9:=ior u32 b.B9 (ishl u32 1 v)},v0.2))))) T1)) T1) T1
def Q77 b m port v:=(Q4z b m port v).m
abbrev Qsf b m port v:=(Q4z b m port v).p
def Zd:LInv:={
 α:=(Int)×(List Int)
 F:=λst a=>([(1,.all 0),(3,(lk st 3)),(4,.ptr 1 0 0),(8,.ptr 2 0 0),(9,.int i64 a.1)],[⟨false,23,1,.ints u32 a.2⟩,⟨true,39,2,.gen [[(cT st 4 0),(cT st 4 1)]]⟩,⟨true,39,2,.gen [[(cT st 8 0),(cT st 8 1)]]⟩])
 a0:=λst=>((lk st 9).toInt,(Q5t st.rows 0))
 ex0:=λst=>[0]++[(rX st 4 1),(rX st 8 2)]}
def Z3h:List (Nat×LInv):=[(4,Zd)]
def Zf3:Q0a:=mT 223 [false,true,false,false] true [.agg Q06.sig,.one (.row 0),.one (.int .i64),.one (.int .u32)] [.arr 23 1 (.ints .u32)] (λa r=>Q4z (Q06.of (aC a 0)) (rowL .u32 r 0) (argI a 2) (argI a 3)) (λX=>.agg (Q06.cells (X.1))) (λX=>[⟨false,23,1,.ints .u32 (X.2)⟩])
theorem Zbo:Q04 pG Zf3:=oT (.cons Qem (.nil)) Tryz.func223 Tryz.call223 [] Z3h 3
def Qg2(m:Q00)(port v:Int):Tree ((List Q0b)×Q00):=
.br (port==0) (.lf ([{C2:=1,At:=m.A3,B8:=0,C8:=[(λ(n:Int)=>eR n.toNat) (wrap u8 v)]}],m)) (.br (decide (port<=2)) (.lf ([],m)) (.br (port==3) (.lv (Qyu v) λ(x0:Q0l)=>.lf ([],{B2:=m.B2,Mem:=m.Mem,A2:=m.A2,A9:=x0,A7:=m.A7,C1:=m.C1,A0:=m.A0,A3:=m.A3,A4:=m.A4,A6:=m.A6})) (.br (decide (port<=6)) (.an (Qm0 m.A7 m.Mem port v m.A3) (.lv (Qip m.A7 m.Mem port v m.A3) λ(x1:Q0d×List Q0b)=>.lf (x1.2,{B2:=m.B2,Mem:=m.Mem,A2:=m.A2,A9:=m.A9,A7:=x1.1,C1:=m.C1,A0:=m.A0,A3:=m.A3,A4:=m.A4,A6:=m.A6}))) (.br (decide (port<=9)) (.an (Qn0 m.C1 m.Mem port v m.A3) (.lv (Qki m.C1 m.Mem port v m.A3) λ(x2:Q0w×List Q0b)=>.lf (x2.2,{B2:=m.B2,Mem:=m.Mem,A2:=m.A2,A9:=m.A9,A7:=m.A7,C1:=x2.1,A0:=m.A0,A3:=m.A3,A4:=m.A4,A6:=m.A6}))) (.an (Qsf m.A0 m.Mem port v) (.lv (Q77 m.A0 m.Mem port v) λ(x3:Q06×List Int)=>.lf ([],{B2:=m.B2,Mem:=x3.2,A2:=m.A2,A9:=m.A9,A7:=m.A7,C1:=m.C1,A0:=x3.1,A3:=m.A3,A4:=m.A4,A6:=m.A6})))))))
def Qe1 m port v:=(Qg2 m port v).m
abbrev Qwv m port v:=(Qg2 m port v).p
def Zlh:Q0a:=mT 146 [true,false,false] true [.ptr 0,.one (.int .i64),.one (.int .u32)] [.box 42 49 (Q00.sigW (.row 1)),.arr 23 1 (.ints .u32)] (λa r=>Qg2 (Q00.ofW (r.getD 0 default).cs (rowL .u32 r 1)) (argI a 1) (argI a 2)) (λX=>.sl 4 (.recs .apiOutput (X.1)) true) (λX=>[⟨true,42,49,.gen [(Q00.cellsW (X.2) (.all 1))]⟩,⟨false,23,1,.ints .u32 (X.2).Mem⟩])
theorem Zg0:Q04 pG Zlh:=oT (.cons Zfh (.cons Z1n (.cons Z40 (.cons Zbo (.nil))))) Tryz.func146 Tryz.call146 [.sl (.recs .apiOutput) true,.row 23 1 (.ints .u32)] [] 2
def Qay(m:Q00)(clock:Int):Tree ((List Q0b)×Q00):=
.an (Qae m) (.lv (Q09 m) λ(x0:Q01)=>.an (Z1o x0 m.Mem) (.lv (Qd7 x0 m.Mem) λ(x1:Q01×Q1b×List Int)=>let E1:=({B2:=x1.1,Mem:=x1.2.2,A2:=m.A2,A9:=m.A9,A7:=m.A7,C1:=m.C1,A0:=m.A0,A3:=m.A3,A4:=false,A6:=m.A6}:Q00);.br (x1.2.1.C2==1) (.lv (Qh E1 x1.2.1.C5 clock) λ(x2:Int×Q00)=>.an (Q3q x2.2.B2 x1.2.1.D7 x2.1) (.lv (Q1x x2.2.B2 x1.2.1.D7 x2.1) λ(x3:Q01)=>.lf ([],{B2:=x3,Mem:=x2.2.Mem,A2:=x2.2.A2,A9:=x2.2.A9,A7:=x2.2.A7,C1:=x2.2.C1,A0:=x2.2.A0,A3:=wrap u64 (x2.2.A3+1),A4:=x2.2.A4,A6:=x2.2.A6}))) (.br (x1.2.1.C2==2) (.an (Qwv E1 x1.2.1.C5 x1.2.1.Value) (.lv (Qe1 E1 x1.2.1.C5 x1.2.1.Value) λ(x4:List Q0b×Q00)=>.lf (x4.1,{B2:=x4.2.B2,Mem:=x4.2.Mem,A2:=x4.2.A2,A9:=x4.2.A9,A7:=x4.2.A7,C1:=x4.2.C1,A0:=x4.2.A0,A3:=wrap u64 (x4.2.A3+1),A4:=x4.2.A4,A6:=x4.2.A6}))) (.br (x1.2.1.C2==3) (.lf ([],{B2:=x1.1,Mem:=x1.2.2,A2:=m.A2,A9:=m.A9,A7:=m.A7,C1:=m.C1,A0:=m.A0,A3:=wrap u64 (m.A3+1),A4:=true,A6:=m.A6})) (.br (x1.2.1.C2==4) (.lf ([],{B2:=x1.1,Mem:=x1.2.2,A2:=m.A2,A9:=m.A9,A7:=m.A7,C1:=m.C1,A0:=m.A0,A3:=wrap u64 (m.A3+1),A4:=false,A6:=true})) (.lf ([],{B2:=x1.1,Mem:=x1.2.2,A2:=m.A2,A9:=m.A9,A7:=m.A7,C1:=m.C1,A0:=m.A0,A3:=wrap u64 (m.A3+1),A4:=false,A6:=m.A6})))))))
def Q22 m clock:=(Qay m clock).m
abbrev Qf4 m clock:=(Qay m clock).p
def Z3c:Q0a:=mT 89 [true,false] true [.ptr 0,.one (.int .u32)] [.box 42 49 (Q00.sigW (.row 1)),.arr 23 1 (.ints .u32)] (λa r=>Qay (Q00.ofW (r.getD 0 default).cs (rowL .u32 r 1)) (argI a 1)) (λX=>.sl 4 (.recs .apiOutput (X.1)) true) (λX=>[⟨true,42,49,.gen [(Q00.cellsW (X.2) (.all 1))]⟩,⟨false,23,1,.ints .u32 (X.2).Mem⟩])
theorem Qmh:Q04 pG Z3c:=oT (.cons Qho (.cons Zl6 (.cons Zjn (.cons Qgu (.cons Zg0 (.nil)))))) Tryz.func89 Tryz.call89 [.sl (.recs .apiOutput) true,.row 23 1 (.ints .u32)] [] 2
end
noncomputable section
instance sumInhZg {α β:Type} [Inhabited β]:Inhabited (α⊕β):=⟨.inr default⟩
