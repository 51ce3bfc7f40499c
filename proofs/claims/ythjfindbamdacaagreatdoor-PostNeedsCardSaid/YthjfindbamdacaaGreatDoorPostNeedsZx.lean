import Derived.Test.YthjfindbamdacaaGreatDoorPostNeedsYz
open Nat renaming blt->bJ,beq->bT,lt_succ_self->cL
open List renaming length->dG,replicate->cM,take->cW,drop->cX,set->dC,getD->aK
open Int renaming toNat->dB,tdiv->eN,tmod->dA
open UInt8 renaming ofNat->eR,toNat->eQ
set_option maxRecDepth 100000
set_option linter.all false
namespace Go.Proofs.YthjfindbamdacaaGreatDoor
open Go Go.GD Go.IntKind
noncomputable section
def Q95(m:List Int):Tree (List Int):=
.cn (bJ (0:Nat) (1:Nat)&&bT (1:Nat) (1:Nat)&&List.all [D.int u32 (0:Int)] D.plain&&decide ((0:Int)<=(m.length:Int)/\(m.length:Int)<=(m.length:Int)/\(m.length:Int)<=(9223372036854775807:Int)/\(↑(4:Nat):Int)*(m.length:Int)<=(140737488355328:Int))) (let E1:=dG (cM (dB (m.length:Int)) (0:Int));.lf (cW (Min.min (m.length) E1) m++cX (Min.min (m.length) E1) (cM (dB (m.length:Int)) (0:Int))))
def Qmz m:=(Q95 m).m
abbrev Qs7 m:=(Q95 m).p
def Zh0:Q0a:=mT 141 [] true [.one (.ints .u32)] [] (λa r=>Q95 (argL .u32 a 0)) (λX=>.all 0) (λX=>[⟨false,23,1,.ints .u32 X⟩])
theorem Zaq:Q04 pG Zh0:=oT (.nil) Tryz.func141 Tryz.call141 [.row 23 1 (.ints .u32)] [] 2
def Qbg(m:Q00):Tree Q00:=
.an (Qs7 m.Mem) (.lv (Qmz m.Mem) λ(x0:List Int)=>.lf ({B2:=m.B2,Mem:=x0,A2:=m.A2,A9:=m.A9,A7:=m.A7,C2:=m.C2,A0:=m.A0,A3:=m.A3,A4:=m.A4,A6:=m.A6}))
def Qoi m:=(Qbg m).m
abbrev Qic m:=(Qbg m).p
def Zkf:Q0a:=mT 87 [] true [.agg Q00.sig] [] (λa r=>Qbg (Q00.of (aC a 0))) (λX=>.agg (Q00.cellsW X (.all 0))) (λX=>[⟨false,23,1,.ints .u32 X.Mem⟩])
theorem Qqg:Q04 pG Zkf:=oT (.cons Zaq (.nil)) Tryz.func87 Tryz.call87 [.row 23 1 (.ints .u32)] [] 2
def Qpy(n k:Int)(z:(Int)×(List Int)):Prop:=0<=z.1/\(z.2.length:Int)=z.1/\(z.1<=k\/z.1=0)
def Qc4(n k:Int)(z:(Int)×(List Int)):Nat:=(k-z.1).toNat
def Qd7(n k:Int):Tree (List UInt8):=
.lp inferInstance (Qc4 n k (0,[])+1) ((rE (n:Int)/\rE (k:Int)/\True/\rE (0:Int)/\True)/\rE ([]:List Int)/\True) (0,[]) λ(v0:Int×List Int)=>.br (decide (v0.1<k)) (.lv (Qyp n (wrap i64 (eN v0.1 9))) λ(x0:Int)=>.cn (decide (1*(v0.2.length+1)<=140737488355328)) (.nx ((rE (n:Int)/\rE (k:Int)/\True/\rE ((wrap i64 (v0.1+1)):Int)/\True)/\rE ((v0.2++[wrap u8 x0]):List Int)/\True) (Sum.inl (wrap i64 (v0.1+1),v0.2++[wrap u8 x0])))) (.lf (Sum.inr (bytesOf v0.2)))
def Qn2 n k:=(Qd7 n k).m
def Q6c(n k:Int):Prop:=
k<=1000000000000
theorem Z8p(n k:Int)(hw:Q6c n k):(Qd7 n k).p:=by
 simp only[Q6c]at hw
 unfold Tree.p Qd7
 repeat'(first|refine w_lp (inv:=Qpy n k) (μ:=Qc4 n k) ?_ (cL _) (λ_ _=>?_)|exact trivial|refine w_br (λ_=>?_) (λ_=>?_)|refine w_cn ?_ ?_|refine w_an ?_ ?_|refine w_lv (λ_ _=>?_)|refine w_nx ?_|refine w_lf ?_|refine And.intro ?_ ?_)
 all_goals((try simp only[Qpy,Qc4]at*);exact fin0)
def Zcq:LInv:={
 α:=(Int)×(List Int)
 F:=λst a=>([(0,(lk st 0)),(1,(lk st 1)),(5,.all 0),(6,.int i64 a.1)],[⟨false,5,1,.ints u8 a.2⟩])
 a0:=λst=>((lk st 6).toInt,(Q5v st.rows (rN st 5)))
 ex0:=λst=>[]++[(rX st 5 0)]}
def Z2o:List (Nat×LInv):=[(3,Zcq)]
def Zha:Q0a:=mkP 20 [] true [.one (.int .i64),.one (.int .i64)] [] (λa r=>Q6c (argI a 0) (argI a 1)) (λa r=>Qn2 (argI a 0) (argI a 1)) (λX=>.str X) (λX=>[])
theorem Qwq:Q04 pG Zha:=Q0i drawn Q0h (.cons Qqt (.nil)) Tryz.func20 Tryz.call20 (λa r=>Qd7 (argI a 0) (argI a 1)) [] Z2o 3 (hp:=λa r h=>Z8p (argI a 0) (argI a 1) h)
def Qen(n:Int):Tree Q0v:=
.lv (Qyp n 2) λ(x0:Int)=>.br (dA x0 (7:Int)==(0:Int)) (.lf ({C1:=2,N:=0,C8:=[]})) (.br (dA x0 (7:Int)==(1:Int)) (.lf ({C1:=3,N:=wrap u32 (iand i64 (ishr i64 x0 8) 255),C8:=[]})) (.br (dA x0 (7:Int)==(2:Int)) (.lf ({C1:=3,N:=wrap u32 (iand i64 (ishr i64 x0 8) 255),C8:=[]})) (.br (dA x0 (7:Int)==(3:Int)) (.lf ({C1:=4,N:=1,C8:=[]})) (.br (dA x0 (7:Int)==(4:Int)) (.an (Q6c x0 128) (.lv (Qn2 x0 128) λ(x1:List UInt8)=>.lf ({C1:=4,N:=1,C8:=x1}))) (.br (dA x0 (7:Int)==(5:Int)) (let E1:=wrap i64 (1+dA (ishr i64 x0 8) 40);.an (Q6c x0 E1) (.lv (Qn2 x0 E1) λ(x2:List UInt8)=>.lf ({C1:=5,N:=0,C8:=x2}))) (.br (dA (ishr i64 x0 8) (4:Int)==(0:Int)) (.lf ({C1:=4,N:=0,C8:=[]})) (.lf ({C1:=6,N:=wrap u32 (dA (ishr i64 x0 8) 3),C8:=[]}))))))))
def Qv4 n:=(Qen n).m
abbrev Qpi n:=(Qen n).p
def Zdh:Q0a:=mT 28 [] true [.one (.int .i64)] [] (λa r=>Qen (argI a 0)) (λX=>.agg (Q0v.cells X)) (λX=>[])
theorem Z9p:Q04 pG Zdh:=oT (.cons Qqt (.cons Qwq (.nil))) Tryz.func28 Tryz.call28 [] [] 2
def Qn0(m:List Int):Tree Int:=
.br (dA (m.length:Int) (32:Int) !=(0:Int)) (.lf 0) (.br (decide ((m.length:Int)>(1024:Int))) (.lf 0) (.lf (wrap i64 (eN (m.length:Int) 32))))
def Q46 m:=(Qn0 m).m
def Zae:Q0a:=mS 157 [] true [.one (.ints .u32)] [] (λa r=>Qn0 (argL .u32 a 0)) (λX=>.int .i64 X) (λX=>[])
theorem Qby:Q04 pG Zae:=oS (.nil) Tryz.func157 Tryz.call157 [] [] 2
def Qk4(c:Q0e):Tree Bool:=
.lf (decide ((c.C9.length:Int)<=(16:Int)))
def Qhu c:=(Qk4 c).m
def Qu:Q0a:=mS 158 [] true [.agg Q0e.sig] [] (λa r=>Qk4 (Q0e.of (aC a 0))) (λX=>.bool X) (λX=>[])
theorem Qrr:Q04 pG Qu:=oS (.nil) Tryz.func158 Tryz.call158 [] [] 2
def Qhk(t:Q0l):Tree Bool:=
.br t.D4 (.br t.D3 (.lf false) (.br t.D4 (.lf (t.C6 !=0)) (.br t.D3 (.lf true) (.lf (t.C6==0))))) (.br t.D4 (.lf (t.C6 !=0)) (.br t.D3 (.lf true) (.lf (t.C6==0))))
def Qch t:=(Qhk t).m
def Qzo:Q0a:=mS 159 [] true [.agg Q0l.sig] [] (λa r=>Qhk (Q0l.of (aC a 0))) (λX=>.bool X) (λX=>[])
theorem Qy3:Q04 pG Qzo:=oS (.nil) Tryz.func159 Tryz.call159 [] [] 2
def Qjg(d0:Q0d)(pages:Int):Tree Bool:=
.br (decide (d0.Blocks>64)) (.lf false) (.br (decide (d0.B7<0)) (.lf false) (.br (decide (d0.B7>3)) (.lf false) (.br (d0.B7 !=1) (.br (d0.D6==0) (.br (d0.B4==0) (.br (d0.B1==0) (.lf (decide (d0.C0=[]))) (.lf false)) (.lf false)) (.lf false)) (.br (decide (d0.B4>=d0.Blocks)) (.lf false) (.br (decide (wrap i64 d0.B1>=pages)) (.lf false) (.br (d0.D6==1) (.br (decide (d0.C0=[])) (.lf true) (.br (d0.D6==2) (.lf ((d0.C0.length:Int)==(128:Int))) (.lf false))) (.br (d0.D6==2) (.lf ((d0.C0.length:Int)==(128:Int))) (.lf false))))))))
def Qei d0 pages:=(Qjg d0 pages).m
def Z3b:Q0a:=mS 160 [] true [.agg Q0d.sig,.one (.int .i64)] [] (λa r=>Qjg (Q0d.of (aC a 0)) (argI a 1)) (λX=>.bool X) (λX=>[])
theorem Z1e:Q04 pG Z3b:=oS (.nil) Tryz.func160 Tryz.call160 [] [] 2
def Qki(n:Q0w)(pages:Int):Tree Bool:=
let T1:Tree (Bool):=.br n.B5 (.br (decide (n.E0>=1)) (.lf (decide (n.E0<=128))) (.lf false)) (.lf (n.E0==0));.br n.C3 (.br n.B5 (.lf false) (.br (decide (wrap i64 n.B6>=pages)) (.lf false) (.br (!n.C3) (.br (n.B6 !=0) (.lf false) T1) T1))) (.br (!n.C3) (.br (n.B6 !=0) (.lf false) T1) T1)
def Qgj n pages:=(Qki n pages).m
def Z7c:Q0a:=mS 161 [] true [.agg Q0w.sig,.one (.int .i64)] [] (λa r=>Qki (Q0w.of (aC a 0)) (argI a 1)) (λX=>.bool X) (λX=>[])
theorem Z30:Q04 pG Z7c:=oS (.nil) Tryz.func161 Tryz.call161 [] [] 2
def Qfh(b:Q06)(pages:Int)(z:(Int)):Prop:=0<=z/\z<=32
def Q6f(b:Q06)(pages:Int)(z:(Int)):Nat:=(32-z).toNat
def Q5d(b:Q06)(pages:Int):Tree Bool:=
.lp inferInstance (Q6f b pages 0+1) ((rE (pages:Int)/\rZ/\rE (0:Int)/\True)/\(rE b.C4/\rE b.B9/\True)/\True) 0 λ(v0:Int)=>.br (decide (v0<32)) (.cn (decide (0<=wrap u64 v0)) (let T1:Tree ((Int)⊕(Bool)):=.nx ((rE (pages:Int)/\rZ/\rE ((wrap i64 (v0+1)):Int)/\True)/\(rE b.C4/\rE b.B9/\True)/\True) (Sum.inl (wrap i64 (v0+1)));.br (iand u32 (ishr u32 b.B9 (wrap u64 v0)) (1:Int)==(1:Int)) (.br (decide (v0>=pages)) (.lf (Sum.inr false)) T1) T1)) (.lf (Sum.inr true))
def Q8x b pages:=(Q5d b pages).m
theorem Qqi(b:Q06)(pages:Int):(Q5d b pages).p:=by
 unfold Tree.p Q5d
 repeat'(first|refine w_lp (inv:=Qfh b pages) (μ:=Q6f b pages) ?_ (cL _) (λ_ _=>?_)|exact trivial|refine w_br (λ_=>?_) (λ_=>?_)|refine w_cn ?_ ?_|refine w_an ?_ ?_|refine w_lv (λ_ _=>?_)|refine w_nx ?_|refine w_lf ?_|refine And.intro ?_ ?_)
 all_goals((try simp only[Qfh,Q6f]at*);exact fin0)
def Qt7:LInv:={
 α:=(Int)
 F:=λst a=>([(1,(lk st 1)),(2,.ptr 0 0 0),(5,.int i64 a)],[⟨true,39,2,.gen [[(cT st 2 0),(cT st 2 1)]]⟩])
 a0:=λst=>(lk st 5).toInt
 ex0:=λst=>[]++[(rX st 2 0)]}
def Qp3:List (Nat×LInv):=[(2,Qt7)]
def Qvj:Q0a:=mS 162 [] true [.agg Q06.sig,.one (.int .i64)] [] (λa r=>Q5d (Q06.of (aC a 0)) (argI a 1)) (λX=>.bool X) (λX=>[])
theorem Qrx:Q04 pG Qvj:=oS (.nil) Tryz.func162 Tryz.call162 [] Qp3 3 (λ_ _ _=>by kernel_rfl) (λa r=>Qqi (Q06.of (aC a 0)) (argI a 1)) (λ_ X=>by kernel_rfl)
def Qu6(m:Q00):Tree Bool:=
.lv (Q46 m.Mem) λ(x0:Int)=>.br (decide (x0<1)) (.lf false) (.br (m.B2.X.a0 !=0) (.lf false) (.br (decide (m.B2.B3.a0>31)) (.lf false) (.br (decide (m.B2.B3.a7>31)) (.lf false) (.br (decide (m.B2.B3.a6>255)) (.lf false) (.br (dA m.B2.B3.a1 (4:Int) !=(0:Int)) (.lf false) (.lv (Qhu m.A2) λ(x1:Bool)=>.br (!x1) (.lf false) (.lv (Qch m.A9) λ(x2:Bool)=>.br (!x2) (.lf false) (.lv (Qei m.A7 x0) λ(x3:Bool)=>.br (!x3) (.lf false) (.lv (Qgj m.C2 x0) λ(x4:Bool)=>.br (!x4) (.lf false) (.lv (Q8x m.A0 x0) λ(x5:Bool)=>.br (!x5) (.lf false) (.br (decide (m.A3<=1152921504606846976)) (.br m.A4 (.lf (!m.A6)) (.lf true)) (.lf false))))))))))))
def Qce m:=(Qu6 m).m
def Zlq:Q0a:=mS 101 [] true [.agg Q00.sig] [] (λa r=>Qu6 (Q00.of (aC a 0))) (λX=>.bool X) (λX=>[])
theorem Qqp:Q04 pG Zlq:=oS (.cons Qby (.cons Qrr (.cons Qy3 (.cons Z1e (.cons Z30 (.cons Qrx (.nil))))))) Tryz.func101 Tryz.call101 [] [] 2
def Z1y(t:Q0l):Tree (Q0l×Bool):=
.br (!t.D4) (.lf (t,false)) (.lf ({D4:=false,C6:=t.C6,D3:=true},true))
def Z1l t:=(Z1y t).m
def Zgm:Q0a:=mS 163 [] true [.agg Q0l.sig] [] (λa r=>Z1y (Q0l.of (aC a 0))) (λX=>.tup [.agg (Q0l.cells (X.1)),.bool (X.2)]) (λX=>[])
theorem Zdj:Q04 pG Zgm:=oS (.nil) Tryz.func163 Tryz.call163 [] [] 2
def Qg9(c:Q0e)(b:Int):Tree (Q0e×Bool):=
.br (decide ((c.C9.length:Int)>=(16:Int))) (.lf (c,false)) (.cn (decide (c.C9.length+1<=maxLen)) (.lf ({C9:=c.C9++[(λ(n:Int)=>eR n.toNat) b]},true)))
def Qzn c b:=(Qg9 c b).m
abbrev Qs0 c b:=(Qg9 c b).p
def Zg9:Q0a:=mT 164 [] true [.agg Q0e.sig,.one (.int .u8)] [] (λa r=>Qg9 (Q0e.of (aC a 0)) (argI a 1)) (λX=>.tup [.agg (Q0e.cells (X.1)),.bool (X.2)]) (λX=>[])
theorem Zcw:Q04 pG Zg9:=oT (.nil) Tryz.func164 Tryz.call164 [] [] 2
def Qh8(m:List Int)(frame:Int):Tree Bool:=
.lv (Q46 m) λ(x0:Int)=>.lf (decide (wrap u64 frame<wrap u64 x0))
def Q2a m frame:=(Qh8 m frame).m
def Zfo:Q0a:=mS 237 [] true [.one (.ints .u32),.one (.int .u32)] [] (λa r=>Qh8 (argL .u32 a 0) (argI a 1)) (λX=>.bool X) (λX=>[])
theorem Qe8:Q04 pG Zfo:=oS (.cons Qby (.nil)) Tryz.func237 Tryz.call237 [] [] 2
def Qd3(m:List Int)(addr size v:Int):Tree (List Int):=
let E1:=bT 1 1&&bJ 0 1&&decide (0<=wrap u32 (eN addr 4)/\wrap u32 (eN addr 4)<(m.length:Int));let E2:=dB (wrap u32 (eN addr 4));.br (size==4) (.cn E1 (.lf (dC m E2 v))) (.cn E1 (let E3:=decide (0<=wrap u32 (8*dA addr 4));.cn E3 (.cn E3 (.cn E1 (.lf (dC m E2 (ior u32 (Q7j u32 (m.getD E2 0) (ishl u32 255 (wrap u32 (8*dA addr 4)))) (ishl u32 (iand u32 v 255) (wrap u32 (8*dA addr 4))))))))))
def Qa2 m addr size v:=(Qd3 m addr size v).m
abbrev Qel m addr size v:=(Qd3 m addr size v).p
def Zlj:Q0a:=mT 278 [true,false,false,false] true [.one (.row 0),.one (.int .u32),.one (.int .i64),.one (.int .u32)] [.arr 23 1 (.ints .u32)] (λa r=>Qd3 (rowL .u32 r 0) (argI a 1) (argI a 2) (argI a 3)) (λX=>.tup []) (λX=>[⟨false,23,1,.ints .u32 X⟩])
theorem Qzf:Q04 pG Zlj:=oT (.nil) Tryz.func278 Tryz.call278 [] [] 2
def Qgn(m:List Int)(frame:Int)(s:List UInt8)(z:(Int)×(List Int)):Nat:=(128-z.1).toNat
def Q9l(m:List Int)(frame:Int)(s:List UInt8):Tree (List Int):=
.lp inferInstance (Qgn m frame s (0,m)+1) ((True/\rE (frame:Int)/\rE (s:List UInt8)/\rE (0:Int)/\True)/\rE (m:List Int)/\True) (0,m) λ(v0:Int×List Int)=>.br (decide (v0.1<(s.length:Int))) (.br (decide (v0.1<128)) (.cn (decide (0<=v0.1/\v0.1<(s.length:Int))) (let E1:=wrap u32 (↑(eQ (s.getD v0.1.toNat (0:UInt8))):Int);let E2:=wrap u32 (wrap i64 (wrap i64 (frame*128)+v0.1));.an (Qel v0.2 E2 1 E1) (.lv (Qa2 v0.2 E2 1 E1) λ(x0:List Int)=>.nx ((True/\rE (frame:Int)/\rE (s:List UInt8)/\rE ((wrap i64 (v0.1+1)):Int)/\True)/\rE (x0:List Int)/\True) (Sum.inl (wrap i64 (v0.1+1),x0))))) (.lf (Sum.inr v0.2))) (.lf (Sum.inr v0.2))
def Qkg m frame s:=(Q9l m frame s).m
abbrev Ql7 m frame s:=(Q9l m frame s).p
def Za8:LInv:={
 α:=(Int)×(List Int)
 F:=λst a=>([(0,.all 0),(1,(lk st 1)),(2,(lk st 2)),(6,.int i64 a.1)],[⟨false,23,1,.ints u32 a.2⟩])
 a0:=λst=>((lk st 6).toInt,(Q5v st.rows 0))
 ex0:=λst=>[0]++[]}
def Z2s:List (Nat×LInv):=[(1,Za8)]
def Zgy:Q0a:=mT 238 [true,false,false] true [.one (.row 0),.one (.int .i64),.one (.str)] [.arr 23 1 (.ints .u32)] (λa r=>Q9l (rowL .u32 r 0) (argI a 1) (argS a 2)) (λX=>.tup []) (λX=>[⟨false,23,1,.ints .u32 X⟩])
theorem Qvq:Q04 pG Zgy:=oT (.cons Qzf (.nil)) Tryz.func238 Tryz.call238 [] Z2s 3
def Q9r(d0:Q0d)(m:List Int)(e:Q0v):Tree (Q0d×Bool×(List Int)):=
.br (d0.B7 !=1) (.lf (d0,false,m)) (.br (e.C1 !=4) (.lf (d0,false,m)) (.br (decide (e.N>1)) (.lf (d0,false,m)) (let E4:=({Blocks:=d0.Blocks,B8:=d0.B8,Frame:=d0.Frame,B7:=2,D6:=0,B4:=0,B1:=0,C0:=[]}:Q0d);let E5:=({Blocks:=d0.Blocks,B8:=d0.B8,Frame:=d0.Frame,B7:=3,D6:=0,B4:=0,B1:=0,C0:=[]}:Q0d);let T2:Tree ((Q0d×Bool×(List Int))):=.br (e.N==1) (.lf (E4,true,m)) (.lf (E5,true,m));let E6:=decide ((e.C8.length:Int)>(0:Int));.br (e.N==1) (let T1:Tree ((Q0d×Bool×(List Int))):=.br (d0.D6==1) (.an (Ql7 m (wrap i64 d0.B1) e.C8) (.lv (Qkg m (wrap i64 d0.B1) e.C8) λ(x1:List Int)=>.br (e.N==1) (.lf (E4,true,x1)) (.lf (E5,true,x1)))) T2;let T3:Tree ((Q0d×Bool×(List Int))):=.br (!d0.D6==1) (.br E6 (.lf (d0,false,m)) T1) T1;.br (d0.D6==1) (.br ((e.C8.length:Int) !=(128:Int)) (.lf (d0,false,m)) (.lv (Q2a m d0.B1) λ(x0:Bool)=>.br (!x0) (.lf (d0,false,m)) T3)) T3) (.br E6 (.lf (d0,false,m)) T2))))
def Qcy d0 m e:=(Q9r d0 m e).m
abbrev Qnx d0 m e:=(Q9r d0 m e).p
def Z97:Q0a:=mT 165 [false,true,false] true [.agg Q0d.sig,.one (.row 0),.agg Q0v.sig] [.arr 23 1 (.ints .u32)] (λa r=>Q9r (Q0d.of (aC a 0)) (rowL .u32 r 0) (Q0v.of (aC a 2))) (λX=>.tup [.agg (Q0d.cells (X.1)),.bool (X.2.1)]) (λX=>[⟨false,23,1,.ints .u32 (X.2.2)⟩])
theorem Z3x:Q04 pG Z97:=oT (.cons Qe8 (.cons Qvq (.nil))) Tryz.func165 Tryz.call165 [] [] 2
def Q9x(n:Q0w)(m:List Int)(frame:List UInt8):Tree (Q0w×Bool×(List Int)):=
.br (!n.C3) (.lf (n,false,m)) (.br (decide ((frame.length:Int)<(1:Int))) (.lf (n,false,m)) (.br (decide ((frame.length:Int)>(128:Int))) (.lf (n,false,m)) (.lv (Q2a m n.B6) λ(x0:Bool)=>.br (!x0) (.lf (n,false,m)) (.an (Ql7 m (wrap i64 n.B6) frame) (.lv (Qkg m (wrap i64 n.B6) frame) λ(x1:List Int)=>.lf ({Frame:=n.Frame,D8:=n.D8,C3:=false,B6:=0,B5:=true,E0:=wrap u32 (frame.length:Int)},true,x1))))))
def Qdh n m frame:=(Q9x n m frame).m
abbrev Qn6 n m frame:=(Q9x n m frame).p
def Z8w:Q0a:=mT 166 [false,true,false] true [.agg Q0w.sig,.one (.row 0),.one (.str)] [.arr 23 1 (.ints .u32)] (λa r=>Q9x (Q0w.of (aC a 0)) (rowL .u32 r 0) (argS a 2)) (λX=>.tup [.agg (Q0w.cells (X.1)),.bool (X.2.1)]) (λX=>[⟨false,23,1,.ints .u32 (X.2.2)⟩])
theorem Z33:Q04 pG Z8w:=oT (.cons Qe8 (.cons Qvq (.nil))) Tryz.func166 Tryz.call166 [] [] 2
def Qbi(m:Q00)(e:Q0v):Tree (Bool×Q00):=
.br m.A6 (.lf (false,m)) (let T1:Tree ((Bool×Q00)):=.br (e.C1==4) (.an (Qnx m.A7 m.Mem e) (.lv (Qcy m.A7 m.Mem e) λ(x2:Q0d×Bool×List Int)=>.lf (x2.2.1,{B2:=m.B2,Mem:=x2.2.2,A2:=m.A2,A9:=m.A9,A7:=x2.1,C2:=m.C2,A0:=m.A0,A3:=m.A3,A4:=m.A4,A6:=m.A6}))) (let T3:Tree ((Bool×Q00)):=.br (e.C1==6) (.br (decide (e.C8=[])) (.lf (true,{B2:=m.B2,Mem:=m.Mem,A2:=m.A2,A9:=m.A9,A7:=m.A7,C2:=m.C2,A0:={C4:=e.N,B9:=m.A0.B9},A3:=m.A3,A4:=m.A4,A6:=m.A6})) (.lf (false,m))) (.lf (false,m));.br (e.C1==5) (.br (e.N==0) (.an (Qn6 m.C2 m.Mem e.C8) (.lv (Qdh m.C2 m.Mem e.C8) λ(x3:Q0w×Bool×List Int)=>.lf (x3.2.1,{B2:=m.B2,Mem:=x3.2.2,A2:=m.A2,A9:=m.A9,A7:=m.A7,C2:=x3.1,A0:=m.A0,A3:=m.A3,A4:=m.A4,A6:=m.A6}))) T3) T3);let T2:Tree ((Bool×Q00)):=.br (e.C1==3) (.br (decide (e.N<=255)) (.br (decide (e.C8=[])) (.an (Qs0 m.A2 (wrap u8 e.N)) (.lv (Qzn m.A2 (wrap u8 e.N)) λ(x1:Q0e×Bool)=>.lf (x1.2,{B2:=m.B2,Mem:=m.Mem,A2:=x1.1,A9:=m.A9,A7:=m.A7,C2:=m.C2,A0:=m.A0,A3:=m.A3,A4:=m.A4,A6:=m.A6}))) T1) T1) T1;.br (e.C1==2) (.br (e.N==0) (.br (decide (e.C8=[])) (.lv (Z1l m.A9) λ(x0:Q0l×Bool)=>.lf (x0.2,{B2:=m.B2,Mem:=m.Mem,A2:=m.A2,A9:=x0.1,A7:=m.A7,C2:=m.C2,A0:=m.A0,A3:=m.A3,A4:=m.A4,A6:=m.A6})) T2) T2) T2)
def Q5c m e:=(Qbi m e).m
abbrev Qpf m e:=(Qbi m e).p
def Zb2:Q0a:=mT 103 [true,false] true [.ptr 0,.agg Q0v.sig] [.box 42 49 (Q00.sigW (.row 1)),.arr 23 1 (.ints .u32)] (λa r=>Qbi (Q00.ofW (r.getD 0 default).cs (rowL .u32 r 1)) (Q0v.of (aC a 1))) (λX=>.bool (X.1)) (λX=>[⟨true,42,49,.gen [(Q00.cellsW (X.2) (.all 1))]⟩,⟨false,23,1,.ints .u32 (X.2).Mem⟩])
theorem Qt6:Q04 pG Zb2:=oT (.cons Zdj (.cons Zcw (.cons Z3x (.cons Z33 (.nil))))) Tryz.func103 Tryz.call103 [.row 23 1 (.ints .u32)] [] 2
def Qhc(is:Bool)(n:Int):Tree Int:=
.br is (.cn (decide (0<=wrap u64 n)) (.lf (ishl u32 1 (wrap u64 n)))) (.lf 0)
def Q8u is n:=(Qhc is n).m
abbrev Qa8 is n:=(Qhc is n).p
def Zf5:Q0a:=mT 292 [] true [.one (.bool),.one (.int .i64)] [] (λa r=>Qhc (argB a 0) (argI a 1)) (λX=>.int .u32 X) (λX=>[])
theorem Zd8:Q04 pG Zf5:=oT (.nil) Tryz.func292 Tryz.call292 [] [] 2
def Qgr(t:Q0l):Tree Bool:=
.lf t.D3
def Q9q t:=(Qgr t).m
def Qq7:Q0a:=mS 293 [] true [.agg Q0l.sig] [] (λa r=>Qgr (Q0l.of (aC a 0))) (λX=>.bool X) (λX=>[])
theorem Qp0:Q04 pG Qq7:=oS (.nil) Tryz.func293 Tryz.call293 [] [] 2
def Qe5(c:Q0e):Tree Bool:=
.lf (decide ((c.C9.length:Int)>(0:Int)))
def Q5l c:=(Qe5 c).m
def Qn4:Q0a:=mS 294 [] true [.agg Q0e.sig] [] (λa r=>Qe5 (Q0e.of (aC a 0))) (λX=>.bool X) (λX=>[])
theorem Qm4:Q04 pG Qn4:=oS (.nil) Tryz.func294 Tryz.call294 [] [] 2
def Qix(d0:Q0d):Tree Bool:=
.br (d0.B7==2) (.lf true) (.lf (d0.B7==3))
def Qb0 d0:=(Qix d0).m
def Qrs:Q0a:=mS 295 [] true [.agg Q0d.sig] [] (λa r=>Qix (Q0d.of (aC a 0))) (λX=>.bool X) (λX=>[])
theorem Qqs:Q04 pG Qrs:=oS (.nil) Tryz.func295 Tryz.call295 [] [] 2
def Qji(n:Q0w):Tree Bool:=
.lf n.B5
def Qbx n:=(Qji n).m
def Qve:Q0a:=mS 296 [] true [.agg Q0w.sig] [] (λa r=>Qji (Q0w.of (aC a 0))) (λX=>.bool X) (λX=>[])
theorem Qs2:Q04 pG Qve:=oS (.nil) Tryz.func296 Tryz.call296 [] [] 2
def Qnm(b:Q06)(z:(Int)×(Int)):Prop:=0<=z.2/\z.2<=32
def Qf2(b:Q06)(z:(Int)×(Int)):Nat:=(32-z.2).toNat
def Qib(b:Q06):Tree Int:=
.lp inferInstance (Qf2 b (0,0)+1) ((rZ/\rE (0:Int)/\rE (0:Int)/\True)/\(rE b.C4/\rE b.B9/\True)/\True) (0,0) λ(v0:Int×Int)=>.br (decide (v0.2<32)) (.cn (decide (0<=wrap u64 v0.2)) (.nx ((rZ/\rE ((wrap i64 (v0.1+wrap i64 (iand u32 (ishr u32 b.B9 (wrap u64 v0.2)) 1))):Int)/\rE ((wrap i64 (v0.2+1)):Int)/\True)/\(rE b.C4/\rE b.B9/\True)/\True) (Sum.inl (wrap i64 (v0.1+wrap i64 (iand u32 (ishr u32 b.B9 (wrap u64 v0.2)) 1)),wrap i64 (v0.2+1))))) (.lf (Sum.inr v0.1))
def Qcw b:=(Qib b).m
theorem Z2v(b:Q06):(Qib b).p:=by
 unfold Tree.p Qib
 repeat'(first|refine w_lp (inv:=Qnm b) (μ:=Qf2 b) ?_ (cL _) (λ_ _=>?_)|exact trivial|refine w_br (λ_=>?_) (λ_=>?_)|refine w_cn ?_ ?_|refine w_an ?_ ?_|refine w_lv (λ_ _=>?_)|refine w_nx ?_|refine w_lf ?_|refine And.intro ?_ ?_)
 all_goals((try simp only[Qnm,Qf2]at*);exact fin0)
def Z9f:LInv:={
 α:=(Int)×(Int)
 F:=λst a=>([(1,.ptr 0 0 0),(3,.int i64 a.1),(4,.int i64 a.2)],[⟨true,39,2,.gen [[(cT st 1 0),(cT st 1 1)]]⟩])
 a0:=λst=>((lk st 3).toInt,(lk st 4).toInt)
 ex0:=λst=>[]++[(rX st 1 0)]}
def Z1v:List (Nat×LInv):=[(3,Z9f)]
def Za9:Q0a:=mS 282 [] true [.agg Q06.sig] [] (λa r=>Qib (Q06.of (aC a 0))) (λX=>.int .i64 X) (λX=>[])
theorem Qsm:Q04 pG Za9:=oS (.nil) Tryz.func282 Tryz.call282 [] Z1v 3 (λ_ _ _=>by kernel_rfl) (λa r=>Z2v (Q06.of (aC a 0))) (λ_ X=>by kernel_rfl)
def Q9i(b:Q06):Tree Bool:=
.lv (Qcw b) λ(x0:Int)=>.lf (wrap u64 x0 !=wrap u64 b.C4)
def Q49 b:=(Q9i b).m
def Qmn:Q0a:=mS 297 [] true [.agg Q06.sig] [] (λa r=>Q9i (Q06.of (aC a 0))) (λX=>.bool X) (λX=>[])
theorem Qm7:Q04 pG Qmn:=oS (.cons Qsm (.nil)) Tryz.func297 Tryz.call297 [] [] 2
def Qeb(m:Q00):Tree Int:=
.lv (Q9q m.A9) λ(x0:Bool)=>.an (Qa8 x0 0) (.lv (Q8u x0 0) λ(x1:Int)=>.lv (Q5l m.A2) λ(x2:Bool)=>.an (Qa8 x2 1) (.lv (Q8u x2 1) λ(x3:Int)=>.lv (Qb0 m.A7) λ(x4:Bool)=>.an (Qa8 x4 2) (.lv (Q8u x4 2) λ(x5:Int)=>.lv (Qbx m.C2) λ(x6:Bool)=>.an (Qa8 x6 3) (.lv (Q8u x6 3) λ(x7:Int)=>.lv (Q49 m.A0) λ(x8:Bool)=>.an (Qa8 x8 4) (.lv (Q8u x8 4) λ(x9:Int)=>.lf (ior u32 (ior u32 (ior u32 (ior u32 x1 x3) x5) x7) x9))))))
def Qg3 m:=(Qeb m).m
abbrev Qpu m:=(Qeb m).p
def Ze6:Q0a:=mT 239 [] true [.agg Q00.sig] [] (λa r=>Qeb (Q00.of (aC a 0))) (λX=>.int .u32 X) (λX=>[])
theorem Z6s:Q04 pG Ze6:=oT (.cons Zd8 (.cons Qp0 (.cons Qm4 (.cons Qqs (.cons Qs2 (.cons Qm7 (.nil))))))) Tryz.func239 Tryz.call239 [] [] 2
def Q8d(m:Q00):Tree Int:=
.an (Qpu m) (.lv (Qg3 m) λ(x0:Int)=>.lf (iand u32 x0 m.B2.B3.a7))
def Q2g m:=(Q8d m).m
abbrev Qez m:=(Q8d m).p
def Z37:Q0a:=mT 167 [] true [.agg Q00.sig] [] (λa r=>Q8d (Q00.of (aC a 0))) (λX=>.int .u32 X) (λX=>[])
theorem Qn9:Q04 pG Z37:=oT (.cons Z6s (.nil)) Tryz.func167 Tryz.call167 [] [] 2
def Qcv(m:Q00):Tree Bool:=
.br m.A4 (.an (Qez m) (.lv (Q2g m) λ(x0:Int)=>.lf (x0==0))) (.lf false)
def Qe6 m:=(Qcv m).m
abbrev Ql2 m:=(Qcv m).p
def Zgn:Q0a:=mT 104 [] true [.agg Q00.sig] [] (λa r=>Qcv (Q00.of (aC a 0))) (λX=>.bool X) (λX=>[])
theorem Qwx:Q04 pG Zgn:=oT (.cons Qn9 (.nil)) Tryz.func104 Tryz.call104 [] [] 2
def Q9(m:Q00):Tree Bool:=
.lv (Qce m) λ(x0:Bool)=>.br (!x0) (.lf true) (.br m.A6 (.lf true) (.an (Ql2 m) (.lv (Qe6 m) λ(x1:Bool)=>.br x1 (.lf true) (.lf (decide (m.A3>=1152921504606846976))))))
def Q75 m:=(Q9 m).m
abbrev Qpm m:=(Q9 m).p
def Zdp:Q0a:=mT 88 [] true [.agg Q00.sig] [] (λa r=>Q9 (Q00.of (aC a 0))) (λX=>.bool X) (λX=>[])
theorem Z8k:Q04 pG Zdp:=oT (.cons Qqp (.cons Qwx (.nil))) Tryz.func88 Tryz.call88 [] [] 2
end
noncomputable section
def Z4i(b:Bool):Tree Int:=
.br b (.lf 1) (.lf 0)
def Qb b:=(Z4i b).m
def Zlu:Q0a:=mS 269 [] true [.one (.bool)] [] (λa r=>Z4i (argB a 0)) (λX=>.int .u32 X) (λX=>[])
theorem Qq4:Q04 pG Zlu:=oS (.nil) Tryz.func269 Tryz.call269 [] [] 2
def Qh4(c:Q01)(cause bad:Int):Tree Q01:=
.lv (Qb (iand u32 c.B3.a0 (1:Int) !=(0:Int))) λ(x0:Int)=>.lv (Qb (iand u32 c.B3.a0 (2:Int) !=(0:Int))) λ(x1:Int)=>.lf ({X:=c.X,Pc:=c.B3.a1,B3:={a0:=ior u32 (Q7j u32 (ior u32 (ior u32 (Q7j u32 c.B3.a0 24) (wrap u32 (8*x0))) (wrap u32 (16*x1))) 2) 1,a1:=c.B3.a1,a2:=c.Pc,a3:=wrap u32 cause,a4:=bad,a5:=c.B3.a5,a6:=c.B3.a6,a7:=c.B3.a7}})
def Q30 c cause bad:=(Qh4 c cause bad).m
def Zg7:Q0a:=mS 208 [] true [.agg Q01.sig,.one (.int .i64),.one (.int .u32)] [] (λa r=>Qh4 (Q01.of (aC a 0)) (argI a 1) (argI a 2)) (λX=>.agg (Q01.cells X)) (λX=>[])
theorem Qis:Q04 pG Zg7:=oS (.cons Qq4 (.nil)) Tryz.func208 Tryz.call208 [] [] 2
def Q7q(m:List Int)(addr size:Int):Tree Bool:=
let T1:Tree (Bool):=.cn (decide (wrap u32 size≠0)) (.br (dA addr (wrap u32 size)==0) (.lv (Q46 m) λ(x0:Int)=>.lf (decide (addr<wrap u32 (wrap i64 (128*x0))))) (.lf false));.br (size !=1) (.br (size !=4) (.lf false) T1) T1
def Q2x m addr size:=(Q7q m addr size).m
abbrev Qbr m addr size:=(Q7q m addr size).p
def Z8s:Q0a:=mT 240 [] true [.one (.ints .u32),.one (.int .u32),.one (.int .i64)] [] (λa r=>Q7q (argL .u32 a 0) (argI a 1) (argI a 2)) (λX=>.bool X) (λX=>[])
theorem Qj2:Q04 pG Z8s:=oT (.cons Qby (.nil)) Tryz.func240 Tryz.call240 [] [] 2
def Q6o(m:List Int)(addr size:Int):Tree (Int×Bool):=
.an (Qbr m addr size) (.lv (Q2x m addr size) λ(x0:Bool)=>.br (!x0) (.lf (0,false)) (.cn (bT 1 1&&bJ 0 1&&decide (0<=wrap u32 (eN addr 4)/\wrap u32 (eN addr 4)<(m.length:Int))) (.br (size==1) (.cn (decide (0<=wrap u32 (8*dA addr 4))) (.lf (iand u32 (ishr u32 (m.getD (dB (wrap u32 (eN addr 4))) 0) (wrap u32 (8*dA addr 4))) 255,true))) (.lf (m.getD (dB (wrap u32 (eN addr 4))) 0,true)))))
def Q2o m addr size:=(Q6o m addr size).m
abbrev Qc m addr size:=(Q6o m addr size).p
def Zfc:Q0a:=mT 168 [] true [.one (.ints .u32),.one (.int .u32),.one (.int .i64)] [] (λa r=>Q6o (argL .u32 a 0) (argI a 1) (argI a 2)) (λX=>.tup [.int .u32 (X.1),.bool (X.2)]) (λX=>[])
theorem Qnk:Q04 pG Zfc:=oT (.cons Qj2 (.nil)) Tryz.func168 Tryz.call168 [] [] 2
def Q9u(w:Int):Tree (Q0f×Bool):=
.lv (Q2q (wrap i64 (ishr u32 w 24))) λ(x0:Int)=>let E5:=({Op:=0,A:=0,B:=0,C:=0,Imm:=0}:Q0f);.br (x0==0) (.lf (E5,false)) (.br (x0==2) (let E3:=({Op:=wrap i64 (ishr u32 w 24),A:=wrap i64 (iand u32 (ishr u32 w 20) 15),B:=wrap i64 (iand u32 (ishr u32 w 16) 15),C:=wrap i64 (iand u32 w 65535),Imm:=0}:Q0f);.lv (Q8n E3) λ(x1:Bool)=>.br (!x1) (.lf (E5,false)) (.lf (E3,true))) (let T1:Tree ((Q0f×Bool)):=let E2:=({Op:=wrap i64 (ishr u32 w 24),A:=wrap i64 (iand u32 (ishr u32 w 20) 15),B:=wrap i64 (iand u32 (ishr u32 w 16) 15),C:=0,Imm:=wrap i32 (wrap i16 (iand u32 w 65535))}:Q0f);.lv (Q8n E2) λ(x2:Bool)=>.br (!x2) (.lf (E5,false)) (.lf (E2,true));.br (x0==3) T1 (.br (x0==7) T1 (let E4:=({Op:=wrap i64 (ishr u32 w 24),A:=wrap i64 (iand u32 (ishr u32 w 20) 15),B:=wrap i64 (iand u32 (ishr u32 w 16) 15),C:=0,Imm:=wrap i32 (iand u32 w 65535)}:Q0f);.lv (Q8n E4) λ(x4:Bool)=>.br (!x4) (.lf (E5,false)) (.lf (E4,true))))))
def Q44 w:=(Q9u w).m
def Z7d:Q0a:=mS 169 [] true [.one (.int .u32)] [] (λa r=>Q9u (argI a 0)) (λX=>.tup [.agg (Q0f.cells (X.1)),.bool (X.2)]) (λX=>[])
theorem Qps:Q04 pG Z7d:=oS (.cons Qem (.cons Qrg (.nil))) Tryz.func169 Tryz.call169 [] [] 2
def Qwf(access:Int):Tree Bool:=
.br (decide (access>=1)) (.lf (decide (access<=3))) (.lf false)
def Qg access:=(Qwf access).m
def Zbb:Q0a:=mS 270 [] true [.one (.int .i64)] [] (λa r=>Qwf (argI a 0)) (λX=>.bool X) (λX=>[])
theorem Qsv:Q04 pG Zbb:=oS (.nil) Tryz.func270 Tryz.call270 [] [] 2
def Qwd(c:Q01):Tree Bool:=
.lf (iand u32 c.B3.a0 (5:Int)==(4:Int))
def Qog c:=(Qwd c).m
def Zea:Q0a:=mS 271 [] true [.agg Q01.sig] [] (λa r=>Qwd (Q01.of (aC a 0))) (λX=>.bool X) (λX=>[])
theorem Z8o:Q04 pG Zea:=oS (.nil) Tryz.func271 Tryz.call271 [] [] 2
def Q8m(access:Int):Tree Int:=
.br (access==1) (.lf 4) (.br (access==3) (.lf 6) (.lf 5))
def Q3r access:=(Q8m access).m
def Z3d:Q0a:=mS 272 [] true [.one (.int .i64)] [] (λa r=>Q8m (argI a 0)) (λX=>.int .i64 X) (λX=>[])
theorem Qmx:Q04 pG Z3d:=oS (.nil) Tryz.func272 Tryz.call272 [] [] 2
def Q8v(m:List Int)(root va access:Int):Tree Q14:=
.lv (Q3r access) λ(x0:Int)=>.lv (Q46 m) λ(x1:Int)=>.lv (Qg access) λ(x2:Bool)=>let E4:=({Addr:=0,D9:=0,D0:=x0}:Q14);.br (!x2) (.lf (E4)) (.br (decide (va>=4096)) (.lf (E4)) (.br (decide (root>=wrap u32 x1)) (.lf (E4)) (let E6:=wrap u32 (root*128)+wrap u32 (4*wrap u32 (eN va 128));let E3:=eN (wrap u32 E6) 4;.cn (bT 1 1&&bJ 0 1&&decide (0<=wrap u32 E3/\wrap u32 E3<(m.length:Int))) (let E5:=m.getD (dB (wrap u32 E3)) 0;.br (iand u32 E5 (1:Int)==(0:Int)) (.lf (E4)) (let T1:Tree (Q14):=.br (decide (iand u32 (ishr u32 E5 8) 255>=wrap u32 x1)) (.lf (E4)) (.lf ({Addr:=wrap u32 (wrap u32 (iand u32 (ishr u32 E5 8) (255:Int)*(128:Int))+dA va 128),D9:=wrap u32 E6,D0:=0}));let T2:Tree (Q14):=.br (access==1) (.br (iand u32 E5 (4:Int)==(0:Int)) (.lf (E4)) T1) T1;.br (access==3) (.br (iand u32 E5 (2:Int)==(0:Int)) (.lf (E4)) T2) T2)))))
def Q6j m root va access:=(Q8v m root va access).m
abbrev Qrf m root va access:=(Q8v m root va access).p
def Zgz:Q0a:=mT 273 [] true [.one (.ints .u32),.one (.int .u32),.one (.int .u32),.one (.int .i64)] [] (λa r=>Q8v (argL .u32 a 0) (argI a 1) (argI a 2) (argI a 3)) (λX=>.agg (Q14.cells X)) (λX=>[])
theorem Zbr:Q04 pG Zgz:=oT (.cons Qmx (.cons Qby (.cons Qsv (.nil)))) Tryz.func273 Tryz.call273 [] [] 2
def Qdp(m:List Int)(entry access:Int):Tree (List Int):=
.an (Qbr m entry 4) (.lv (Q2x m entry 4) λ(x0:Bool)=>.br (!x0) (.lf m) (let E3:=bT 1 1&&bJ 0 1&&decide (0<=wrap u32 (eN entry 4)/\wrap u32 (eN entry 4)<(m.length:Int));.cn E3 (.cn E3 (let E4:=dB (wrap u32 (eN entry 4));let E1:=dC m E4 (ior u32 (m.getD E4 0) 8);.br (access==3) (let E2:=bT 1 1&&bJ 0 1&&decide (0<=wrap u32 (eN entry 4)/\wrap u32 (eN entry 4)<(↑(dG E1):Int));.cn E2 (.cn E2 (.lf (dC E1 E4 (ior u32 (aK E1 E4 0) 16))))) (.lf E1)))))
def Qn1 m entry access:=(Qdp m entry access).m
abbrev Qr6 m entry access:=(Qdp m entry access).p
def Zeq:Q0a:=mT 274 [true,false,false] true [.one (.row 0),.one (.int .u32),.one (.int .i64)] [.arr 23 1 (.ints .u32)] (λa r=>Qdp (rowL .u32 r 0) (argI a 1) (argI a 2)) (λX=>.tup []) (λX=>[⟨false,23,1,.ints .u32 X⟩])
theorem Ze1:Q04 pG Zeq:=oT (.cons Qj2 (.nil)) Tryz.func274 Tryz.call274 [] [] 2
def Q8y(c:Q01)(m:List Int)(va size access:Int):Tree (Int×Int×(List Int)):=
.lv (Qg access) λ(x0:Bool)=>.br (!x0) (.lf (0,5,m)) (let T1:Tree ((Int×Int×(List Int))):=.cn (decide (wrap u32 size≠0)) (.br (dA va (wrap u32 size) !=0) (.lf (0,3,m)) (.lv (Qog c) λ(x1:Bool)=>.br (!x1) (.an (Qbr m va size) (.lv (Q2x m va size) λ(x2:Bool)=>.br (!x2) (.lv (Q3r access) λ(x3:Int)=>.lf (0,x3,m)) (.lf (va,0,m)))) (.an (Qrf m c.B3.a6 va access) (.lv (Q6j m c.B3.a6 va access) λ(x4:Q14)=>.br (x4.D0 !=0) (.lf (0,x4.D0,m)) (.an (Qr6 m x4.D9 access) (.lv (Qn1 m x4.D9 access) λ(x5:List Int)=>.lf (x4.Addr,0,x5)))))));.br (size !=1) (.br (size !=4) (.lf (0,5,m)) T1) T1)
def Q19 c m va size access:=(Q8y c m va size access).m
abbrev Q8e c m va size access:=(Q8y c m va size access).p
def Zdy:Q0a:=mT 209 [false,true,false,false,false] true [.agg Q01.sig,.one (.row 0),.one (.int .u32),.one (.int .i64),.one (.int .i64)] [.arr 23 1 (.ints .u32)] (λa r=>Q8y (Q01.of (aC a 0)) (rowL .u32 r 0) (argI a 2) (argI a 3) (argI a 4)) (λX=>.tup [.int .u32 (X.1),.int .i64 (X.2.1)]) (λX=>[⟨false,23,1,.ints .u32 (X.2.2)⟩])
theorem Qrn:Q04 pG Zdy:=oT (.cons Qsv (.cons Z8o (.cons Qj2 (.cons Qmx (.cons Zbr (.cons Ze1 (.nil))))))) Tryz.func209 Tryz.call209 [] [] 2
def Qk7(op:Int):Tree Bool:=
.br (decide (op>=57)) (.lf (decide (op<=64))) (.lf false)
def Q5q op:=(Qk7 op).m
def Qul:Q0a:=mS 210 [] true [.one (.int .i64)] [] (λa r=>Qk7 (argI a 0)) (λX=>.bool X) (λX=>[])
theorem Qt9:Q04 pG Qul:=oS (.nil) Tryz.func210 Tryz.call210 [] [] 2
def Qcd(c:Q01):Tree Q01:=
.lv (Qb (iand u32 c.B3.a0 (8:Int) !=(0:Int))) λ(x0:Int)=>.lv (Qb (iand u32 c.B3.a0 (16:Int) !=(0:Int))) λ(x1:Int)=>.lf ({X:=c.X,Pc:=c.B3.a2,B3:={a0:=ior u32 (ior u32 (Q7j u32 c.B3.a0 3) (wrap u32 (1*x0))) (wrap u32 (2*x1)),a1:=c.B3.a1,a2:=c.B3.a2,a3:=c.B3.a3,a4:=c.B3.a4,a5:=c.B3.a5,a6:=c.B3.a6,a7:=c.B3.a7}})
def Qhg c:=(Qcd c).m
def Za3:Q0a:=mS 275 [] true [.agg Q01.sig] [] (λa r=>Qcd (Q01.of (aC a 0))) (λX=>.agg (Q01.cells X)) (λX=>[])
theorem Z3z:Q04 pG Za3:=oS (.cons Qq4 (.nil)) Tryz.func275 Tryz.call275 [] [] 2
def Qdi(c:Q01)(r v:Int):Tree Q01:=
.br (decide (r>0)) (.br (decide (r<16)) (.cn (bJ 0 1&&decide (0<=r/\r<(↑16:Int))) (.lf ({X:=A16.of 0 (dC (A16.l c.X) r.toNat v),Pc:=c.Pc,B3:=c.B3}))) (.lf c)) (.lf c)
def Q2 c r v:=(Qdi c r v).m
abbrev Q3s c r v:=(Qdi c r v).p
def Zl8:Q0a:=mT 145 [] true [.agg Q01.sig,.one (.int .i64),.one (.int .u32)] [] (λa r=>Qdi (Q01.of (aC a 0)) (argI a 1) (argI a 2)) (λX=>.agg (Q01.cells X)) (λX=>[])
theorem Qgt:Q04 pG Zl8:=oT (.nil) Tryz.func145 Tryz.call145 [] [] 2
def Qbn(c:Q01)(csr v:Int):Tree Q01:=
let E4:=bJ 0 1&&decide (0<=csr/\csr<(↑8:Int));let T2:Tree (Q01):=.cn E4 (.lf ({X:=c.X,Pc:=c.Pc,B3:=A8.of 0 (dC (A8.l c.B3) csr.toNat (iand u32 v 31))}));.br (csr==0) T2 (.br (csr==7) T2 (.br (csr==6) (.cn E4 (.lf ({X:=c.X,Pc:=c.Pc,B3:=A8.of 0 (dC (A8.l c.B3) csr.toNat (iand u32 v 255))}))) (let T3:Tree (Q01):=.cn E4 (.lf ({X:=c.X,Pc:=c.Pc,B3:=A8.of 0 (dC (A8.l c.B3) csr.toNat (Q7j u32 v 3))}));.br (csr==1) T3 (.br (csr==2) T3 (let T1:Tree (Q01):=.cn E4 (.lf ({X:=c.X,Pc:=c.Pc,B3:=A8.of 0 (dC (A8.l c.B3) csr.toNat v)}));.br (csr==3) T1 (.br (csr==4) T1 (.br (csr==5) T1 (.lf c))))))))
def Qg2 c csr v:=(Qbn c csr v).m
abbrev Qpc c csr v:=(Qbn c csr v).p
def Zcm:Q0a:=mT 276 [] true [.agg Q01.sig,.one (.int .i64),.one (.int .u32)] [] (λa r=>Qbn (Q01.of (aC a 0)) (argI a 1) (argI a 2)) (λX=>.agg (Q01.cells X)) (λX=>[])
theorem Z7t:Q04 pG Zcm:=oT (.nil) Tryz.func276 Tryz.call276 [] [] 2
def Qc0(c:Q01)(i:Q0f):Tree (Q01×Q1b):=
.br (i.Op==56) (.lv (Q30 c 7 0) λ(x0:Q01)=>.lf (x0,{C1:=0,C5:=0,D7:=0,Value:=0})) (.br (i.Op==57) (.lv (Qhg c) λ(x1:Q01)=>.lf (x1,{C1:=0,C5:=0,D7:=0,Value:=0})) (.br (i.Op==58) (.cn (bJ 0 1&&decide (0<=i.Imm/\i.Imm<(↑8:Int))) (let E3:=aK (A8.l c.B3) i.Imm.toNat 0;.an (Q3s c i.A E3) (.lv (Q2 c i.A E3) λ(x2:Q01)=>.lf ({X:=x2.X,Pc:=wrap u32 (x2.Pc+4),B3:=x2.B3},{C1:=0,C5:=0,D7:=0,Value:=0})))) (let E2:=bJ 0 1&&decide (0<=i.A/\i.A<(↑16:Int));.br (i.Op==59) (.cn E2 (let E4:=aK (A16.l c.X) i.A.toNat 0;.an (Qpc c (wrap i64 i.Imm) E4) (.lv (Qg2 c (wrap i64 i.Imm) E4) λ(x3:Q01)=>.lf ({X:=x3.X,Pc:=wrap u32 (x3.Pc+4),B3:=x3.B3},{C1:=0,C5:=0,D7:=0,Value:=0})))) (let E1:=({X:=c.X,Pc:=wrap u32 (c.Pc+4),B3:=c.B3}:Q01);.br (i.Op==60) (.lf (E1,{C1:=1,C5:=wrap i64 i.Imm,D7:=i.A,Value:=0})) (.br (i.Op==61) (.cn E2 (.lf (E1,{C1:=2,C5:=wrap i64 i.Imm,D7:=0,Value:=aK (A16.l c.X) i.A.toNat 0}))) (.br (i.Op==62) (.lf (E1,{C1:=3,C5:=0,D7:=0,Value:=0})) (.br (i.Op==63) (.lf (E1,{C1:=5,C5:=0,D7:=0,Value:=0})) (.br (i.Op==64) (.lf (E1,{C1:=4,C5:=0,D7:=0,Value:=0})) (.lf (E1,{C1:=0,C5:=0,D7:=0,Value:=0}))))))))))
def Qkl c i:=(Qc0 c i).m
abbrev Qme c i:=(Qc0 c i).p
def Z7l:Q0a:=mT 211 [] true [.agg Q01.sig,.agg Q0f.sig] [] (λa r=>Qc0 (Q01.of (aC a 0)) (Q0f.of (aC a 1))) (λX=>.tup [.agg (Q01.cells (X.1)),.agg (Q1b.cells (X.2))]) (λX=>[])
theorem Z3e:Q04 pG Z7l:=oT (.cons Qis (.cons Z3z (.cons Qgt (.cons Z7t (.nil))))) Tryz.func211 Tryz.call211 [] [] 2
def Qwk(op a b:Int):Tree Bool:=
.br (op==40) (.lf (a==b)) (.br (op==41) (.lf (a !=b)) (.br (op==42) (.lf (decide (wrap i32 a<wrap i32 b))) (.br (op==43) (.lf (decide (wrap i32 a>=wrap i32 b))) (.br (op==44) (.lf (decide (a<b))) (.lf (decide (a>=b)))))))
def Q2k op a b:=(Qwk op a b).m
def Zdl:Q0a:=mS 277 [] true [.one (.int .i64),.one (.int .u32),.one (.int .u32)] [] (λa r=>Qwk (argI a 0) (argI a 1) (argI a 2)) (λX=>.bool X) (λX=>[])
theorem Z8:Q04 pG Zdl:=oS (.nil) Tryz.func277 Tryz.call277 [] [] 2
def Qhs(c:Q01)(i:Q0f):Tree Q01:=
.br (i.Op==48) (.an (Q3s c i.A (wrap u32 (c.Pc+4))) (.lv (Q2 c i.A (wrap u32 (c.Pc+4))) λ(x0:Q01)=>.lf ({X:=x0.X,Pc:=wrap u32 (c.Pc+wrap u32 (4*wrap u32 i.Imm)),B3:=x0.B3}))) (let E1:=bJ 0 1&&decide (0<=i.B/\i.B<(↑16:Int));.br (i.Op==49) (.cn E1 (.an (Q3s c i.A (wrap u32 (c.Pc+4))) (.lv (Q2 c i.A (wrap u32 (c.Pc+4))) λ(x1:Q01)=>.lf ({X:=x1.X,Pc:=wrap u32 (aK (A16.l c.X) i.B.toNat 0+wrap u32 i.Imm),B3:=x1.B3})))) (.cn (bJ 0 1&&decide (0<=i.A/\i.A<(↑16:Int))) (.cn E1 (.lv (Q2k i.Op (aK (A16.l c.X) i.A.toNat 0) (aK (A16.l c.X) i.B.toNat 0)) λ(x2:Bool)=>.br x2 (.lf ({X:=c.X,Pc:=wrap u32 (c.Pc+wrap u32 (4*wrap u32 i.Imm)),B3:=c.B3})) (.lf ({X:=c.X,Pc:=wrap u32 (c.Pc+4),B3:=c.B3}))))))
def Z11 c i:=(Qhs c i).m
abbrev Qrq c i:=(Qhs c i).p
def Zg0:Q0a:=mT 212 [] true [.agg Q01.sig,.agg Q0f.sig] [] (λa r=>Qhs (Q01.of (aC a 0)) (Q0f.of (aC a 1))) (λX=>.agg (Q01.cells X)) (λX=>[])
theorem Zc3:Q04 pG Zg0:=oT (.cons Qgt (.cons Z8 (.nil))) Tryz.func212 Tryz.call212 [] [] 2
def Q7b(x n:Int):Tree Int:=
.br (decide (n<1)) (.lf 0) (.br (decide (n>=32)) (.lf x) (.cn (decide (0<=wrap u64 n)) (.cn (decide (0<=wrap u64 (wrap i64 (n-1)))) (let E1:=iand u32 x (wrap u32 (ishl u32 1 (wrap u64 n)-1));.br (ishr u32 E1 (wrap u64 (wrap i64 (n-1)))==1) (.cn (decide (0<=wrap u64 n)) (.lf (ior u32 E1 (ishl u32 4294967295 (wrap u64 n))))) (.lf E1)))))
def Q3h x n:=(Q7b x n).m
abbrev Qb7 x n:=(Q7b x n).p
def Quz:Q0a:=mT 279 [] true [.one (.int .u32),.one (.int .i64)] [] (λa r=>Q7b (argI a 0) (argI a 1)) (λX=>.int .u32 X) (λX=>[])
theorem Qtd:Q04 pG Quz:=oT (.nil) Tryz.func279 Tryz.call279 [] [] 2
def Q9n(c:Q01)(m:List Int)(i:Q0f):Tree (Q01×(List Int)):=
.cn (bJ 0 1&&decide (0<=i.B/\i.B<(↑16:Int))) (let E4:=wrap u32 (aK (A16.l c.X) i.B.toNat 0+wrap u32 i.Imm);let E5:=aK (A16.l c.X) i.A.toNat 0;let E6:=bJ 0 1&&decide (0<=i.A/\i.A<(↑16:Int));let E7:=({X:=c.X,Pc:=wrap u32 (c.Pc+4),B3:=c.B3}:Q01);let T1:Tree ((Q01×(List Int))):=let T3:Tree ((Q01×(List Int))):=.an (Q8e c m E4 4 3) (.lv (Q19 c m E4 4 3) λ(x0:Int×Int×List Int)=>.br (x0.2.1 !=0) (.lv (Q30 c x0.2.1 E4) λ(x1:Q01)=>.lf (x1,x0.2.2)) (.cn E6 (.an (Qel x0.2.2 x0.1 4 E5) (.lv (Qa2 x0.2.2 x0.1 4 E5) λ(x2:List Int)=>.lf (E7,x2)))));.br (i.Op==35) T3 (.br (i.Op==36) T3 (.an (Q8e c m E4 4 2) (.lv (Q19 c m E4 4 2) λ(x6:Int×Int×List Int)=>.br (x6.2.1 !=0) (.lv (Q30 c x6.2.1 E4) λ(x7:Q01)=>.lf (x7,x6.2.2)) (.an (Qc x6.2.2 x6.1 4) (.lv (Q2o x6.2.2 x6.1 4) λ(x8:Int×Bool)=>.br (i.Op==33) (.an (Qb7 x8.1 8) (.lv (Q3h x8.1 8) λ(x9:Int)=>.an (Q3s c i.A x9) (.lv (Q2 c i.A x9) λ(x10:Q01)=>.lf ({X:=x10.X,Pc:=wrap u32 (x10.Pc+4),B3:=x10.B3},x6.2.2)))) (.an (Q3s c i.A x8.1) (.lv (Q2 c i.A x8.1) λ(x11:Q01)=>.lf ({X:=x11.X,Pc:=wrap u32 (x11.Pc+4),B3:=x11.B3},x6.2.2))))))));.br (i.Op==32) T1 (.br (i.Op==35) T1 (let T2:Tree ((Q01×(List Int))):=.an (Q8e c m E4 1 3) (.lv (Q19 c m E4 1 3) λ(x24:Int×Int×List Int)=>.br (x24.2.1 !=0) (.lv (Q30 c x24.2.1 E4) λ(x25:Q01)=>.lf (x25,x24.2.2)) (.cn E6 (.an (Qel x24.2.2 x24.1 1 E5) (.lv (Qa2 x24.2.2 x24.1 1 E5) λ(x26:List Int)=>.lf (E7,x26)))));.br (i.Op==35) T2 (.br (i.Op==36) T2 (.an (Q8e c m E4 1 2) (.lv (Q19 c m E4 1 2) λ(x30:Int×Int×List Int)=>.br (x30.2.1 !=0) (.lv (Q30 c x30.2.1 E4) λ(x31:Q01)=>.lf (x31,x30.2.2)) (.an (Qc x30.2.2 x30.1 1) (.lv (Q2o x30.2.2 x30.1 1) λ(x32:Int×Bool)=>.br (i.Op==33) (.an (Qb7 x32.1 8) (.lv (Q3h x32.1 8) λ(x33:Int)=>.an (Q3s c i.A x33) (.lv (Q2 c i.A x33) λ(x34:Q01)=>.lf ({X:=x34.X,Pc:=wrap u32 (x34.Pc+4),B3:=x34.B3},x30.2.2)))) (.an (Q3s c i.A x32.1) (.lv (Q2 c i.A x32.1) λ(x35:Q01)=>.lf ({X:=x35.X,Pc:=wrap u32 (x35.Pc+4),B3:=x35.B3},x30.2.2)))))))))))
def Q50 c m i:=(Q9n c m i).m
abbrev Qka c m i:=(Q9n c m i).p
def Z2j:Q0a:=mT 213 [false,true,false] true [.agg Q01.sig,.one (.row 0),.agg Q0f.sig] [.arr 23 1 (.ints .u32)] (λa r=>Q9n (Q01.of (aC a 0)) (rowL .u32 r 0) (Q0f.of (aC a 2))) (λX=>.agg (Q01.cells (X.1))) (λX=>[⟨false,23,1,.ints .u32 (X.2)⟩])
theorem Qxl:Q04 pG Z2j:=oT (.cons Qrn (.cons Qis (.cons Qzf (.cons Qnk (.cons Qtd (.cons Qgt (.nil))))))) Tryz.func213 Tryz.call213 [] [] 2
def Qvz(op:Int):Tree Int:=
.br (op==16) (.lf 1) (.br (op==17) (.lf 3) (.br (op==18) (.lf 4) (.br (op==19) (.lf 5) (.br (op==20) (.lf 6) (.br (op==21) (.lf 7) (.br (op==22) (.lf 8) (.br (op==23) (.lf 12) (.lf op))))))))
def Z5a op:=(Qvz op).m
def Zar:Q0a:=mS 280 [] true [.one (.int .i64)] [] (λa r=>Qvz (argI a 0)) (λX=>.int .i64 X) (λX=>[])
theorem Z9l:Q04 pG Zar:=oS (.nil) Tryz.func280 Tryz.call280 [] [] 2
def Qa9(a b:Int):Tree (Int×Int):=
.br (b==0) (.lf (4294967295,a)) (.cn (decide (wrap i64 (wrap i32 b)≠0)) (.cn (decide (wrap i64 (wrap i32 b)≠0)) (.lf (wrap u32 (wrap i64 (eN (wrap i64 (wrap i32 a)) (wrap i64 (wrap i32 b)))),wrap u32 (dA (wrap i64 (wrap i32 a)) (wrap i64 (wrap i32 b)))))))
def Qb4 a b:=(Qa9 a b).m
abbrev Qhx a b:=(Qa9 a b).p
def Z7y:Q0a:=mT 281 [] true [.one (.int .u32),.one (.int .u32)] [] (λa r=>Qa9 (argI a 0) (argI a 1)) (λX=>.tup [.int .u32 (X.1),.int .u32 (X.2)]) (λX=>[])
theorem Z3l:Q04 pG Z7y:=oT (.nil) Tryz.func281 Tryz.call281 [] [] 2
def Qjj(op a b:Int):Tree (Int×Bool):=
.lv (Z5a op) λ(x0:Int)=>.br (x0==1) (.lf (wrap u32 (a+b),true)) (.br (x0==2) (.lf (wrap u32 (a-b),true)) (.br (x0==3) (.lf (iand u32 a b,true)) (.br (x0==4) (.lf (ior u32 a b,true)) (.br (x0==5) (.lf (ixor u32 a b,true)) (.br (x0==6) (.lf (ishl u32 a (iand u32 b 31),true)) (.br (x0==7) (.lf (ishr u32 a (iand u32 b 31),true)) (.br (x0==8) (.lf (wrap u32 (ishr i32 (wrap i32 a) (iand u32 b 31)),true)) (.br (x0==9) (.lf (wrap u32 (a*b),true)) (.br (x0==10) (.an (Qhx a b) (.lv (Qb4 a b) λ(x1:Int×Int)=>.lf (x1.1,true))) (.br (x0==11) (.an (Qhx a b) (.lv (Qb4 a b) λ(x2:Int×Int)=>.lf (x2.2,true))) (.br (x0==12) (.lv (Qb (decide (wrap i32 a<wrap i32 b))) λ(x3:Int)=>.lf (x3,true)) (.br (x0==13) (.lv (Qb (decide (a<b))) λ(x4:Int)=>.lf (x4,true)) (.lf (0,false))))))))))))))
def Qcg op a b:=(Qjj op a b).m
abbrev Qma op a b:=(Qjj op a b).p
def Zlk:Q0a:=mT 214 [] true [.one (.int .i64),.one (.int .u32),.one (.int .u32)] [] (λa r=>Qjj (argI a 0) (argI a 1) (argI a 2)) (λX=>.tup [.int .u32 (X.1),.bool (X.2)]) (λX=>[])
theorem Zeu:Q04 pG Zlk:=oT (.cons Z9l (.cons Z3l (.cons Qq4 (.nil)))) Tryz.func214 Tryz.call214 [] [] 2
def Qnl(c:Q01)(m:List Int):Tree (Q01×Q1b×(List Int)):=
.an (Q8e c m c.Pc 4 1) (.lv (Q19 c m c.Pc 4 1) λ(x0:Int×Int×List Int)=>.br (x0.2.1 !=0) (.lv (Q30 c x0.2.1 c.Pc) λ(x1:Q01)=>.lf (x1,{C1:=0,C5:=0,D7:=0,Value:=0},x0.2.2)) (.an (Qc x0.2.2 x0.1 4) (.lv (Q2o x0.2.2 x0.1 4) λ(x2:Int×Bool)=>.lv (Q44 x2.1) λ(x3:Q0f×Bool)=>.br (!x3.2) (.lv (Q30 c 1 x2.1) λ(x4:Q01)=>.lf (x4,{C1:=0,C5:=0,D7:=0,Value:=0},x0.2.2)) (.lv (Q5q x3.1.Op) λ(x5:Bool)=>let T1:Tree ((Q01×Q1b×(List Int))):=.br (decide (x3.1.Op>=56)) (.an (Qme c x3.1) (.lv (Qkl c x3.1) λ(x7:Q01×Q1b)=>.lf (x7.1,x7.2,x0.2.2))) (.br (decide (x3.1.Op>=40)) (.an (Qrq c x3.1) (.lv (Z11 c x3.1) λ(x8:Q01)=>.lf (x8,{C1:=0,C5:=0,D7:=0,Value:=0},x0.2.2))) (.br (decide (x3.1.Op>=32)) (.an (Qka c x0.2.2 x3.1) (.lv (Q50 c x0.2.2 x3.1) λ(x9:Q01×List Int)=>.lf (x9.1,{C1:=0,C5:=0,D7:=0,Value:=0},x9.2))) (.br (x3.1.Op==24) (.an (Q3s c x3.1.A (ishl u32 (wrap u32 x3.1.Imm) 16)) (.lv (Q2 c x3.1.A (ishl u32 (wrap u32 x3.1.Imm) 16)) λ(x10:Q01)=>.lf ({X:=x10.X,Pc:=wrap u32 (x10.Pc+4),B3:=x10.B3},{C1:=0,C5:=0,D7:=0,Value:=0},x0.2.2))) (let E2:=aK (A16.l c.X) x3.1.B.toNat 0;let E3:=bJ 0 1&&decide (0<=x3.1.B/\x3.1.B<(↑16:Int));.br (decide (x3.1.Op<=13)) (.cn (bJ 0 1&&decide (0<=x3.1.C/\x3.1.C<(↑16:Int))) (.cn E3 (let E4:=aK (A16.l c.X) x3.1.C.toNat 0;.an (Qma x3.1.Op E2 E4) (.lv (Qcg x3.1.Op E2 E4) λ(x11:Int×Bool)=>.an (Q3s c x3.1.A x11.1) (.lv (Q2 c x3.1.A x11.1) λ(x12:Q01)=>.lf ({X:=x12.X,Pc:=wrap u32 (x12.Pc+4),B3:=x12.B3},{C1:=0,C5:=0,D7:=0,Value:=0},x0.2.2)))))) (.cn E3 (.an (Qma x3.1.Op E2 (wrap u32 x3.1.Imm)) (.lv (Qcg x3.1.Op E2 (wrap u32 x3.1.Imm)) λ(x13:Int×Bool)=>.an (Q3s c x3.1.A x13.1) (.lv (Q2 c x3.1.A x13.1) λ(x14:Q01)=>.lf ({X:=x14.X,Pc:=wrap u32 (x14.Pc+4),B3:=x14.B3},{C1:=0,C5:=0,D7:=0,Value:=0},x0.2.2)))))))));.br x5 (.br (iand u32 c.B3.a0 (1:Int)==(0:Int)) (.lv (Q30 c 2 x2.1) λ(x6:Q01)=>.lf (x6,{C1:=0,C5:=0,D7:=0,Value:=0},x0.2.2)) T1) T1))))
def Qd5 c m:=(Qnl c m).m
abbrev Qzd c m:=(Qnl c m).p
def xx:Q0a:=mT 143 [false,true] true [.agg Q01.sig,.one (.row 0)] [.arr 23 1 (.ints .u32)] (λa r=>Qnl (Q01.of (aC a 0)) (rowL .u32 r 0)) (λX=>.tup [.agg (Q01.cells (X.1)),.agg (Q1b.cells (X.2.1))]) (λX=>[⟨false,23,1,.ints .u32 (X.2.2)⟩])
theorem Zle:Q04 pG xx:=oT (.cons Qrn (.cons Qis (.cons Qnk (.cons Qps (.cons Qt9 (.cons Z3e (.cons Zc3 (.cons Qxl (.cons Qgt (.cons Zeu (.nil))))))))))) Tryz.func143 Tryz.call143 [] [] 2
end
noncomputable section
def Qcq(m:Q00)(z:(Int)):Nat:=(32-z).toNat
def Q4u(m:Q00):Tree Q01:=
.an (Qez m) (.lv (Q2g m) λ(x0:Int)=>.br (iand u32 m.B2.B3.a0 (2:Int)==(0:Int)) (.lf m.B2) (.br (x0==0) (.lf m.B2) (.lp inferInstance (Qcq m 0+1) ((rZ/\rZ/\rE (x0:Int)/\rE (0:Int)/\True)/\(mE m (((Els.Nil (Els.ints u32 m.Mem)\/rE (1:Nat))/\rE m.Mem)) True)/\(rE (0:Int)/\rE (0:Int)/\rE (0:Int)/\rE (0:Int)/\rE (0:Int)/\rE (0:Int)/\rE (0:Int)/\rE (0:Int)/\rE (0:Int)/\rE (0:Int)/\rE (0:Int)/\rE (0:Int)/\rE (0:Int)/\rE (0:Int)/\rE (0:Int)/\rE (0:Int)/\rE (0:Int)/\rE (0:Int)/\rE (0:Int)/\rE (0:Int)/\rE (0:Int)/\rE (0:Int)/\rE (0:Int)/\rE (0:Int)/\rE (0:Int)/\True)/\True) 0 λ(v0:Int)=>.cn (decide (0<=wrap u64 v0)) (.br (iand u32 (ishr u32 x0 (wrap u64 v0)) (1:Int)==(0:Int)) (.nx ((rZ/\rZ/\rE (x0:Int)/\rE ((wrap i64 (v0+1)):Int)/\True)/\(mE m (((Els.Nil (Els.ints u32 m.Mem)\/rE (1:Nat))/\rE m.Mem)) True)/\(rE (0:Int)/\rE (0:Int)/\rE (0:Int)/\rE (0:Int)/\rE (0:Int)/\rE (0:Int)/\rE (0:Int)/\rE (0:Int)/\rE (0:Int)/\rE (0:Int)/\rE (0:Int)/\rE (0:Int)/\rE (0:Int)/\rE (0:Int)/\rE (0:Int)/\rE (0:Int)/\rE (0:Int)/\rE (0:Int)/\rE (0:Int)/\rE (0:Int)/\rE (0:Int)/\rE (0:Int)/\rE (0:Int)/\rE (0:Int)/\rE (0:Int)/\True)/\True) (Sum.inl (wrap i64 (v0+1)))) (.lv (Q30 m.B2 (wrap i64 (16+v0)) 0) λ(x1:Q01)=>.lf (Sum.inr x1))))))
def Q09 m:=(Q4u m).m
abbrev Qae m:=(Q4u m).p
def Qq6:LInv:={
 α:=(Int)
 F:=λst a=>([(1,.ptr 0 0 0),(2,.ptr 1 0 0),(3,(lk st 3)),(4,.int i64 a)],[⟨true,42,49,.gen [mB (cT st 1)]⟩,⟨true,28,25,.gen [[(cT st 2 0),(cT st 2 1),(cT st 2 2),(cT st 2 3),(cT st 2 4),(cT st 2 5),(cT st 2 6),(cT st 2 7),(cT st 2 8),(cT st 2 9),(cT st 2 10),(cT st 2 11),(cT st 2 12),(cT st 2 13),(cT st 2 14),(cT st 2 15),(cT st 2 16),(cT st 2 17),(cT st 2 18),(cT st 2 19),(cT st 2 20),(cT st 2 21),(cT st 2 22),(cT st 2 23),(cT st 2 24)]]⟩])
 a0:=λst=>(lk st 4).toInt
 ex0:=λst=>[]++[(rX st 1 0),(rX st 2 1)]}
def Qmf:List (Nat×LInv):=[(5,Qq6)]
def Qsy:Q0a:=mT 142 [] true [.agg Q00.sig] [] (λa r=>Q4u (Q00.of (aC a 0))) (λX=>.agg (Q01.cells X)) (λX=>[])
theorem Qgg:Q04 pG Qsy:=oT (.cons Qn9 (.cons Qis (.nil))) Tryz.func142 Tryz.call142 [] Qmf 3
def Qev(m:Q00):Tree Bool:=
.an (Qae m) (.lv (Q09 m) λ(x0:Q01)=>.br (iand u32 x0.B3.a0 (1:Int)==(0:Int)) (.lf false) (.an (Qc m.Mem x0.Pc 4) (.lv (Q2o m.Mem x0.Pc 4) λ(x1:Int×Bool)=>.lv (Q44 x1.1) λ(x2:Q0f×Bool)=>.br x1.2 (.br x2.2 (.br (x2.1.Op==60) (.lf (x2.1.Imm==2)) (.lf false)) (.lf false)) (.lf false))))
def Z6n m:=(Qev m).m
abbrev Qpn m:=(Qev m).p
def Zad:Q0a:=mT 105 [] true [.agg Q00.sig] [] (λa r=>Qev (Q00.of (aC a 0))) (λX=>.bool X) (λX=>[])
theorem Za0:Q04 pG Zad:=oT (.cons Qgg (.cons Qnk (.cons Qps (.nil)))) Tryz.func105 Tryz.call105 [] [] 2
def Q3q(c:Q0e)(port:Int):Tree (Q0e×Int):=
let T1:Tree ((Q0e×Int)):=.br (port==0) (.cn (decide ((0:Int)<=(1:Int)/\1<=(c.C9.length:Int)/\(c.C9.length:Int)<=(c.C9.length:Int))) (.cn (decide ((0:Int)<=(0:Int)/\0<(c.C9.length:Int))) (.lf ({C9:=cW (dB (c.C9.length:Int)-dB 1) (cX (dB 1) c.C9)},wrap u32 (↑(eQ (c.C9.getD (dB 0) (0:UInt8))):Int))))) (.br (port==1) (.lf (c,wrap u32 (c.C9.length:Int))) (.lf (c,0)));.br (port==0) (.br ((c.C9.length:Int)==(0:Int)) (.lf (c,4294967295)) T1) T1
def Q6q c port:=(Q3q c port).m
theorem Qsk(c:Q0e)(port:Int):(Q3q c port).p:=by
 unfold Tree.p Q3q
 repeat'(first|exact trivial|refine w_br (λ_=>?_) (λ_=>?_)|refine w_cn ?_ ?_|refine w_an ?_ ?_|refine w_lv (λ_ _=>?_)|refine w_nx ?_|refine w_lf ?_|refine And.intro ?_ ?_)
 all_goals(exact fin0)
def Qxc:Q0a:=mS 215 [] true [.agg Q0e.sig,.one (.int .i64)] [] (λa r=>Q3q (Q0e.of (aC a 0)) (argI a 1)) (λX=>.tup [.agg (Q0e.cells (X.1)),.int .u32 (X.2)]) (λX=>[])
theorem Que:Q04 pG Qxc:=oS (.nil) Tryz.func215 Tryz.call215 [] [] 2 (λ_ _ _=>by kernel_rfl) (λa r=>Qsk (Q0e.of (aC a 0)) (argI a 1)) (λ_ X=>by kernel_rfl)
def Qdu(t:Q0l):Tree Int:=
.br t.D3 (.lf 1) (.lf 0)
def Qir t:=(Qdu t).m
def Z3u:Q0a:=mS 216 [] true [.agg Q0l.sig] [] (λa r=>Qdu (Q0l.of (aC a 0))) (λX=>.int .u32 X) (λX=>[])
theorem Qzs:Q04 pG Z3u:=oS (.nil) Tryz.func216 Tryz.call216 [] [] 2
def Qfw(d0:Q0d)(port:Int):Tree Int:=
.br (port==4) (.lf d0.B8) (.br (port==5) (.lf d0.Frame) (.br (port==6) (.lf (wrap u32 d0.B7)) (.lf 0)))
def Qkv d0 port:=(Qfw d0 port).m
def Z7p:Q0a:=mS 217 [] true [.agg Q0d.sig,.one (.int .i64)] [] (λa r=>Qfw (Q0d.of (aC a 0)) (argI a 1)) (λX=>.int .u32 X) (λX=>[])
theorem Z4a:Q04 pG Z7p:=oS (.nil) Tryz.func217 Tryz.call217 [] [] 2
def Qej(n:Q0w)(port:Int):Tree Int:=
.br (port==7) (.lf n.Frame) (.br (port==8) (.lf n.E0) (.br (port==9) (.br n.C3 (.br n.B5 (.lf (wrap u32 ((1:Int)+(2:Int)))) (.lf 1)) (.br n.B5 (.lf (wrap u32 ((0:Int)+(2:Int)))) (.lf 0))) (.lf 0)))
def Qjl n port:=(Qej n port).m
def Zeg:Q0a:=mS 218 [] true [.agg Q0w.sig,.one (.int .i64)] [] (λa r=>Qej (Q0w.of (aC a 0)) (argI a 1)) (λX=>.int .u32 X) (λX=>[])
theorem Z8c:Q04 pG Zeg:=oS (.nil) Tryz.func218 Tryz.call218 [] [] 2
def Q63(b:Q06)(port:Int):Tree Int:=
.br (port==10) (.lf b.C4) (.br (port==11) (.lv (Qcw b) λ(x0:Int)=>.lf (wrap u32 x0)) (.lf 0))
def Q6s b port:=(Q63 b port).m
def Qxv:Q0a:=mS 219 [] true [.agg Q06.sig,.one (.int .i64)] [] (λa r=>Q63 (Q06.of (aC a 0)) (argI a 1)) (λX=>.int .u32 X) (λX=>[])
theorem Qun:Q04 pG Qxv:=oS (.cons Qsm (.nil)) Tryz.func219 Tryz.call219 [] [] 2
def Qna(m:Q00)(port clock:Int):Tree (Int×Q00):=
.br (decide (port<=1)) (.lv (Q6q m.A2 port) λ(x0:Q0e×Int)=>.lf (x0.2,{B2:=m.B2,Mem:=m.Mem,A2:=x0.1,A9:=m.A9,A7:=m.A7,C2:=m.C2,A0:=m.A0,A3:=m.A3,A4:=m.A4,A6:=m.A6})) (.br (port==2) (.lf (clock,m)) (.br (port==3) (.lv (Qir m.A9) λ(x1:Int)=>.lf (x1,m)) (.br (decide (port<=6)) (.lv (Qkv m.A7 port) λ(x2:Int)=>.lf (x2,m)) (.br (decide (port<=9)) (.lv (Qjl m.C2 port) λ(x3:Int)=>.lf (x3,m)) (.lv (Q6s m.A0 port) λ(x4:Int)=>.lf (x4,m))))))
def Qgd m port clock:=(Qna m port clock).m
def zx:Q0a:=mS 144 [true,false,false] true [.ptr 0,.one (.int .i64),.one (.int .u32)] [.box 42 49 (Q00.sigW (.row 1)),.arr 23 1 (.ints .u32)] (λa r=>Qna (Q00.ofW (r.getD 0 default).cs (rowL .u32 r 1)) (argI a 1) (argI a 2)) (λX=>.int .u32 (X.1)) (λX=>[⟨true,42,49,.gen [(Q00.cellsW (X.2) (.all 1))]⟩,⟨false,23,1,.ints .u32 (X.2).Mem⟩])
theorem Zkw:Q04 pG zx:=oS (.cons Que (.cons Qzs (.cons Z4a (.cons Z8c (.cons Qun (.nil)))))) Tryz.func144 Tryz.call144 [.row 23 1 (.ints .u32)] [] 2
def Qtz(deadline:Int):Tree Q0l:=
.br (deadline==0) (.lf ({D4:=false,C6:=0,D3:=false})) (.lf ({D4:=true,C6:=deadline,D3:=false}))
def Qyr deadline:=(Qtz deadline).m
def Zk7:Q0a:=mS 220 [] true [.one (.int .u32)] [] (λa r=>Qtz (argI a 0)) (λX=>.agg (Q0l.cells X)) (λX=>[])
theorem Zfn:Q04 pG Zk7:=oS (.nil) Tryz.func220 Tryz.call220 [] [] 2
def Qs5(x n:Int)(z:(Int)×(List Int)):Prop:=0<=z.1/\(z.2.length:Int)=z.1/\(z.1<=n\/z.1=0)
def Qe3(x n:Int)(z:(Int)×(List Int)):Nat:=(n-z.1).toNat
def Qfz(x n:Int):Tree (List UInt8):=
.lp inferInstance (Qe3 x n (0,[])+1) ((rE (x:Int)/\rE (n:Int)/\True/\rE (0:Int)/\True)/\rE ([]:List Int)/\True) (0,[]) λ(v0:Int×List Int)=>.br (decide (v0.1<n)) (.cn (decide (0<=wrap u64 (wrap i64 (8*v0.1)))) (.cn (decide (1*(v0.2.length+1)<=140737488355328)) (.nx ((rE (x:Int)/\rE (n:Int)/\True/\rE ((wrap i64 (v0.1+1)):Int)/\True)/\rE ((v0.2++[wrap u8 (ishr u32 x (wrap u64 (wrap i64 (8*v0.1))))]):List Int)/\True) (Sum.inl (wrap i64 (v0.1+1),v0.2++[wrap u8 (ishr u32 x (wrap u64 (wrap i64 (8*v0.1))))]))))) (.lf (Sum.inr (bytesOf v0.2)))
def Z7x x n:=(Qfz x n).m
def Qiq(x n:Int):Prop:=
n<=1000000000000
theorem Za6(x n:Int)(hw:Qiq x n):(Qfz x n).p:=by
 simp only[Qiq]at hw
 unfold Tree.p Qfz
 repeat'(first|refine w_lp (inv:=Qs5 x n) (μ:=Qe3 x n) ?_ (cL _) (λ_ _=>?_)|exact trivial|refine w_br (λ_=>?_) (λ_=>?_)|refine w_cn ?_ ?_|refine w_an ?_ ?_|refine w_lv (λ_ _=>?_)|refine w_nx ?_|refine w_lf ?_|refine And.intro ?_ ?_)
 all_goals((try simp only[Qs5,Qe3]at*);exact fin0)
def Zfm:LInv:={
 α:=(Int)×(List Int)
 F:=λst a=>([(0,(lk st 0)),(1,(lk st 1)),(5,.all 0),(6,.int i64 a.1)],[⟨false,5,1,.ints u8 a.2⟩])
 a0:=λst=>((lk st 6).toInt,(Q5v st.rows (rN st 5)))
 ex0:=λst=>[]++[(rX st 5 0)]}
def Z71:List (Nat×LInv):=[(3,Zfm)]
def Zk6:Q0a:=mkP 304 [] true [.one (.int .u32),.one (.int .i64)] [] (λa r=>Qiq (argI a 0) (argI a 1)) (λa r=>Z7x (argI a 0) (argI a 1)) (λX=>.str X) (λX=>[])
theorem Zfw:Q04 pG Zk6:=Q0i drawn Q0h (.nil) Tryz.func304 Tryz.call304 (λa r=>Qfz (argI a 0) (argI a 1)) [] Z71 3 (hp:=λa r h=>Za6 (argI a 0) (argI a 1) h)
def Qgb(m:List Int)(frame:Int)(z:(Int)×(List Int)):Nat:=(32-z.1).toNat
def Q93(m:List Int)(frame:Int):Tree ((List UInt8)×Bool):=
.br (decide (frame<0)) (.lf ([],false)) (.lv (Q46 m) λ(x0:Int)=>.br (decide (frame>=x0)) (.lf ([],false)) (.lp inferInstance (Qgb m frame (0,[])+1) ((((Els.Nil (Els.ints u32 m)\/rE (1:Nat))/\rE (m:List Int))/\rE (frame:Int)/\True/\rE (0:Int)/\True)/\rE ([]:List Int)/\True) (0,[]) λ(v0:Int×List Int)=>.br (decide (v0.1<32)) (.cn (bT 1 1&&bJ 0 1&&decide (0<=wrap i64 (wrap i64 (frame*32)+v0.1)/\wrap i64 (wrap i64 (frame*32)+v0.1)<(m.length:Int))) (let E1:=m.getD (dB (wrap i64 (wrap i64 (frame*32)+v0.1))) 0;.an (Qiq E1 4) (.lv (Z7x E1 4) λ(x1:List UInt8)=>.cn (decide (1*(v0.2.length+dG (Qay x1))<=140737488355328)) (.nx ((((Els.Nil (Els.ints u32 m)\/rE (1:Nat))/\rE (m:List Int))/\rE (frame:Int)/\True/\rE ((wrap i64 (v0.1+1)):Int)/\True)/\rE ((v0.2++Qay x1):List Int)/\True) (Sum.inl (wrap i64 (v0.1+1),v0.2++Qay x1)))))) (.lf (Sum.inr (bytesOf v0.2,true)))))
def Qgk m frame:=(Q93 m frame).m
abbrev Qfx m frame:=(Q93 m frame).p
def Zaf:LInv:={
 α:=(Int)×(List Int)
 F:=λst a=>([(0,(lk st 0)),(1,(lk st 1)),(6,.all 0),(7,.int i64 a.1)],[⟨false,5,1,.ints u8 a.2⟩])
 a0:=λst=>((lk st 7).toInt,(Q5v st.rows (rN st 6)))
 ex0:=λst=>[]++[(rX st 6 0)]}
def Z3s:List (Nat×LInv):=[(5,Zaf)]
def Zf8:Q0a:=mT 283 [] true [.one (.ints .u32),.one (.int .i64)] [] (λa r=>Q93 (argL .u32 a 0) (argI a 1)) (λX=>.tup [.str (X.1),.bool (X.2)]) (λX=>[])
theorem Qvv:Q04 pG Zf8:=oT (.cons Qby (.cons Zfw (.nil))) Tryz.func283 Tryz.call283 [] Z3s 3
def Qpr(d0:Q0d)(at0:Int):Tree (Q0b×Bool):=
.br (d0.B7 !=1) (.lf ({C1:=0,At:=0,B8:=0,C8:=[]},false)) (.br (d0.D6==1) (.lf ({C1:=3,At:=at0,B8:=d0.B4,C8:=[]},true)) (.br (d0.D6==2) (.lf ({C1:=4,At:=at0,B8:=d0.B4,C8:=d0.C0},true)) (.lf ({C1:=0,At:=0,B8:=0,C8:=[]},false))))
def Qit d0 at0:=(Qpr d0 at0).m
def Z3v:Q0a:=mS 284 [] true [.agg Q0d.sig,.one (.int .u64)] [] (λa r=>Qpr (Q0d.of (aC a 0)) (argI a 1)) (λX=>.tup [.agg (Q0b.cells (X.1)),.bool (X.2)]) (λX=>[])
theorem Z0i:Q04 pG Z3v:=oS (.nil) Tryz.func284 Tryz.call284 [] [] 2
def Q8f(d0:Q0d)(m:List Int)(port v at0:Int):Tree (Q0d×(List Q0b)):=
.br (port==4) (.lf ({Blocks:=d0.Blocks,B8:=v,Frame:=d0.Frame,B7:=d0.B7,D6:=d0.D6,B4:=d0.B4,B1:=d0.B1,C0:=d0.C0},[])) (.br (port==5) (.lf ({Blocks:=d0.Blocks,B8:=d0.B8,Frame:=v,B7:=d0.B7,D6:=d0.D6,B4:=d0.B4,B1:=d0.B1,C0:=d0.C0},[])) (.br (port !=6) (.lf (d0,[])) (let T1:Tree ((Q0d×(List Q0b))):=.br (d0.B7==0) (let T2:Tree ((Q0d×(List Q0b))):=.lf ({Blocks:=d0.Blocks,B8:=d0.B8,Frame:=d0.Frame,B7:=3,D6:=d0.D6,B4:=d0.B4,B1:=d0.B1,C0:=d0.C0},[]);.br (decide (d0.B8>=d0.Blocks)) T2 (.lv (Q2a m d0.Frame) λ(x0:Bool)=>.br (!x0) T2 (.br (v==2) (.an (Qfx m (wrap i64 d0.Frame)) (.lv (Qgk m (wrap i64 d0.Frame)) λ(x1:List UInt8×Bool)=>let E4:=({Blocks:=d0.Blocks,B8:=d0.B8,Frame:=d0.Frame,B7:=1,D6:=wrap i64 v,B4:=d0.B8,B1:=d0.Frame,C0:=x1.1}:Q0d);.lv (Qit E4 at0) λ(x2:Q0b×Bool)=>.lf (E4,[x2.1]))) (let E5:=({Blocks:=d0.Blocks,B8:=d0.B8,Frame:=d0.Frame,B7:=1,D6:=wrap i64 v,B4:=d0.B8,B1:=d0.Frame,C0:=[]}:Q0d);.lv (Qit E5 at0) λ(x3:Q0b×Bool)=>.lf (E5,[x3.1]))))) (.lf (d0,[]));.br (v==0) (let T3:Tree ((Q0d×(List Q0b))):=.lf ({Blocks:=d0.Blocks,B8:=d0.B8,Frame:=d0.Frame,B7:=0,D6:=d0.D6,B4:=d0.B4,B1:=d0.B1,C0:=d0.C0},[]);.br (d0.B7==2) T3 (.br (d0.B7==3) T3 (.br (v==1) T1 (.br (v==2) T1 (.lf (d0,[])))))) (.br (v==1) T1 (.br (v==2) T1 (.lf (d0,[])))))))
def Qiz d0 m port v at0:=(Q8f d0 m port v at0).m
abbrev Qm2 d0 m port v at0:=(Q8f d0 m port v at0).p
def Z38:Q0a:=mT 221 [] true [.agg Q0d.sig,.one (.ints .u32),.one (.int .i64),.one (.int .u32),.one (.int .u64)] [] (λa r=>Q8f (Q0d.of (aC a 0)) (argL .u32 a 1) (argI a 2) (argI a 3) (argI a 4)) (λX=>.tup [.agg (Q0d.cells (X.1)),.sl 4 (.recs .apiOutput (X.2)) true]) (λX=>[])
theorem Z03:Q04 pG Z38:=oT (.cons Qe8 (.cons Qvv (.cons Z0i (.nil)))) Tryz.func221 Tryz.call221 [.sl (.recs .apiOutput) true] [] 2
def Q9y(n:Q0w)(m:List Int)(port v at0:Int):Tree (Q0w×(List Q0b)):=
.br (port==7) (.lf ({Frame:=v,D8:=n.D8,C3:=n.C3,B6:=n.B6,B5:=n.B5,E0:=n.E0},[])) (.br (port==8) (.lf ({Frame:=n.Frame,D8:=v,C3:=n.C3,B6:=n.B6,B5:=n.B5,E0:=n.E0},[])) (.br (port !=9) (.lf (n,[])) (.br (v==0) (.lf ({Frame:=n.Frame,D8:=n.D8,C3:=n.C3,B6:=n.B6,B5:=false,E0:=0},[])) (let T1:Tree ((Q0w×(List Q0b))):=.br (v==2) (.lv (Q2a m n.Frame) λ(x2:Bool)=>.br x2 (.br (!n.C3) (.br (!n.B5) (.lf ({Frame:=n.Frame,D8:=n.D8,C3:=true,B6:=n.Frame,B5:=n.B5,E0:=n.E0},[])) (.lf (n,[]))) (.lf (n,[]))) (.lf (n,[]))) (.lf (n,[]));.br (v==1) (.br (decide (n.D8>=1)) (.br (decide (n.D8<=128)) (.lv (Q2a m n.Frame) λ(x0:Bool)=>.br x0 (.an (Qfx m (wrap i64 n.Frame)) (.lv (Qgk m (wrap i64 n.Frame)) λ(x1:List UInt8×Bool)=>.cn (decide ((0:Int)<=(0:Int)/\0<=n.D8/\n.D8<=(x1.1.length:Int))) (.lf (n,[{C1:=2,At:=at0,B8:=0,C8:=cW (dB n.D8-dB 0) (cX (dB 0) x1.1)}])))) T1) T1) T1) T1))))
def Qkr n m port v at0:=(Q9y n m port v at0).m
abbrev Qng n m port v at0:=(Q9y n m port v at0).p
def Z81:Q0a:=mT 222 [] true [.agg Q0w.sig,.one (.ints .u32),.one (.int .i64),.one (.int .u32),.one (.int .u64)] [] (λa r=>Q9y (Q0w.of (aC a 0)) (argL .u32 a 1) (argI a 2) (argI a 3) (argI a 4)) (λX=>.tup [.agg (Q0w.cells (X.1)),.sl 4 (.recs .apiOutput (X.2)) true]) (λX=>[])
theorem Z3f:Q04 pG Z81:=oT (.cons Qe8 (.cons Qvv (.nil))) Tryz.func222 Tryz.call222 [.sl (.recs .apiOutput) true] [] 2
def Qgm(b:Q06)(m:List Int)(port v:Int)(z:(Int)×(List Int)):Nat:=(32-z.1).toNat
def Q4v(b:Q06)(m:List Int)(port v:Int):Tree (Q06×(List Int)):=
let T1:Tree ((Q06×(List Int))):=.br (port==11) (.br (decide (v<32)) (.cn (decide (0<=v)) (.lf ({C4:=b.C4,B9:=Q7j u32 b.B9 (ishl u32 1 v)},m))) (.lf (b,m))) (.lf (b,m));.br (port==10) (.lv (Q2a m v) λ(x0:Bool)=>.br x0 (.cn (decide (0<=v)) (.br (iand u32 (ishr u32 b.B9 v) (1:Int)==(0:Int)) (.cn (decide (0<=v)) (.lp inferInstance (Qgm b m port v (0,m)+1) ((True/\rE (v:Int)/\rZ/\rZ/\rE (0:Int)/\True)/\rE (m:List Int)/\(rE b.C4/\rE ((ior u32 b.B9 (ishl u32 1 v)):Int)/\True)/\(rE (0:Int)/\rE (0:Int)/\True)/\True) (0,m) λ(v0:Int×List Int)=>.br (decide (v0.1<32)) (let E2:=wrap i64 (wrap i64 v*32)+v0.1;.cn (bT 1 1&&bJ 0 1&&decide (0<=wrap i64 E2/\wrap i64 E2<(v0.2.length:Int))) (.nx ((True/\rE (v:Int)/\rZ/\rZ/\rE ((wrap i64 (v0.1+1)):Int)/\True)/\rE ((dC v0.2 (dB (wrap i64 (wrap i64 (wrap i64 v*32)+v0.1))) 0):List Int)/\(rE b.C4/\rE ((ior u32 b.B9 (ishl u32 1 v)):Int)/\True)/\(rE (0:Int)/\rE (0:Int)/\True)/\True) (Sum.inl (wrap i64 (v0.1+1),dC v0.2 (dB (wrap i64 E2)) 0)))) (.lf (Sum.inr ({C4:=b.C4,B9:=ior u32 b.B9 (ishl u32 1 v)},v0.2))))) T1)) T1) T1
def Q71 b m port v:=(Q4v b m port v).m
abbrev Qrz b m port v:=(Q4v b m port v).p
def Zaz:LInv:={
 α:=(Int)×(List Int)
 F:=λst a=>([(1,.all 0),(3,(lk st 3)),(4,.ptr 1 0 0),(8,.ptr 2 0 0),(9,.int i64 a.1)],[⟨false,23,1,.ints u32 a.2⟩,⟨true,39,2,.gen [[(cT st 4 0),(cT st 4 1)]]⟩,⟨true,39,2,.gen [[(cT st 8 0),(cT st 8 1)]]⟩])
 a0:=λst=>((lk st 9).toInt,(Q5v st.rows 0))
 ex0:=λst=>[0]++[(rX st 4 1),(rX st 8 2)]}
def Z40:List (Nat×LInv):=[(4,Zaz)]
def Zg3:Q0a:=mT 223 [false,true,false,false] true [.agg Q06.sig,.one (.row 0),.one (.int .i64),.one (.int .u32)] [.arr 23 1 (.ints .u32)] (λa r=>Q4v (Q06.of (aC a 0)) (rowL .u32 r 0) (argI a 2) (argI a 3)) (λX=>.agg (Q06.cells (X.1))) (λX=>[⟨false,23,1,.ints .u32 (X.2)⟩])
theorem Zed:Q04 pG Zg3:=oT (.cons Qe8 (.nil)) Tryz.func223 Tryz.call223 [] Z40 3
def Qg5(m:Q00)(port v:Int):Tree ((List Q0b)×Q00):=
.br (port==0) (.lf ([{C1:=1,At:=m.A3,B8:=0,C8:=[(λ(n:Int)=>eR n.toNat) (wrap u8 v)]}],m)) (.br (decide (port<=2)) (.lf ([],m)) (.br (port==3) (.lv (Qyr v) λ(x0:Q0l)=>.lf ([],{B2:=m.B2,Mem:=m.Mem,A2:=m.A2,A9:=x0,A7:=m.A7,C2:=m.C2,A0:=m.A0,A3:=m.A3,A4:=m.A4,A6:=m.A6})) (.br (decide (port<=6)) (.an (Qm2 m.A7 m.Mem port v m.A3) (.lv (Qiz m.A7 m.Mem port v m.A3) λ(x1:Q0d×List Q0b)=>.lf (x1.2,{B2:=m.B2,Mem:=m.Mem,A2:=m.A2,A9:=m.A9,A7:=x1.1,C2:=m.C2,A0:=m.A0,A3:=m.A3,A4:=m.A4,A6:=m.A6}))) (.br (decide (port<=9)) (.an (Qng m.C2 m.Mem port v m.A3) (.lv (Qkr m.C2 m.Mem port v m.A3) λ(x2:Q0w×List Q0b)=>.lf (x2.2,{B2:=m.B2,Mem:=m.Mem,A2:=m.A2,A9:=m.A9,A7:=m.A7,C2:=x2.1,A0:=m.A0,A3:=m.A3,A4:=m.A4,A6:=m.A6}))) (.an (Qrz m.A0 m.Mem port v) (.lv (Q71 m.A0 m.Mem port v) λ(x3:Q06×List Int)=>.lf ([],{B2:=m.B2,Mem:=x3.2,A2:=m.A2,A9:=m.A9,A7:=m.A7,C2:=m.C2,A0:=x3.1,A3:=m.A3,A4:=m.A4,A6:=m.A6})))))))
def Qe m port v:=(Qg5 m port v).m
abbrev Qwe m port v:=(Qg5 m port v).p
def Zll:Q0a:=mT 146 [true,false,false] true [.ptr 0,.one (.int .i64),.one (.int .u32)] [.box 42 49 (Q00.sigW (.row 1)),.arr 23 1 (.ints .u32)] (λa r=>Qg5 (Q00.ofW (r.getD 0 default).cs (rowL .u32 r 1)) (argI a 1) (argI a 2)) (λX=>.sl 4 (.recs .apiOutput (X.1)) true) (λX=>[⟨true,42,49,.gen [(Q00.cellsW (X.2) (.all 1))]⟩,⟨false,23,1,.ints .u32 (X.2).Mem⟩])
theorem Zgp:Q04 pG Zll:=oT (.cons Zfn (.cons Z03 (.cons Z3f (.cons Zed (.nil))))) Tryz.func146 Tryz.call146 [.sl (.recs .apiOutput) true,.row 23 1 (.ints .u32)] [] 2
def Qao(m:Q00)(clock:Int):Tree ((List Q0b)×Q00):=
.an (Qae m) (.lv (Q09 m) λ(x0:Q01)=>.an (Qzd x0 m.Mem) (.lv (Qd5 x0 m.Mem) λ(x1:Q01×Q1b×List Int)=>let E1:=({B2:=x1.1,Mem:=x1.2.2,A2:=m.A2,A9:=m.A9,A7:=m.A7,C2:=m.C2,A0:=m.A0,A3:=m.A3,A4:=false,A6:=m.A6}:Q00);.br (x1.2.1.C1==1) (.lv (Qgd E1 x1.2.1.C5 clock) λ(x2:Int×Q00)=>.an (Q3s x2.2.B2 x1.2.1.D7 x2.1) (.lv (Q2 x2.2.B2 x1.2.1.D7 x2.1) λ(x3:Q01)=>.lf ([],{B2:=x3,Mem:=x2.2.Mem,A2:=x2.2.A2,A9:=x2.2.A9,A7:=x2.2.A7,C2:=x2.2.C2,A0:=x2.2.A0,A3:=wrap u64 (x2.2.A3+1),A4:=x2.2.A4,A6:=x2.2.A6}))) (.br (x1.2.1.C1==2) (.an (Qwe E1 x1.2.1.C5 x1.2.1.Value) (.lv (Qe E1 x1.2.1.C5 x1.2.1.Value) λ(x4:List Q0b×Q00)=>.lf (x4.1,{B2:=x4.2.B2,Mem:=x4.2.Mem,A2:=x4.2.A2,A9:=x4.2.A9,A7:=x4.2.A7,C2:=x4.2.C2,A0:=x4.2.A0,A3:=wrap u64 (x4.2.A3+1),A4:=x4.2.A4,A6:=x4.2.A6}))) (.br (x1.2.1.C1==3) (.lf ([],{B2:=x1.1,Mem:=x1.2.2,A2:=m.A2,A9:=m.A9,A7:=m.A7,C2:=m.C2,A0:=m.A0,A3:=wrap u64 (m.A3+1),A4:=true,A6:=m.A6})) (.br (x1.2.1.C1==4) (.lf ([],{B2:=x1.1,Mem:=x1.2.2,A2:=m.A2,A9:=m.A9,A7:=m.A7,C2:=m.C2,A0:=m.A0,A3:=wrap u64 (m.A3+1),A4:=false,A6:=true})) (.lf ([],{B2:=x1.1,Mem:=x1.2.2,A2:=m.A2,A9:=m.A9,A7:=m.A7,C2:=m.C2,A0:=m.A0,A3:=wrap u64 (m.A3+1),A4:=false,A6:=m.A6})))))))
def Q23 m clock:=(Qao m clock).m
abbrev Qf9 m clock:=(Qao m clock).p
def Z2t:Q0a:=mT 89 [true,false] true [.ptr 0,.one (.int .u32)] [.box 42 49 (Q00.sigW (.row 1)),.arr 23 1 (.ints .u32)] (λa r=>Qao (Q00.ofW (r.getD 0 default).cs (rowL .u32 r 1)) (argI a 1)) (λX=>.sl 4 (.recs .apiOutput (X.1)) true) (λX=>[⟨true,42,49,.gen [(Q00.cellsW (X.2) (.all 1))]⟩,⟨false,23,1,.ints .u32 (X.2).Mem⟩])
theorem Qmu:Q04 pG Z2t:=oT (.cons Qgg (.cons Zle (.cons Zkw (.cons Qgt (.cons Zgp (.nil)))))) Tryz.func89 Tryz.call89 [.sl (.recs .apiOutput) true,.row 23 1 (.ints .u32)] [] 2
end
noncomputable section
instance sumInhZg {α β:Type} [Inhabited β]:Inhabited (α⊕β):=⟨.inr default⟩
