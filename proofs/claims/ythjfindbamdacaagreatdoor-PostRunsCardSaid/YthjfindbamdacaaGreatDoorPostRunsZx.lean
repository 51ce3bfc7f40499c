import Derived.Test.YthjfindbamdacaaGreatDoorPostRunsYz
open Nat renaming blt->bJ,beq->bT,lt_succ_self->cL
open List renaming length->dG,replicate->cM,take->cW,drop->cX,set->dC,getD->aK
open Int renaming toNat->dB,tdiv->eN,tmod->dA
open UInt8 renaming ofNat->eR,toNat->eQ
set_option maxRecDepth 100000
set_option linter.all false
namespace Go.Proofs.YthjfindbamdacaaGreatDoor
open Go Go.GD Go.IntKind
noncomputable section
def Qa0(m:List Int):Tree (List Int):=
.cn (bJ (0:Nat) (1:Nat)&&bT (1:Nat) (1:Nat)&&List.all [D.int u32 (0:Int)] D.plain&&decide ((0:Int)<=(m.length:Int)/\(m.length:Int)<=(m.length:Int)/\(m.length:Int)<=(9223372036854775807:Int)/\(↑(4:Nat):Int)*(m.length:Int)<=(140737488355328:Int))) (let E1:=dG (cM (dB (m.length:Int)) (0:Int));.lf (cW (Min.min (m.length) E1) m++cX (Min.min (m.length) E1) (cM (dB (m.length:Int)) (0:Int))))
def Qnw m:=(Qa0 m).m
abbrev Qte m:=(Qa0 m).p
def Zgq:Q0b:=mT 141 [] true [.one (.ints .u32)] [] (λa r=>Qa0 (argL .u32 a 0)) (λX=>.all 0) (λX=>[⟨false,23,1,.ints .u32 X⟩])
theorem Ze2:Q04 pG Zgq:=oT (.nil) Tryz.func141 Tryz.call141 [.row 23 1 (.ints .u32)] [] 2
def Qcj(m:Q00):Tree Q00:=
.an (Qte m.Mem) (.lv (Qnw m.Mem) λ(x0:List Int)=>.lf ({A4:=m.A4,Mem:=x0,A3:=m.A3,B2:=m.B2,B0:=m.B0,C2:=m.C2,A1:=m.A1,A2:=m.A2,A6:=m.A6,A9:=m.A9}))
def Qpy m:=(Qcj m).m
abbrev Qjw m:=(Qcj m).p
def Znj:Q0b:=mT 87 [] true [.agg Q00.sig] [] (λa r=>Qcj (Q00.of (aC a 0))) (λX=>.agg (Q00.cellsW X (.all 0))) (λX=>[⟨false,23,1,.ints .u32 X.Mem⟩])
theorem Qrn:Q04 pG Znj:=oT (.cons Ze2 (.nil)) Tryz.func87 Tryz.call87 [.row 23 1 (.ints .u32)] [] 2
def Qr2(n k:Int)(z:(Int)×(List Int)):Prop:=0<=z.1/\(z.2.length:Int)=z.1/\(z.1<=k\/z.1=0)
def Qhb(n k:Int)(z:(Int)×(List Int)):Nat:=(k-z.1).toNat
def Qm5(n k:Int):Tree (List UInt8):=
.lp inferInstance (Qhb n k (0,[])+1) ((rE (n:Int)/\rE (k:Int)/\True/\rE (0:Int)/\True)/\rE ([]:List Int)/\True) (0,[]) λ(v0:Int×List Int)=>.br (decide (v0.1<k)) (.lv (Qzv n (wrap i64 (eN v0.1 9))) λ(x0:Int)=>.cn (decide (1*(v0.2.length+1)<=140737488355328)) (.nx ((rE (n:Int)/\rE (k:Int)/\True/\rE ((wrap i64 (v0.1+1)):Int)/\True)/\rE ((v0.2++[wrap u8 x0]):List Int)/\True) (Sum.inl (wrap i64 (v0.1+1),v0.2++[wrap u8 x0])))) (.lf (Sum.inr (bytesOf v0.2)))
def Z2j n k:=(Qm5 n k).m
def Qag(n k:Int):Prop:=
k<=1000000000000
theorem Z8m(n k:Int)(hw:Qag n k):(Qm5 n k).p:=by
 simp only[Qag]at hw
 unfold Tree.p Qm5
 repeat'(first|refine w_lp (inv:=Qr2 n k) (μ:=Qhb n k) ?_ (cL _) (λ_ _=>?_)|exact trivial|refine w_br (λ_=>?_) (λ_=>?_)|refine w_cn ?_ ?_|refine w_an ?_ ?_|refine w_lv (λ_ _=>?_)|refine w_nx ?_|refine w_lf ?_|refine And.intro ?_ ?_)
 all_goals((try simp only[Qr2,Qhb]at*);exact fin0)
def Zcf:LInv:={
 α:=(Int)×(List Int)
 F:=λst a=>([(0,(lk st 0)),(1,(lk st 1)),(5,.all 0),(6,.int i64 a.1)],[⟨false,5,1,.ints u8 a.2⟩])
 a0:=λst=>((lk st 6).toInt,(Q5u st.rows (rN st 5)))
 ex0:=λst=>[]++[(rX st 5 0)]}
def Z3z:List (Nat×LInv):=[(3,Zcf)]
def Zi7:Q0b:=mkP 20 [] true [.one (.int .i64),.one (.int .i64)] [] (λa r=>Qag (argI a 0) (argI a 1)) (λa r=>Z2j (argI a 0) (argI a 1)) (λX=>.str X) (λX=>[])
theorem Zcq:Q04 pG Zi7:=Q0o drawn Q0m (.cons Qrx (.nil)) Tryz.func20 Tryz.call20 (λa r=>Qm5 (argI a 0) (argI a 1)) [] Z3z 3 (hp:=λa r h=>Z8m (argI a 0) (argI a 1) h)
def Qfh(n:Int):Tree Q0f:=
.lv (Qzv n 2) λ(x0:Int)=>.br (dA x0 (7:Int)==(0:Int)) (.lf ({C3:=2,N:=0,C5:=[]})) (.br (dA x0 (7:Int)==(1:Int)) (.lf ({C3:=3,N:=wrap u32 (iand i64 (ishr i64 x0 8) 255),C5:=[]})) (.br (dA x0 (7:Int)==(2:Int)) (.lf ({C3:=3,N:=wrap u32 (iand i64 (ishr i64 x0 8) 255),C5:=[]})) (.br (dA x0 (7:Int)==(3:Int)) (.lf ({C3:=4,N:=1,C5:=[]})) (.br (dA x0 (7:Int)==(4:Int)) (.an (Qag x0 128) (.lv (Z2j x0 128) λ(x1:List UInt8)=>.lf ({C3:=4,N:=1,C5:=x1}))) (.br (dA x0 (7:Int)==(5:Int)) (let E1:=wrap i64 (1+dA (ishr i64 x0 8) 40);.an (Qag x0 E1) (.lv (Z2j x0 E1) λ(x2:List UInt8)=>.lf ({C3:=5,N:=0,C5:=x2}))) (.br (dA (ishr i64 x0 8) (4:Int)==(0:Int)) (.lf ({C3:=4,N:=0,C5:=[]})) (.lf ({C3:=6,N:=wrap u32 (dA (ishr i64 x0 8) 3),C5:=[]}))))))))
def Qh2 n:=(Qfh n).m
abbrev Qbf n:=(Qfh n).p
def Zef:Q0b:=mT 28 [] true [.one (.int .i64)] [] (λa r=>Qfh (argI a 0)) (λX=>.agg (Q0f.cells X)) (λX=>[])
theorem Qtm:Q04 pG Zef:=oT (.cons Qrx (.cons Zcq (.nil))) Tryz.func28 Tryz.call28 [] [] 2
def Qoq(m:List Int):Tree Int:=
.br (dA (m.length:Int) (32:Int) !=(0:Int)) (.lf 0) (.br (decide ((m.length:Int)>(1024:Int))) (.lf 0) (.lf (wrap i64 (eN (m.length:Int) 32))))
def Q4p m:=(Qoq m).m
def Zew:Q0b:=mS 157 [] true [.one (.ints .u32)] [] (λa r=>Qoq (argL .u32 a 0)) (λX=>.int .i64 X) (λX=>[])
theorem Qcq:Q04 pG Zew:=oS (.nil) Tryz.func157 Tryz.call157 [] [] 2
def Qlb(c:Q0c):Tree Bool:=
.lf (decide ((c.D0.length:Int)<=(16:Int)))
def Qi3 c:=(Qlb c).m
def Qwc:Q0b:=mS 158 [] true [.agg Q0c.sig] [] (λa r=>Qlb (Q0c.of (aC a 0))) (λX=>.bool X) (λX=>[])
theorem Qtq:Q04 pG Qwc:=oS (.nil) Tryz.func158 Tryz.call158 [] [] 2
def Qhf(t:Q0n):Tree Bool:=
.br t.D4 (.br t.D2 (.lf false) (.br t.D4 (.lf (t.C7 !=0)) (.br t.D2 (.lf true) (.lf (t.C7==0))))) (.br t.D4 (.lf (t.C7 !=0)) (.br t.D2 (.lf true) (.lf (t.C7==0))))
def Qdj t:=(Qhf t).m
def Z0q:Q0b:=mS 159 [] true [.agg Q0n.sig] [] (λa r=>Qhf (Q0n.of (aC a 0))) (λX=>.bool X) (λX=>[])
theorem Qzc:Q04 pG Z0q:=oS (.nil) Tryz.func159 Tryz.call159 [] [] 2
def Qkb(d0:Q0d)(pages:Int):Tree Bool:=
.br (decide (d0.Blocks>64)) (.lf false) (.br (decide (d0.B9<0)) (.lf false) (.br (decide (d0.B9>3)) (.lf false) (.br (d0.B9 !=1) (.br (d0.D5==0) (.br (d0.B5==0) (.br (d0.B1==0) (.lf (decide (d0.C1=[]))) (.lf false)) (.lf false)) (.lf false)) (.br (decide (d0.B5>=d0.Blocks)) (.lf false) (.br (decide (wrap i64 d0.B1>=pages)) (.lf false) (.br (d0.D5==1) (.br (decide (d0.C1=[])) (.lf true) (.br (d0.D5==2) (.lf ((d0.C1.length:Int)==(128:Int))) (.lf false))) (.br (d0.D5==2) (.lf ((d0.C1.length:Int)==(128:Int))) (.lf false))))))))
def Qfb d0 pages:=(Qkb d0 pages).m
def Z4s:Q0b:=mS 160 [] true [.agg Q0d.sig,.one (.int .i64)] [] (λa r=>Qkb (Q0d.of (aC a 0)) (argI a 1)) (λX=>.bool X) (λX=>[])
theorem Z08:Q04 pG Z4s:=oS (.nil) Tryz.func160 Tryz.call160 [] [] 2
def Qlw(n:Q0u)(pages:Int):Tree Bool:=
let T1:Tree (Bool):=.br n.B7 (.br (decide (n.E0>=1)) (.lf (decide (n.E0<=128))) (.lf false)) (.lf (n.E0==0));.br n.C4 (.br n.B7 (.lf false) (.br (decide (wrap i64 n.B6>=pages)) (.lf false) (.br (!n.C4) (.br (n.B6 !=0) (.lf false) T1) T1))) (.br (!n.C4) (.br (n.B6 !=0) (.lf false) T1) T1)
def Qh8 n pages:=(Qlw n pages).m
def Za2:Q0b:=mS 161 [] true [.agg Q0u.sig,.one (.int .i64)] [] (λa r=>Qlw (Q0u.of (aC a 0)) (argI a 1)) (λX=>.bool X) (λX=>[])
theorem Z4l:Q04 pG Za2:=oS (.nil) Tryz.func161 Tryz.call161 [] [] 2
def Qgc(b:Q06)(pages:Int)(z:(Int)):Prop:=0<=z/\z<=32
def Q76(b:Q06)(pages:Int)(z:(Int)):Nat:=(32-z).toNat
def Q6(b:Q06)(pages:Int):Tree Bool:=
.lp inferInstance (Q76 b pages 0+1) ((rE (pages:Int)/\rZ/\rE (0:Int)/\True)/\(rE b.C6/\rE b.C0/\True)/\True) 0 λ(v0:Int)=>.br (decide (v0<32)) (.cn (decide (0<=wrap u64 v0)) (let T1:Tree ((Int)⊕(Bool)):=.nx ((rE (pages:Int)/\rZ/\rE ((wrap i64 (v0+1)):Int)/\True)/\(rE b.C6/\rE b.C0/\True)/\True) (Sum.inl (wrap i64 (v0+1)));.br (iand u32 (ishr u32 b.C0 (wrap u64 v0)) (1:Int)==(1:Int)) (.br (decide (v0>=pages)) (.lf (Sum.inr false)) T1) T1)) (.lf (Sum.inr true))
def Qa7 b pages:=(Q6 b pages).m
theorem Qr6(b:Q06)(pages:Int):(Q6 b pages).p:=by
 unfold Tree.p Q6
 repeat'(first|refine w_lp (inv:=Qgc b pages) (μ:=Q76 b pages) ?_ (cL _) (λ_ _=>?_)|exact trivial|refine w_br (λ_=>?_) (λ_=>?_)|refine w_cn ?_ ?_|refine w_an ?_ ?_|refine w_lv (λ_ _=>?_)|refine w_nx ?_|refine w_lf ?_|refine And.intro ?_ ?_)
 all_goals((try simp only[Qgc,Q76]at*);exact fin0)
def Qua:LInv:={
 α:=(Int)
 F:=λst a=>([(1,(lk st 1)),(2,.ptr 0 0 0),(5,.int i64 a)],[⟨true,39,2,.gen [[(cT st 2 0),(cT st 2 1)]]⟩])
 a0:=λst=>(lk st 5).toInt
 ex0:=λst=>[]++[(rX st 2 0)]}
def Qq5:List (Nat×LInv):=[(2,Qua)]
def Quq:Q0b:=mS 162 [] true [.agg Q06.sig,.one (.int .i64)] [] (λa r=>Q6 (Q06.of (aC a 0)) (argI a 1)) (λX=>.bool X) (λX=>[])
theorem Qt5:Q04 pG Quq:=oS (.nil) Tryz.func162 Tryz.call162 [] Qq5 3 (λ_ _ _=>by kernel_rfl) (λa r=>Qr6 (Q06.of (aC a 0)) (argI a 1)) (λ_ X=>by kernel_rfl)
def Qwg(m:Q00):Tree Bool:=
.lv (Q4p m.Mem) λ(x0:Int)=>.br (decide (x0<1)) (.lf false) (.br (m.A4.X.a0 !=0) (.lf false) (.br (decide (m.A4.B3.a0>31)) (.lf false) (.br (decide (m.A4.B3.a7>31)) (.lf false) (.br (decide (m.A4.B3.a6>255)) (.lf false) (.br (dA m.A4.B3.a1 (4:Int) !=(0:Int)) (.lf false) (.lv (Qi3 m.A3) λ(x1:Bool)=>.br (!x1) (.lf false) (.lv (Qdj m.B2) λ(x2:Bool)=>.br (!x2) (.lf false) (.lv (Qfb m.B0 x0) λ(x3:Bool)=>.br (!x3) (.lf false) (.lv (Qh8 m.C2 x0) λ(x4:Bool)=>.br (!x4) (.lf false) (.lv (Qa7 m.A1 x0) λ(x5:Bool)=>.br (!x5) (.lf false) (.br (decide (m.A2<=1152921504606846976)) (.br m.A6 (.lf (!m.A9)) (.lf true)) (.lf false))))))))))))
def Qdl m:=(Qwg m).m
def Zn6:Q0b:=mS 101 [] true [.agg Q00.sig] [] (λa r=>Qwg (Q00.of (aC a 0))) (λX=>.bool X) (λX=>[])
theorem Qrr:Q04 pG Zn6:=oS (.cons Qcq (.cons Qtq (.cons Qzc (.cons Z08 (.cons Z4l (.cons Qt5 (.nil))))))) Tryz.func101 Tryz.call101 [] [] 2
def Z2s(t:Q0n):Tree (Q0n×Bool):=
.br (!t.D4) (.lf (t,false)) (.lf ({D4:=false,C7:=t.C7,D2:=true},true))
def Z1z t:=(Z2s t).m
def Zhy:Q0b:=mS 163 [] true [.agg Q0n.sig] [] (λa r=>Z2s (Q0n.of (aC a 0))) (λX=>.tup [.agg (Q0n.cells (X.1)),.bool (X.2)]) (λX=>[])
theorem Zd2:Q04 pG Zhy:=oS (.nil) Tryz.func163 Tryz.call163 [] [] 2
def Qim(c:Q0c)(b:Int):Tree (Q0c×Bool):=
.br (decide ((c.D0.length:Int)>=(16:Int))) (.lf (c,false)) (.cn (decide (c.D0.length+1<=maxLen)) (.lf ({D0:=c.D0++[(λ(n:Int)=>eR n.toNat) b]},true)))
def Z2w c b:=(Qim c b).m
abbrev Qu7 c b:=(Qim c b).p
def Zhb:Q0b:=mT 164 [] true [.agg Q0c.sig,.one (.int .u8)] [] (λa r=>Qim (Q0c.of (aC a 0)) (argI a 1)) (λX=>.tup [.agg (Q0c.cells (X.1)),.bool (X.2)]) (λX=>[])
theorem Zdj:Q04 pG Zhb:=oT (.nil) Tryz.func164 Tryz.call164 [] [] 2
def Qin(m:List Int)(frame:Int):Tree Bool:=
.lv (Q4p m) λ(x0:Int)=>.lf (decide (wrap u64 frame<wrap u64 x0))
def Q2h m frame:=(Qin m frame).m
def Zi5:Q0b:=mS 237 [] true [.one (.ints .u32),.one (.int .u32)] [] (λa r=>Qin (argL .u32 a 0) (argI a 1)) (λX=>.bool X) (λX=>[])
theorem Qf4:Q04 pG Zi5:=oS (.cons Qcq (.nil)) Tryz.func237 Tryz.call237 [] [] 2
def Qdw(m:List Int)(addr size v:Int):Tree (List Int):=
let E1:=bT 1 1&&bJ 0 1&&decide (0<=wrap u32 (eN addr 4)/\wrap u32 (eN addr 4)<(m.length:Int));let E2:=dB (wrap u32 (eN addr 4));.br (size==4) (.cn E1 (.lf (dC m E2 v))) (.cn E1 (let E3:=decide (0<=wrap u32 (8*dA addr 4));.cn E3 (.cn E3 (.cn E1 (.lf (dC m E2 (ior u32 (Q7 u32 (m.getD E2 0) (ishl u32 255 (wrap u32 (8*dA addr 4)))) (ishl u32 (iand u32 v 255) (wrap u32 (8*dA addr 4))))))))))
def Qat m addr size v:=(Qdw m addr size v).m
abbrev Qf7 m addr size v:=(Qdw m addr size v).p
def Zlr:Q0b:=mT 278 [true,false,false,false] true [.one (.row 0),.one (.int .u32),.one (.int .i64),.one (.int .u32)] [.arr 23 1 (.ints .u32)] (λa r=>Qdw (rowL .u32 r 0) (argI a 1) (argI a 2) (argI a 3)) (λX=>.tup []) (λX=>[⟨false,23,1,.ints .u32 X⟩])
theorem Z1u:Q04 pG Zlr:=oT (.nil) Tryz.func278 Tryz.call278 [] [] 2
def Qi(m:List Int)(frame:Int)(s:List UInt8)(z:(Int)×(List Int)):Nat:=(128-z.1).toNat
def Qa3(m:List Int)(frame:Int)(s:List UInt8):Tree (List Int):=
.lp inferInstance (Qi m frame s (0,m)+1) ((True/\rE (frame:Int)/\rE (s:List UInt8)/\rE (0:Int)/\True)/\rE (m:List Int)/\True) (0,m) λ(v0:Int×List Int)=>.br (decide (v0.1<(s.length:Int))) (.br (decide (v0.1<128)) (.cn (decide (0<=v0.1/\v0.1<(s.length:Int))) (let E1:=wrap u32 (↑(eQ (s.getD v0.1.toNat (0:UInt8))):Int);let E2:=wrap u32 (wrap i64 (wrap i64 (frame*128)+v0.1));.an (Qf7 v0.2 E2 1 E1) (.lv (Qat v0.2 E2 1 E1) λ(x0:List Int)=>.nx ((True/\rE (frame:Int)/\rE (s:List UInt8)/\rE ((wrap i64 (v0.1+1)):Int)/\True)/\rE (x0:List Int)/\True) (Sum.inl (wrap i64 (v0.1+1),x0))))) (.lf (Sum.inr v0.2))) (.lf (Sum.inr v0.2))
def Qks m frame s:=(Qa3 m frame s).m
abbrev Qlz m frame s:=(Qa3 m frame s).p
def Zfh:LInv:={
 α:=(Int)×(List Int)
 F:=λst a=>([(0,.all 0),(1,(lk st 1)),(2,(lk st 2)),(6,.int i64 a.1)],[⟨false,23,1,.ints u32 a.2⟩])
 a0:=λst=>((lk st 6).toInt,(Q5u st.rows 0))
 ex0:=λst=>[0]++[]}
def Z5b:List (Nat×LInv):=[(1,Zfh)]
def Zi4:Q0b:=mT 238 [true,false,false] true [.one (.row 0),.one (.int .i64),.one (.str)] [.arr 23 1 (.ints .u32)] (λa r=>Qa3 (rowL .u32 r 0) (argI a 1) (argS a 2)) (λX=>.tup []) (λX=>[⟨false,23,1,.ints .u32 X⟩])
theorem Qx:Q04 pG Zi4:=oT (.cons Z1u (.nil)) Tryz.func238 Tryz.call238 [] Z5b 3
def Qao(d0:Q0d)(m:List Int)(e:Q0f):Tree (Q0d×Bool×(List Int)):=
.br (d0.B9 !=1) (.lf (d0,false,m)) (.br (e.C3 !=4) (.lf (d0,false,m)) (.br (decide (e.N>1)) (.lf (d0,false,m)) (let E4:=({Blocks:=d0.Blocks,B8:=d0.B8,Frame:=d0.Frame,B9:=2,D5:=0,B5:=0,B1:=0,C1:=[]}:Q0d);let E5:=({Blocks:=d0.Blocks,B8:=d0.B8,Frame:=d0.Frame,B9:=3,D5:=0,B5:=0,B1:=0,C1:=[]}:Q0d);let T2:Tree ((Q0d×Bool×(List Int))):=.br (e.N==1) (.lf (E4,true,m)) (.lf (E5,true,m));let E6:=decide ((e.C5.length:Int)>(0:Int));.br (e.N==1) (let T1:Tree ((Q0d×Bool×(List Int))):=.br (d0.D5==1) (.an (Qlz m (wrap i64 d0.B1) e.C5) (.lv (Qks m (wrap i64 d0.B1) e.C5) λ(x1:List Int)=>.br (e.N==1) (.lf (E4,true,x1)) (.lf (E5,true,x1)))) T2;let T3:Tree ((Q0d×Bool×(List Int))):=.br (!d0.D5==1) (.br E6 (.lf (d0,false,m)) T1) T1;.br (d0.D5==1) (.br ((e.C5.length:Int) !=(128:Int)) (.lf (d0,false,m)) (.lv (Q2h m d0.B1) λ(x0:Bool)=>.br (!x0) (.lf (d0,false,m)) T3)) T3) (.br E6 (.lf (d0,false,m)) T2))))
def Qe3 d0 m e:=(Qao d0 m e).m
abbrev Qo1 d0 m e:=(Qao d0 m e).p
def Z9s:Q0b:=mT 165 [false,true,false] true [.agg Q0d.sig,.one (.row 0),.agg Q0f.sig] [.arr 23 1 (.ints .u32)] (λa r=>Qao (Q0d.of (aC a 0)) (rowL .u32 r 0) (Q0f.of (aC a 2))) (λX=>.tup [.agg (Q0d.cells (X.1)),.bool (X.2.1)]) (λX=>[⟨false,23,1,.ints .u32 (X.2.2)⟩])
theorem Z58:Q04 pG Z9s:=oT (.cons Qf4 (.cons Qx (.nil))) Tryz.func165 Tryz.call165 [] [] 2
def Qaw(n:Q0u)(m:List Int)(frame:List UInt8):Tree (Q0u×Bool×(List Int)):=
.br (!n.C4) (.lf (n,false,m)) (.br (decide ((frame.length:Int)<(1:Int))) (.lf (n,false,m)) (.br (decide ((frame.length:Int)>(128:Int))) (.lf (n,false,m)) (.lv (Q2h m n.B6) λ(x0:Bool)=>.br (!x0) (.lf (n,false,m)) (.an (Qlz m (wrap i64 n.B6) frame) (.lv (Qks m (wrap i64 n.B6) frame) λ(x1:List Int)=>.lf ({Frame:=n.Frame,D7:=n.D7,C4:=false,B6:=0,B7:=true,E0:=wrap u32 (frame.length:Int)},true,x1))))))
def Qem n m frame:=(Qaw n m frame).m
abbrev Qow n m frame:=(Qaw n m frame).p
def Z8b:Q0b:=mT 166 [false,true,false] true [.agg Q0u.sig,.one (.row 0),.one (.str)] [.arr 23 1 (.ints .u32)] (λa r=>Qaw (Q0u.of (aC a 0)) (rowL .u32 r 0) (argS a 2)) (λX=>.tup [.agg (Q0u.cells (X.1)),.bool (X.2.1)]) (λX=>[⟨false,23,1,.ints .u32 (X.2.2)⟩])
theorem Z5n:Q04 pG Z8b:=oT (.cons Qf4 (.cons Qx (.nil))) Tryz.func166 Tryz.call166 [] [] 2
def Qcg(m:Q00)(e:Q0f):Tree (Bool×Q00):=
.br m.A9 (.lf (false,m)) (let T1:Tree ((Bool×Q00)):=.br (e.C3==4) (.an (Qo1 m.B0 m.Mem e) (.lv (Qe3 m.B0 m.Mem e) λ(x2:Q0d×Bool×List Int)=>.lf (x2.2.1,{A4:=m.A4,Mem:=x2.2.2,A3:=m.A3,B2:=m.B2,B0:=x2.1,C2:=m.C2,A1:=m.A1,A2:=m.A2,A6:=m.A6,A9:=m.A9}))) (let T3:Tree ((Bool×Q00)):=.br (e.C3==6) (.br (decide (e.C5=[])) (.lf (true,{A4:=m.A4,Mem:=m.Mem,A3:=m.A3,B2:=m.B2,B0:=m.B0,C2:=m.C2,A1:={C6:=e.N,C0:=m.A1.C0},A2:=m.A2,A6:=m.A6,A9:=m.A9})) (.lf (false,m))) (.lf (false,m));.br (e.C3==5) (.br (e.N==0) (.an (Qow m.C2 m.Mem e.C5) (.lv (Qem m.C2 m.Mem e.C5) λ(x3:Q0u×Bool×List Int)=>.lf (x3.2.1,{A4:=m.A4,Mem:=x3.2.2,A3:=m.A3,B2:=m.B2,B0:=m.B0,C2:=x3.1,A1:=m.A1,A2:=m.A2,A6:=m.A6,A9:=m.A9}))) T3) T3);let T2:Tree ((Bool×Q00)):=.br (e.C3==3) (.br (decide (e.N<=255)) (.br (decide (e.C5=[])) (.an (Qu7 m.A3 (wrap u8 e.N)) (.lv (Z2w m.A3 (wrap u8 e.N)) λ(x1:Q0c×Bool)=>.lf (x1.2,{A4:=m.A4,Mem:=m.Mem,A3:=x1.1,B2:=m.B2,B0:=m.B0,C2:=m.C2,A1:=m.A1,A2:=m.A2,A6:=m.A6,A9:=m.A9}))) T1) T1) T1;.br (e.C3==2) (.br (e.N==0) (.br (decide (e.C5=[])) (.lv (Z1z m.B2) λ(x0:Q0n×Bool)=>.lf (x0.2,{A4:=m.A4,Mem:=m.Mem,A3:=m.A3,B2:=x0.1,B0:=m.B0,C2:=m.C2,A1:=m.A1,A2:=m.A2,A6:=m.A6,A9:=m.A9})) T2) T2) T2)
def Q5w m e:=(Qcg m e).m
abbrev Qqj m e:=(Qcg m e).p
def Zf:Q0b:=mT 103 [true,false] true [.ptr 0,.agg Q0f.sig] [.box 42 49 (Q00.sigW (.row 1)),.arr 23 1 (.ints .u32)] (λa r=>Qcg (Q00.ofW (r.getD 0 default).cs (rowL .u32 r 1)) (Q0f.of (aC a 1))) (λX=>.bool (X.1)) (λX=>[⟨true,42,49,.gen [(Q00.cellsW (X.2) (.all 1))]⟩,⟨false,23,1,.ints .u32 (X.2).Mem⟩])
theorem Qt7:Q04 pG Zf:=oT (.cons Zd2 (.cons Zdj (.cons Z58 (.cons Z5n (.nil))))) Tryz.func103 Tryz.call103 [.row 23 1 (.ints .u32)] [] 2
def Qi9(is:Bool)(n:Int):Tree Int:=
.br is (.cn (decide (0<=wrap u64 n)) (.lf (ishl u32 1 (wrap u64 n)))) (.lf 0)
def Q9v is n:=(Qi9 is n).m
abbrev Qaz is n:=(Qi9 is n).p
def Zi:Q0b:=mT 292 [] true [.one (.bool),.one (.int .i64)] [] (λa r=>Qi9 (argB a 0) (argI a 1)) (λX=>.int .u32 X) (λX=>[])
theorem Zby:Q04 pG Zi:=oT (.nil) Tryz.func292 Tryz.call292 [] [] 2
def Qip(t:Q0n):Tree Bool:=
.lf t.D2
def Qb t:=(Qip t).m
def Qrl:Q0b:=mS 293 [] true [.agg Q0n.sig] [] (λa r=>Qip (Q0n.of (aC a 0))) (λX=>.bool X) (λX=>[])
theorem Qq4:Q04 pG Qrl:=oS (.nil) Tryz.func293 Tryz.call293 [] [] 2
def Qfd(c:Q0c):Tree Bool:=
.lf (decide ((c.D0.length:Int)>(0:Int)))
def Q67 c:=(Qfd c).m
def Qop:Q0b:=mS 294 [] true [.agg Q0c.sig] [] (λa r=>Qfd (Q0c.of (aC a 0))) (λX=>.bool X) (λX=>[])
theorem Qnc:Q04 pG Qop:=oS (.nil) Tryz.func294 Tryz.call294 [] [] 2
def Qju(d0:Q0d):Tree Bool:=
.br (d0.B9==2) (.lf true) (.lf (d0.B9==3))
def Qbz d0:=(Qju d0).m
def Qs7:Q0b:=mS 295 [] true [.agg Q0d.sig] [] (λa r=>Qju (Q0d.of (aC a 0))) (λX=>.bool X) (λX=>[])
theorem Qr7:Q04 pG Qs7:=oS (.nil) Tryz.func295 Tryz.call295 [] [] 2
def Ql3(n:Q0u):Tree Bool:=
.lf n.B7
def Qdf n:=(Ql3 n).m
def Quv:Q0b:=mS 296 [] true [.agg Q0u.sig] [] (λa r=>Ql3 (Q0u.of (aC a 0))) (λX=>.bool X) (λX=>[])
theorem Qun:Q04 pG Quv:=oS (.nil) Tryz.func296 Tryz.call296 [] [] 2
def Qol(b:Q06)(z:(Int)×(Int)):Prop:=0<=z.2/\z.2<=32
def Qg7(b:Q06)(z:(Int)×(Int)):Nat:=(32-z.2).toNat
def Qjr(b:Q06):Tree Int:=
.lp inferInstance (Qg7 b (0,0)+1) ((rZ/\rE (0:Int)/\rE (0:Int)/\True)/\(rE b.C6/\rE b.C0/\True)/\True) (0,0) λ(v0:Int×Int)=>.br (decide (v0.2<32)) (.cn (decide (0<=wrap u64 v0.2)) (.nx ((rZ/\rE ((wrap i64 (v0.1+wrap i64 (iand u32 (ishr u32 b.C0 (wrap u64 v0.2)) 1))):Int)/\rE ((wrap i64 (v0.2+1)):Int)/\True)/\(rE b.C6/\rE b.C0/\True)/\True) (Sum.inl (wrap i64 (v0.1+wrap i64 (iand u32 (ishr u32 b.C0 (wrap u64 v0.2)) 1)),wrap i64 (v0.2+1))))) (.lf (Sum.inr v0.1))
def Qep b:=(Qjr b).m
theorem Z5h(b:Q06):(Qjr b).p:=by
 unfold Tree.p Qjr
 repeat'(first|refine w_lp (inv:=Qol b) (μ:=Qg7 b) ?_ (cL _) (λ_ _=>?_)|exact trivial|refine w_br (λ_=>?_) (λ_=>?_)|refine w_cn ?_ ?_|refine w_an ?_ ?_|refine w_lv (λ_ _=>?_)|refine w_nx ?_|refine w_lf ?_|refine And.intro ?_ ?_)
 all_goals((try simp only[Qol,Qg7]at*);exact fin0)
def Z8c:LInv:={
 α:=(Int)×(Int)
 F:=λst a=>([(1,.ptr 0 0 0),(3,.int i64 a.1),(4,.int i64 a.2)],[⟨true,39,2,.gen [[(cT st 1 0),(cT st 1 1)]]⟩])
 a0:=λst=>((lk st 3).toInt,(lk st 4).toInt)
 ex0:=λst=>[]++[(rX st 1 0)]}
def Z33:List (Nat×LInv):=[(3,Z8c)]
def Zeb:Q0b:=mS 282 [] true [.agg Q06.sig] [] (λa r=>Qjr (Q06.of (aC a 0))) (λX=>.int .i64 X) (λX=>[])
theorem Qsg:Q04 pG Zeb:=oS (.nil) Tryz.func282 Tryz.call282 [] Z33 3 (λ_ _ _=>by kernel_rfl) (λa r=>Z5h (Q06.of (aC a 0))) (λ_ X=>by kernel_rfl)
def Q9h(b:Q06):Tree Bool:=
.lv (Qep b) λ(x0:Int)=>.lf (wrap u64 x0 !=wrap u64 b.C6)
def Q4l b:=(Q9h b).m
def Qnh:Q0b:=mS 297 [] true [.agg Q06.sig] [] (λa r=>Q9h (Q06.of (aC a 0))) (λX=>.bool X) (λX=>[])
theorem Qnb:Q04 pG Qnh:=oS (.cons Qsg (.nil)) Tryz.func297 Tryz.call297 [] [] 2
def Qfk(m:Q00):Tree Int:=
.lv (Qb m.B2) λ(x0:Bool)=>.an (Qaz x0 0) (.lv (Q9v x0 0) λ(x1:Int)=>.lv (Q67 m.A3) λ(x2:Bool)=>.an (Qaz x2 1) (.lv (Q9v x2 1) λ(x3:Int)=>.lv (Qbz m.B0) λ(x4:Bool)=>.an (Qaz x4 2) (.lv (Q9v x4 2) λ(x5:Int)=>.lv (Qdf m.C2) λ(x6:Bool)=>.an (Qaz x6 3) (.lv (Q9v x6 3) λ(x7:Int)=>.lv (Q4l m.A1) λ(x8:Bool)=>.an (Qaz x8 4) (.lv (Q9v x8 4) λ(x9:Int)=>.lf (ior u32 (ior u32 (ior u32 (ior u32 x1 x3) x5) x7) x9))))))
def Qgx m:=(Qfk m).m
abbrev Qr4 m:=(Qfk m).p
def Zen:Q0b:=mT 239 [] true [.agg Q00.sig] [] (λa r=>Qfk (Q00.of (aC a 0))) (λX=>.int .u32 X) (λX=>[])
theorem Z88:Q04 pG Zen:=oT (.cons Zby (.cons Qq4 (.cons Qnc (.cons Qr7 (.cons Qun (.cons Qnb (.nil))))))) Tryz.func239 Tryz.call239 [] [] 2
def Q96(m:Q00):Tree Int:=
.an (Qr4 m) (.lv (Qgx m) λ(x0:Int)=>.lf (iand u32 x0 m.A4.B3.a7))
def Q2m m:=(Q96 m).m
abbrev Qg1 m:=(Q96 m).p
def Z5a:Q0b:=mT 167 [] true [.agg Q00.sig] [] (λa r=>Q96 (Q00.of (aC a 0))) (λX=>.int .u32 X) (λX=>[])
theorem Qp1:Q04 pG Z5a:=oT (.cons Z88 (.nil)) Tryz.func167 Tryz.call167 [] [] 2
def Qek(m:Q00):Tree Bool:=
.br m.A6 (.an (Qg1 m) (.lv (Q2m m) λ(x0:Int)=>.lf (x0==0))) (.lf false)
def Qfa m:=(Qek m).m
abbrev Qmd m:=(Qek m).p
def Zgg:Q0b:=mT 104 [] true [.agg Q00.sig] [] (λa r=>Qek (Q00.of (aC a 0))) (λX=>.bool X) (λX=>[])
theorem Qy3:Q04 pG Zgg:=oT (.cons Qp1 (.nil)) Tryz.func104 Tryz.call104 [] [] 2
def Q9j(m:Q00):Tree Bool:=
.lv (Qdl m) λ(x0:Bool)=>.br (!x0) (.lf true) (.br m.A9 (.lf true) (.an (Qmd m) (.lv (Qfa m) λ(x1:Bool)=>.br x1 (.lf true) (.lf (decide (m.A2>=1152921504606846976))))))
def Q7u m:=(Q9j m).m
abbrev Qr1 m:=(Q9j m).p
def Zct:Q0b:=mT 88 [] true [.agg Q00.sig] [] (λa r=>Q9j (Q00.of (aC a 0))) (λX=>.bool X) (λX=>[])
theorem Zaq:Q04 pG Zct:=oT (.cons Qrr (.cons Qy3 (.nil))) Tryz.func88 Tryz.call88 [] [] 2
end
noncomputable section
def Z6k(b:Bool):Tree Int:=
.br b (.lf 1) (.lf 0)
def Qbx b:=(Z6k b).m
def Zm0:Q0b:=mS 269 [] true [.one (.bool)] [] (λa r=>Z6k (argB a 0)) (λX=>.int .u32 X) (λX=>[])
theorem Qs1:Q04 pG Zm0:=oS (.nil) Tryz.func269 Tryz.call269 [] [] 2
def Qik(c:Q02)(cause bad:Int):Tree Q02:=
.lv (Qbx (iand u32 c.B3.a0 (1:Int) !=(0:Int))) λ(x0:Int)=>.lv (Qbx (iand u32 c.B3.a0 (2:Int) !=(0:Int))) λ(x1:Int)=>.lf ({X:=c.X,Pc:=c.B3.a1,B3:={a0:=ior u32 (Q7 u32 (ior u32 (ior u32 (Q7 u32 c.B3.a0 24) (wrap u32 (8*x0))) (wrap u32 (16*x1))) 2) 1,a1:=c.B3.a1,a2:=c.Pc,a3:=wrap u32 cause,a4:=bad,a5:=c.B3.a5,a6:=c.B3.a6,a7:=c.B3.a7}})
def Q3d c cause bad:=(Qik c cause bad).m
def Zgf:Q0b:=mS 208 [] true [.agg Q02.sig,.one (.int .i64),.one (.int .u32)] [] (λa r=>Qik (Q02.of (aC a 0)) (argI a 1) (argI a 2)) (λX=>.agg (Q02.cells X)) (λX=>[])
theorem Qjm:Q04 pG Zgf:=oS (.cons Qs1 (.nil)) Tryz.func208 Tryz.call208 [] [] 2
def Q8g(m:List Int)(addr size:Int):Tree Bool:=
let T1:Tree (Bool):=.cn (decide (wrap u32 size≠0)) (.br (dA addr (wrap u32 size)==0) (.lv (Q4p m) λ(x0:Int)=>.lf (decide (addr<wrap u32 (wrap i64 (128*x0))))) (.lf false));.br (size !=1) (.br (size !=4) (.lf false) T1) T1
def Q36 m addr size:=(Q8g m addr size).m
abbrev Qde m addr size:=(Q8g m addr size).p
def Z9k:Q0b:=mT 240 [] true [.one (.ints .u32),.one (.int .u32),.one (.int .i64)] [] (λa r=>Q8g (argL .u32 a 0) (argI a 1) (argI a 2)) (λX=>.bool X) (λX=>[])
theorem Qk2:Q04 pG Z9k:=oT (.cons Qcq (.nil)) Tryz.func240 Tryz.call240 [] [] 2
def Q7c(m:List Int)(addr size:Int):Tree (Int×Bool):=
.an (Qde m addr size) (.lv (Q36 m addr size) λ(x0:Bool)=>.br (!x0) (.lf (0,false)) (.cn (bT 1 1&&bJ 0 1&&decide (0<=wrap u32 (eN addr 4)/\wrap u32 (eN addr 4)<(m.length:Int))) (.br (size==1) (.cn (decide (0<=wrap u32 (8*dA addr 4))) (.lf (iand u32 (ishr u32 (m.getD (dB (wrap u32 (eN addr 4))) 0) (wrap u32 (8*dA addr 4))) 255,true))) (.lf (m.getD (dB (wrap u32 (eN addr 4))) 0,true)))))
def Q2w m addr size:=(Q7c m addr size).m
abbrev Qd0 m addr size:=(Q7c m addr size).p
def Zie:Q0b:=mT 168 [] true [.one (.ints .u32),.one (.int .u32),.one (.int .i64)] [] (λa r=>Q7c (argL .u32 a 0) (argI a 1) (argI a 2)) (λX=>.tup [.int .u32 (X.1),.bool (X.2)]) (λX=>[])
theorem Qod:Q04 pG Zie:=oT (.cons Qk2 (.nil)) Tryz.func168 Tryz.call168 [] [] 2
def Qaj(w:Int):Tree (Q0g×Bool):=
.lv (Q2u (wrap i64 (ishr u32 w 24))) λ(x0:Int)=>let E5:=({Op:=0,A:=0,B:=0,C:=0,Imm:=0}:Q0g);.br (x0==0) (.lf (E5,false)) (.br (x0==2) (let E3:=({Op:=wrap i64 (ishr u32 w 24),A:=wrap i64 (iand u32 (ishr u32 w 20) 15),B:=wrap i64 (iand u32 (ishr u32 w 16) 15),C:=wrap i64 (iand u32 w 65535),Imm:=0}:Q0g);.lv (Q90 E3) λ(x1:Bool)=>.br (!x1) (.lf (E5,false)) (.lf (E3,true))) (let T1:Tree ((Q0g×Bool)):=let E2:=({Op:=wrap i64 (ishr u32 w 24),A:=wrap i64 (iand u32 (ishr u32 w 20) 15),B:=wrap i64 (iand u32 (ishr u32 w 16) 15),C:=0,Imm:=wrap i32 (wrap i16 (iand u32 w 65535))}:Q0g);.lv (Q90 E2) λ(x2:Bool)=>.br (!x2) (.lf (E5,false)) (.lf (E2,true));.br (x0==3) T1 (.br (x0==7) T1 (let E4:=({Op:=wrap i64 (ishr u32 w 24),A:=wrap i64 (iand u32 (ishr u32 w 20) 15),B:=wrap i64 (iand u32 (ishr u32 w 16) 15),C:=0,Imm:=wrap i32 (iand u32 w 65535)}:Q0g);.lv (Q90 E4) λ(x4:Bool)=>.br (!x4) (.lf (E5,false)) (.lf (E4,true))))))
def Q4i w:=(Qaj w).m
def Zam:Q0b:=mS 169 [] true [.one (.int .u32)] [] (λa r=>Qaj (argI a 0)) (λX=>.tup [.agg (Q0g.cells (X.1)),.bool (X.2)]) (λX=>[])
theorem Qr0:Q04 pG Zam:=oS (.cons Qf6 (.cons Qta (.nil))) Tryz.func169 Tryz.call169 [] [] 2
def Qya(access:Int):Tree Bool:=
.br (decide (access>=1)) (.lf (decide (access<=3))) (.lf false)
def Qgw access:=(Qya access).m
def Zd4:Q0b:=mS 270 [] true [.one (.int .i64)] [] (λa r=>Qya (argI a 0)) (λX=>.bool X) (λX=>[])
theorem Qtd:Q04 pG Zd4:=oS (.nil) Tryz.func270 Tryz.call270 [] [] 2
def Qxt(c:Q02):Tree Bool:=
.lf (iand u32 c.B3.a0 (5:Int)==(4:Int))
def Qpi c:=(Qxt c).m
def Zf2:Q0b:=mS 271 [] true [.agg Q02.sig] [] (λa r=>Qxt (Q02.of (aC a 0))) (λX=>.bool X) (λX=>[])
theorem Zb:Q04 pG Zf2:=oS (.nil) Tryz.func271 Tryz.call271 [] [] 2
def Q93(access:Int):Tree Int:=
.br (access==1) (.lf 4) (.br (access==3) (.lf 6) (.lf 5))
def Q42 access:=(Q93 access).m
def Z48:Q0b:=mS 272 [] true [.one (.int .i64)] [] (λa r=>Q93 (argI a 0)) (λX=>.int .i64 X) (λX=>[])
theorem Qor:Q04 pG Z48:=oS (.nil) Tryz.func272 Tryz.call272 [] [] 2
def Qaa(m:List Int)(root va access:Int):Tree Q18:=
.lv (Q42 access) λ(x0:Int)=>.lv (Q4p m) λ(x1:Int)=>.lv (Qgw access) λ(x2:Bool)=>let E4:=({Addr:=0,D9:=0,D1:=x0}:Q18);.br (!x2) (.lf (E4)) (.br (decide (va>=4096)) (.lf (E4)) (.br (decide (root>=wrap u32 x1)) (.lf (E4)) (let E6:=wrap u32 (root*128)+wrap u32 (4*wrap u32 (eN va 128));let E3:=eN (wrap u32 E6) 4;.cn (bT 1 1&&bJ 0 1&&decide (0<=wrap u32 E3/\wrap u32 E3<(m.length:Int))) (let E5:=m.getD (dB (wrap u32 E3)) 0;.br (iand u32 E5 (1:Int)==(0:Int)) (.lf (E4)) (let T1:Tree (Q18):=.br (decide (iand u32 (ishr u32 E5 8) 255>=wrap u32 x1)) (.lf (E4)) (.lf ({Addr:=wrap u32 (wrap u32 (iand u32 (ishr u32 E5 8) (255:Int)*(128:Int))+dA va 128),D9:=wrap u32 E6,D1:=0}));let T2:Tree (Q18):=.br (access==1) (.br (iand u32 E5 (4:Int)==(0:Int)) (.lf (E4)) T1) T1;.br (access==3) (.br (iand u32 E5 (2:Int)==(0:Int)) (.lf (E4)) T2) T2)))))
def Q75 m root va access:=(Qaa m root va access).m
abbrev Qtg m root va access:=(Qaa m root va access).p
def Zid:Q0b:=mT 273 [] true [.one (.ints .u32),.one (.int .u32),.one (.int .u32),.one (.int .i64)] [] (λa r=>Qaa (argL .u32 a 0) (argI a 1) (argI a 2) (argI a 3)) (λX=>.agg (Q18.cells X)) (λX=>[])
theorem Zfj:Q04 pG Zid:=oT (.cons Qor (.cons Qcq (.cons Qtd (.nil)))) Tryz.func273 Tryz.call273 [] [] 2
def Qe1(m:List Int)(entry access:Int):Tree (List Int):=
.an (Qde m entry 4) (.lv (Q36 m entry 4) λ(x0:Bool)=>.br (!x0) (.lf m) (let E3:=bT 1 1&&bJ 0 1&&decide (0<=wrap u32 (eN entry 4)/\wrap u32 (eN entry 4)<(m.length:Int));.cn E3 (.cn E3 (let E4:=dB (wrap u32 (eN entry 4));let E1:=dC m E4 (ior u32 (m.getD E4 0) 8);.br (access==3) (let E2:=bT 1 1&&bJ 0 1&&decide (0<=wrap u32 (eN entry 4)/\wrap u32 (eN entry 4)<(↑(dG E1):Int));.cn E2 (.cn E2 (.lf (dC E1 E4 (ior u32 (aK E1 E4 0) 16))))) (.lf E1)))))
def Qob m entry access:=(Qe1 m entry access).m
abbrev Qse m entry access:=(Qe1 m entry access).p
def Zh9:Q0b:=mT 274 [true,false,false] true [.one (.row 0),.one (.int .u32),.one (.int .i64)] [.arr 23 1 (.ints .u32)] (λa r=>Qe1 (rowL .u32 r 0) (argI a 1) (argI a 2)) (λX=>.tup []) (λX=>[⟨false,23,1,.ints .u32 X⟩])
theorem Zc8:Q04 pG Zh9:=oT (.cons Qk2 (.nil)) Tryz.func274 Tryz.call274 [] [] 2
def Q9o(c:Q02)(m:List Int)(va size access:Int):Tree (Int×Int×(List Int)):=
.lv (Qgw access) λ(x0:Bool)=>.br (!x0) (.lf (0,5,m)) (let T1:Tree ((Int×Int×(List Int))):=.cn (decide (wrap u32 size≠0)) (.br (dA va (wrap u32 size) !=0) (.lf (0,3,m)) (.lv (Qpi c) λ(x1:Bool)=>.br (!x1) (.an (Qde m va size) (.lv (Q36 m va size) λ(x2:Bool)=>.br (!x2) (.lv (Q42 access) λ(x3:Int)=>.lf (0,x3,m)) (.lf (va,0,m)))) (.an (Qtg m c.B3.a6 va access) (.lv (Q75 m c.B3.a6 va access) λ(x4:Q18)=>.br (x4.D1 !=0) (.lf (0,x4.D1,m)) (.an (Qse m x4.D9 access) (.lv (Qob m x4.D9 access) λ(x5:List Int)=>.lf (x4.Addr,0,x5)))))));.br (size !=1) (.br (size !=4) (.lf (0,5,m)) T1) T1)
def Q1d c m va size access:=(Q9o c m va size access).m
abbrev Q94 c m va size access:=(Q9o c m va size access).p
def Zda:Q0b:=mT 209 [false,true,false,false,false] true [.agg Q02.sig,.one (.row 0),.one (.int .u32),.one (.int .i64),.one (.int .i64)] [.arr 23 1 (.ints .u32)] (λa r=>Q9o (Q02.of (aC a 0)) (rowL .u32 r 0) (argI a 2) (argI a 3) (argI a 4)) (λX=>.tup [.int .u32 (X.1),.int .i64 (X.2.1)]) (λX=>[⟨false,23,1,.ints .u32 (X.2.2)⟩])
theorem Qso:Q04 pG Zda:=oT (.cons Qtd (.cons Zb (.cons Qk2 (.cons Qor (.cons Zfj (.cons Zc8 (.nil))))))) Tryz.func209 Tryz.call209 [] [] 2
def Qle(op:Int):Tree Bool:=
.br (decide (op>=57)) (.lf (decide (op<=64))) (.lf false)
def Q69 op:=(Qle op).m
def Qwb:Q0b:=mS 210 [] true [.one (.int .i64)] [] (λa r=>Qle (argI a 0)) (λX=>.bool X) (λX=>[])
theorem Qti:Q04 pG Qwb:=oS (.nil) Tryz.func210 Tryz.call210 [] [] 2
def Qcx(c:Q02):Tree Q02:=
.lv (Qbx (iand u32 c.B3.a0 (8:Int) !=(0:Int))) λ(x0:Int)=>.lv (Qbx (iand u32 c.B3.a0 (16:Int) !=(0:Int))) λ(x1:Int)=>.lf ({X:=c.X,Pc:=c.B3.a2,B3:={a0:=ior u32 (ior u32 (Q7 u32 c.B3.a0 3) (wrap u32 (1*x0))) (wrap u32 (2*x1)),a1:=c.B3.a1,a2:=c.B3.a2,a3:=c.B3.a3,a4:=c.B3.a4,a5:=c.B3.a5,a6:=c.B3.a6,a7:=c.B3.a7}})
def Qj5 c:=(Qcx c).m
def Zat:Q0b:=mS 275 [] true [.agg Q02.sig] [] (λa r=>Qcx (Q02.of (aC a 0))) (λX=>.agg (Q02.cells X)) (λX=>[])
theorem Z4d:Q04 pG Zat:=oS (.cons Qs1 (.nil)) Tryz.func275 Tryz.call275 [] [] 2
def Qe5(c:Q02)(r v:Int):Tree Q02:=
.br (decide (r>0)) (.br (decide (r<16)) (.cn (bJ 0 1&&decide (0<=r/\r<(↑16:Int))) (.lf ({X:=A16.of 0 (dC (A16.l c.X) r.toNat v),Pc:=c.Pc,B3:=c.B3}))) (.lf c)) (.lf c)
def Q24 c r v:=(Qe5 c r v).m
abbrev Q41 c r v:=(Qe5 c r v).p
def Zlf:Q0b:=mT 145 [] true [.agg Q02.sig,.one (.int .i64),.one (.int .u32)] [] (λa r=>Qe5 (Q02.of (aC a 0)) (argI a 1) (argI a 2)) (λX=>.agg (Q02.cells X)) (λX=>[])
theorem Qhk:Q04 pG Zlf:=oT (.nil) Tryz.func145 Tryz.call145 [] [] 2
def Qcd(c:Q02)(csr v:Int):Tree Q02:=
let E4:=bJ 0 1&&decide (0<=csr/\csr<(↑8:Int));let T2:Tree (Q02):=.cn E4 (.lf ({X:=c.X,Pc:=c.Pc,B3:=A8.of 0 (dC (A8.l c.B3) csr.toNat (iand u32 v 31))}));.br (csr==0) T2 (.br (csr==7) T2 (.br (csr==6) (.cn E4 (.lf ({X:=c.X,Pc:=c.Pc,B3:=A8.of 0 (dC (A8.l c.B3) csr.toNat (iand u32 v 255))}))) (let T3:Tree (Q02):=.cn E4 (.lf ({X:=c.X,Pc:=c.Pc,B3:=A8.of 0 (dC (A8.l c.B3) csr.toNat (Q7 u32 v 3))}));.br (csr==1) T3 (.br (csr==2) T3 (let T1:Tree (Q02):=.cn E4 (.lf ({X:=c.X,Pc:=c.Pc,B3:=A8.of 0 (dC (A8.l c.B3) csr.toNat v)}));.br (csr==3) T1 (.br (csr==4) T1 (.br (csr==5) T1 (.lf c))))))))
def Qgy c csr v:=(Qcd c csr v).m
abbrev Qqq c csr v:=(Qcd c csr v).p
def Zco:Q0b:=mT 276 [] true [.agg Q02.sig,.one (.int .i64),.one (.int .u32)] [] (λa r=>Qcd (Q02.of (aC a 0)) (argI a 1) (argI a 2)) (λX=>.agg (Q02.cells X)) (λX=>[])
theorem Z8g:Q04 pG Zco:=oT (.nil) Tryz.func276 Tryz.call276 [] [] 2
def Qdc(c:Q02)(i:Q0g):Tree (Q02×Q1f):=
.br (i.Op==56) (.lv (Q3d c 7 0) λ(x0:Q02)=>.lf (x0,{C3:=0,C8:=0,D8:=0,Value:=0})) (.br (i.Op==57) (.lv (Qj5 c) λ(x1:Q02)=>.lf (x1,{C3:=0,C8:=0,D8:=0,Value:=0})) (.br (i.Op==58) (.cn (bJ 0 1&&decide (0<=i.Imm/\i.Imm<(↑8:Int))) (let E3:=aK (A8.l c.B3) i.Imm.toNat 0;.an (Q41 c i.A E3) (.lv (Q24 c i.A E3) λ(x2:Q02)=>.lf ({X:=x2.X,Pc:=wrap u32 (x2.Pc+4),B3:=x2.B3},{C3:=0,C8:=0,D8:=0,Value:=0})))) (let E2:=bJ 0 1&&decide (0<=i.A/\i.A<(↑16:Int));.br (i.Op==59) (.cn E2 (let E4:=aK (A16.l c.X) i.A.toNat 0;.an (Qqq c (wrap i64 i.Imm) E4) (.lv (Qgy c (wrap i64 i.Imm) E4) λ(x3:Q02)=>.lf ({X:=x3.X,Pc:=wrap u32 (x3.Pc+4),B3:=x3.B3},{C3:=0,C8:=0,D8:=0,Value:=0})))) (let E1:=({X:=c.X,Pc:=wrap u32 (c.Pc+4),B3:=c.B3}:Q02);.br (i.Op==60) (.lf (E1,{C3:=1,C8:=wrap i64 i.Imm,D8:=i.A,Value:=0})) (.br (i.Op==61) (.cn E2 (.lf (E1,{C3:=2,C8:=wrap i64 i.Imm,D8:=0,Value:=aK (A16.l c.X) i.A.toNat 0}))) (.br (i.Op==62) (.lf (E1,{C3:=3,C8:=0,D8:=0,Value:=0})) (.br (i.Op==63) (.lf (E1,{C3:=5,C8:=0,D8:=0,Value:=0})) (.br (i.Op==64) (.lf (E1,{C3:=4,C8:=0,D8:=0,Value:=0})) (.lf (E1,{C3:=0,C8:=0,D8:=0,Value:=0}))))))))))
def Qlk c i:=(Qdc c i).m
abbrev Qoe c i:=(Qdc c i).p
def Zb1:Q0b:=mT 211 [] true [.agg Q02.sig,.agg Q0g.sig] [] (λa r=>Qdc (Q02.of (aC a 0)) (Q0g.of (aC a 1))) (λX=>.tup [.agg (Q02.cells (X.1)),.agg (Q1f.cells (X.2))]) (λX=>[])
theorem Z51:Q04 pG Zb1:=oT (.cons Qjm (.cons Z4d (.cons Qhk (.cons Z8g (.nil))))) Tryz.func211 Tryz.call211 [] [] 2
def Qxa(op a b:Int):Tree Bool:=
.br (op==40) (.lf (a==b)) (.br (op==41) (.lf (a !=b)) (.br (op==42) (.lf (decide (wrap i32 a<wrap i32 b))) (.br (op==43) (.lf (decide (wrap i32 a>=wrap i32 b))) (.br (op==44) (.lf (decide (a<b))) (.lf (decide (a>=b)))))))
def Q2t op a b:=(Qxa op a b).m
def Zfb:Q0b:=mS 277 [] true [.one (.int .i64),.one (.int .u32),.one (.int .u32)] [] (λa r=>Qxa (argI a 0) (argI a 1) (argI a 2)) (λX=>.bool X) (λX=>[])
theorem Z8k:Q04 pG Zfb:=oS (.nil) Tryz.func277 Tryz.call277 [] [] 2
def Qhn(c:Q02)(i:Q0g):Tree Q02:=
.br (i.Op==48) (.an (Q41 c i.A (wrap u32 (c.Pc+4))) (.lv (Q24 c i.A (wrap u32 (c.Pc+4))) λ(x0:Q02)=>.lf ({X:=x0.X,Pc:=wrap u32 (c.Pc+wrap u32 (4*wrap u32 i.Imm)),B3:=x0.B3}))) (let E1:=bJ 0 1&&decide (0<=i.B/\i.B<(↑16:Int));.br (i.Op==49) (.cn E1 (.an (Q41 c i.A (wrap u32 (c.Pc+4))) (.lv (Q24 c i.A (wrap u32 (c.Pc+4))) λ(x1:Q02)=>.lf ({X:=x1.X,Pc:=wrap u32 (aK (A16.l c.X) i.B.toNat 0+wrap u32 i.Imm),B3:=x1.B3})))) (.cn (bJ 0 1&&decide (0<=i.A/\i.A<(↑16:Int))) (.cn E1 (.lv (Q2t i.Op (aK (A16.l c.X) i.A.toNat 0) (aK (A16.l c.X) i.B.toNat 0)) λ(x2:Bool)=>.br x2 (.lf ({X:=c.X,Pc:=wrap u32 (c.Pc+wrap u32 (4*wrap u32 i.Imm)),B3:=c.B3})) (.lf ({X:=c.X,Pc:=wrap u32 (c.Pc+4),B3:=c.B3}))))))
def Z3j c i:=(Qhn c i).m
abbrev Qt6 c i:=(Qhn c i).p
def Zgd:Q0b:=mT 212 [] true [.agg Q02.sig,.agg Q0g.sig] [] (λa r=>Qhn (Q02.of (aC a 0)) (Q0g.of (aC a 1))) (λX=>.agg (Q02.cells X)) (λX=>[])
theorem Zcw:Q04 pG Zgd:=oT (.cons Qhk (.cons Z8k (.nil))) Tryz.func212 Tryz.call212 [] [] 2
def Q8(x n:Int):Tree Int:=
.br (decide (n<1)) (.lf 0) (.br (decide (n>=32)) (.lf x) (.cn (decide (0<=wrap u64 n)) (.cn (decide (0<=wrap u64 (wrap i64 (n-1)))) (let E1:=iand u32 x (wrap u32 (ishl u32 1 (wrap u64 n)-1));.br (ishr u32 E1 (wrap u64 (wrap i64 (n-1)))==1) (.cn (decide (0<=wrap u64 n)) (.lf (ior u32 E1 (ishl u32 4294967295 (wrap u64 n))))) (.lf E1)))))
def Q3s x n:=(Q8 x n).m
abbrev Qc9 x n:=(Q8 x n).p
def Qvd:Q0b:=mT 279 [] true [.one (.int .u32),.one (.int .i64)] [] (λa r=>Q8 (argI a 0) (argI a 1)) (λX=>.int .u32 X) (λX=>[])
theorem Qu9:Q04 pG Qvd:=oT (.nil) Tryz.func279 Tryz.call279 [] [] 2
def Q9w(c:Q02)(m:List Int)(i:Q0g):Tree (Q02×(List Int)):=
.cn (bJ 0 1&&decide (0<=i.B/\i.B<(↑16:Int))) (let E4:=wrap u32 (aK (A16.l c.X) i.B.toNat 0+wrap u32 i.Imm);let E5:=aK (A16.l c.X) i.A.toNat 0;let E6:=bJ 0 1&&decide (0<=i.A/\i.A<(↑16:Int));let E7:=({X:=c.X,Pc:=wrap u32 (c.Pc+4),B3:=c.B3}:Q02);let T1:Tree ((Q02×(List Int))):=let T3:Tree ((Q02×(List Int))):=.an (Q94 c m E4 4 3) (.lv (Q1d c m E4 4 3) λ(x0:Int×Int×List Int)=>.br (x0.2.1 !=0) (.lv (Q3d c x0.2.1 E4) λ(x1:Q02)=>.lf (x1,x0.2.2)) (.cn E6 (.an (Qf7 x0.2.2 x0.1 4 E5) (.lv (Qat x0.2.2 x0.1 4 E5) λ(x2:List Int)=>.lf (E7,x2)))));.br (i.Op==35) T3 (.br (i.Op==36) T3 (.an (Q94 c m E4 4 2) (.lv (Q1d c m E4 4 2) λ(x6:Int×Int×List Int)=>.br (x6.2.1 !=0) (.lv (Q3d c x6.2.1 E4) λ(x7:Q02)=>.lf (x7,x6.2.2)) (.an (Qd0 x6.2.2 x6.1 4) (.lv (Q2w x6.2.2 x6.1 4) λ(x8:Int×Bool)=>.br (i.Op==33) (.an (Qc9 x8.1 8) (.lv (Q3s x8.1 8) λ(x9:Int)=>.an (Q41 c i.A x9) (.lv (Q24 c i.A x9) λ(x10:Q02)=>.lf ({X:=x10.X,Pc:=wrap u32 (x10.Pc+4),B3:=x10.B3},x6.2.2)))) (.an (Q41 c i.A x8.1) (.lv (Q24 c i.A x8.1) λ(x11:Q02)=>.lf ({X:=x11.X,Pc:=wrap u32 (x11.Pc+4),B3:=x11.B3},x6.2.2))))))));.br (i.Op==32) T1 (.br (i.Op==35) T1 (let T2:Tree ((Q02×(List Int))):=.an (Q94 c m E4 1 3) (.lv (Q1d c m E4 1 3) λ(x24:Int×Int×List Int)=>.br (x24.2.1 !=0) (.lv (Q3d c x24.2.1 E4) λ(x25:Q02)=>.lf (x25,x24.2.2)) (.cn E6 (.an (Qf7 x24.2.2 x24.1 1 E5) (.lv (Qat x24.2.2 x24.1 1 E5) λ(x26:List Int)=>.lf (E7,x26)))));.br (i.Op==35) T2 (.br (i.Op==36) T2 (.an (Q94 c m E4 1 2) (.lv (Q1d c m E4 1 2) λ(x30:Int×Int×List Int)=>.br (x30.2.1 !=0) (.lv (Q3d c x30.2.1 E4) λ(x31:Q02)=>.lf (x31,x30.2.2)) (.an (Qd0 x30.2.2 x30.1 1) (.lv (Q2w x30.2.2 x30.1 1) λ(x32:Int×Bool)=>.br (i.Op==33) (.an (Qc9 x32.1 8) (.lv (Q3s x32.1 8) λ(x33:Int)=>.an (Q41 c i.A x33) (.lv (Q24 c i.A x33) λ(x34:Q02)=>.lf ({X:=x34.X,Pc:=wrap u32 (x34.Pc+4),B3:=x34.B3},x30.2.2)))) (.an (Q41 c i.A x32.1) (.lv (Q24 c i.A x32.1) λ(x35:Q02)=>.lf ({X:=x35.X,Pc:=wrap u32 (x35.Pc+4),B3:=x35.B3},x30.2.2)))))))))))
def Q5n c m i:=(Q9w c m i).m
abbrev Qlf c m i:=(Q9w c m i).p
def Z0a:Q0b:=mT 213 [false,true,false] true [.agg Q02.sig,.one (.row 0),.agg Q0g.sig] [.arr 23 1 (.ints .u32)] (λa r=>Q9w (Q02.of (aC a 0)) (rowL .u32 r 0) (Q0g.of (aC a 2))) (λX=>.agg (Q02.cells (X.1))) (λX=>[⟨false,23,1,.ints .u32 (X.2)⟩])
theorem Qz9:Q04 pG Z0a:=oT (.cons Qso (.cons Qjm (.cons Z1u (.cons Qod (.cons Qu9 (.cons Qhk (.nil))))))) Tryz.func213 Tryz.call213 [] [] 2
def Qx9(op:Int):Tree Int:=
.br (op==16) (.lf 1) (.br (op==17) (.lf 3) (.br (op==18) (.lf 4) (.br (op==19) (.lf 5) (.br (op==20) (.lf 6) (.br (op==21) (.lf 7) (.br (op==22) (.lf 8) (.br (op==23) (.lf 12) (.lf op))))))))
def Z76 op:=(Qx9 op).m
def Zf4:Q0b:=mS 280 [] true [.one (.int .i64)] [] (λa r=>Qx9 (argI a 0)) (λX=>.int .i64 X) (λX=>[])
theorem Zax:Q04 pG Zf4:=oS (.nil) Tryz.func280 Tryz.call280 [] [] 2
def Qak(a b:Int):Tree (Int×Int):=
.br (b==0) (.lf (4294967295,a)) (.cn (decide (wrap i64 (wrap i32 b)≠0)) (.cn (decide (wrap i64 (wrap i32 b)≠0)) (.lf (wrap u32 (wrap i64 (eN (wrap i64 (wrap i32 a)) (wrap i64 (wrap i32 b)))),wrap u32 (dA (wrap i64 (wrap i32 a)) (wrap i64 (wrap i32 b)))))))
def Qc6 a b:=(Qak a b).m
abbrev Qhw a b:=(Qak a b).p
def Z9d:Q0b:=mT 281 [] true [.one (.int .u32),.one (.int .u32)] [] (λa r=>Qak (argI a 0) (argI a 1)) (λX=>.tup [.int .u32 (X.1),.int .u32 (X.2)]) (λX=>[])
theorem Z5l:Q04 pG Z9d:=oT (.nil) Tryz.func281 Tryz.call281 [] [] 2
def Qkn(op a b:Int):Tree (Int×Bool):=
.lv (Z76 op) λ(x0:Int)=>.br (x0==1) (.lf (wrap u32 (a+b),true)) (.br (x0==2) (.lf (wrap u32 (a-b),true)) (.br (x0==3) (.lf (iand u32 a b,true)) (.br (x0==4) (.lf (ior u32 a b,true)) (.br (x0==5) (.lf (ixor u32 a b,true)) (.br (x0==6) (.lf (ishl u32 a (iand u32 b 31),true)) (.br (x0==7) (.lf (ishr u32 a (iand u32 b 31),true)) (.br (x0==8) (.lf (wrap u32 (ishr i32 (wrap i32 a) (iand u32 b 31)),true)) (.br (x0==9) (.lf (wrap u32 (a*b),true)) (.br (x0==10) (.an (Qhw a b) (.lv (Qc6 a b) λ(x1:Int×Int)=>.lf (x1.1,true))) (.br (x0==11) (.an (Qhw a b) (.lv (Qc6 a b) λ(x2:Int×Int)=>.lf (x2.2,true))) (.br (x0==12) (.lv (Qbx (decide (wrap i32 a<wrap i32 b))) λ(x3:Int)=>.lf (x3,true)) (.br (x0==13) (.lv (Qbx (decide (a<b))) λ(x4:Int)=>.lf (x4,true)) (.lf (0,false))))))))))))))
def Qcr op a b:=(Qkn op a b).m
abbrev Qns op a b:=(Qkn op a b).p
def Zm4:Q0b:=mT 214 [] true [.one (.int .i64),.one (.int .u32),.one (.int .u32)] [] (λa r=>Qkn (argI a 0) (argI a 1) (argI a 2)) (λX=>.tup [.int .u32 (X.1),.bool (X.2)]) (λX=>[])
theorem Zj0:Q04 pG Zm4:=oT (.cons Zax (.cons Z5l (.cons Qs1 (.nil)))) Tryz.func214 Tryz.call214 [] [] 2
def Qp(c:Q02)(m:List Int):Tree (Q02×Q1f×(List Int)):=
.an (Q94 c m c.Pc 4 1) (.lv (Q1d c m c.Pc 4 1) λ(x0:Int×Int×List Int)=>.br (x0.2.1 !=0) (.lv (Q3d c x0.2.1 c.Pc) λ(x1:Q02)=>.lf (x1,{C3:=0,C8:=0,D8:=0,Value:=0},x0.2.2)) (.an (Qd0 x0.2.2 x0.1 4) (.lv (Q2w x0.2.2 x0.1 4) λ(x2:Int×Bool)=>.lv (Q4i x2.1) λ(x3:Q0g×Bool)=>.br (!x3.2) (.lv (Q3d c 1 x2.1) λ(x4:Q02)=>.lf (x4,{C3:=0,C8:=0,D8:=0,Value:=0},x0.2.2)) (.lv (Q69 x3.1.Op) λ(x5:Bool)=>let T1:Tree ((Q02×Q1f×(List Int))):=.br (decide (x3.1.Op>=56)) (.an (Qoe c x3.1) (.lv (Qlk c x3.1) λ(x7:Q02×Q1f)=>.lf (x7.1,x7.2,x0.2.2))) (.br (decide (x3.1.Op>=40)) (.an (Qt6 c x3.1) (.lv (Z3j c x3.1) λ(x8:Q02)=>.lf (x8,{C3:=0,C8:=0,D8:=0,Value:=0},x0.2.2))) (.br (decide (x3.1.Op>=32)) (.an (Qlf c x0.2.2 x3.1) (.lv (Q5n c x0.2.2 x3.1) λ(x9:Q02×List Int)=>.lf (x9.1,{C3:=0,C8:=0,D8:=0,Value:=0},x9.2))) (.br (x3.1.Op==24) (.an (Q41 c x3.1.A (ishl u32 (wrap u32 x3.1.Imm) 16)) (.lv (Q24 c x3.1.A (ishl u32 (wrap u32 x3.1.Imm) 16)) λ(x10:Q02)=>.lf ({X:=x10.X,Pc:=wrap u32 (x10.Pc+4),B3:=x10.B3},{C3:=0,C8:=0,D8:=0,Value:=0},x0.2.2))) (let E2:=aK (A16.l c.X) x3.1.B.toNat 0;let E3:=bJ 0 1&&decide (0<=x3.1.B/\x3.1.B<(↑16:Int));.br (decide (x3.1.Op<=13)) (.cn (bJ 0 1&&decide (0<=x3.1.C/\x3.1.C<(↑16:Int))) (.cn E3 (let E4:=aK (A16.l c.X) x3.1.C.toNat 0;.an (Qns x3.1.Op E2 E4) (.lv (Qcr x3.1.Op E2 E4) λ(x11:Int×Bool)=>.an (Q41 c x3.1.A x11.1) (.lv (Q24 c x3.1.A x11.1) λ(x12:Q02)=>.lf ({X:=x12.X,Pc:=wrap u32 (x12.Pc+4),B3:=x12.B3},{C3:=0,C8:=0,D8:=0,Value:=0},x0.2.2)))))) (.cn E3 (.an (Qns x3.1.Op E2 (wrap u32 x3.1.Imm)) (.lv (Qcr x3.1.Op E2 (wrap u32 x3.1.Imm)) λ(x13:Int×Bool)=>.an (Q41 c x3.1.A x13.1) (.lv (Q24 c x3.1.A x13.1) λ(x14:Q02)=>.lf ({X:=x14.X,Pc:=wrap u32 (x14.Pc+4),B3:=x14.B3},{C3:=0,C8:=0,D8:=0,Value:=0},x0.2.2)))))))));.br x5 (.br (iand u32 c.B3.a0 (1:Int)==(0:Int)) (.lv (Q3d c 2 x2.1) λ(x6:Q02)=>.lf (x6,{C3:=0,C8:=0,D8:=0,Value:=0},x0.2.2)) T1) T1))))
def Qdy c m:=(Qp c m).m
abbrev Z1s c m:=(Qp c m).p
def zz:Q0b:=mT 143 [false,true] true [.agg Q02.sig,.one (.row 0)] [.arr 23 1 (.ints .u32)] (λa r=>Qp (Q02.of (aC a 0)) (rowL .u32 r 0)) (λX=>.tup [.agg (Q02.cells (X.1)),.agg (Q1f.cells (X.2.1))]) (λX=>[⟨false,23,1,.ints .u32 (X.2.2)⟩])
theorem Zn8:Q04 pG zz:=oT (.cons Qso (.cons Qjm (.cons Qod (.cons Qr0 (.cons Qti (.cons Z51 (.cons Zcw (.cons Qz9 (.cons Qhk (.cons Zj0 (.nil))))))))))) Tryz.func143 Tryz.call143 [] [] 2
end
noncomputable section
def Qdq(m:Q00)(z:(Int)):Nat:=(32-z).toNat
def Q5b(m:Q00):Tree Q02:=
.an (Qg1 m) (.lv (Q2m m) λ(x0:Int)=>.br (iand u32 m.A4.B3.a0 (2:Int)==(0:Int)) (.lf m.A4) (.br (x0==0) (.lf m.A4) (.lp inferInstance (Qdq m 0+1) ((rZ/\rZ/\rE (x0:Int)/\rE (0:Int)/\True)/\(mE m (((Els.Nil (Els.ints u32 m.Mem)\/rE (1:Nat))/\rE m.Mem)) True)/\(rE (0:Int)/\rE (0:Int)/\rE (0:Int)/\rE (0:Int)/\rE (0:Int)/\rE (0:Int)/\rE (0:Int)/\rE (0:Int)/\rE (0:Int)/\rE (0:Int)/\rE (0:Int)/\rE (0:Int)/\rE (0:Int)/\rE (0:Int)/\rE (0:Int)/\rE (0:Int)/\rE (0:Int)/\rE (0:Int)/\rE (0:Int)/\rE (0:Int)/\rE (0:Int)/\rE (0:Int)/\rE (0:Int)/\rE (0:Int)/\rE (0:Int)/\True)/\True) 0 λ(v0:Int)=>.cn (decide (0<=wrap u64 v0)) (.br (iand u32 (ishr u32 x0 (wrap u64 v0)) (1:Int)==(0:Int)) (.nx ((rZ/\rZ/\rE (x0:Int)/\rE ((wrap i64 (v0+1)):Int)/\True)/\(mE m (((Els.Nil (Els.ints u32 m.Mem)\/rE (1:Nat))/\rE m.Mem)) True)/\(rE (0:Int)/\rE (0:Int)/\rE (0:Int)/\rE (0:Int)/\rE (0:Int)/\rE (0:Int)/\rE (0:Int)/\rE (0:Int)/\rE (0:Int)/\rE (0:Int)/\rE (0:Int)/\rE (0:Int)/\rE (0:Int)/\rE (0:Int)/\rE (0:Int)/\rE (0:Int)/\rE (0:Int)/\rE (0:Int)/\rE (0:Int)/\rE (0:Int)/\rE (0:Int)/\rE (0:Int)/\rE (0:Int)/\rE (0:Int)/\rE (0:Int)/\True)/\True) (Sum.inl (wrap i64 (v0+1)))) (.lv (Q3d m.A4 (wrap i64 (16+v0)) 0) λ(x1:Q02)=>.lf (Sum.inr x1))))))
def Q07 m:=(Q5b m).m
abbrev Qb8 m:=(Q5b m).p
def Qs2:LInv:={
 α:=(Int)
 F:=λst a=>([(1,.ptr 0 0 0),(2,.ptr 1 0 0),(3,(lk st 3)),(4,.int i64 a)],[⟨true,42,49,.gen [mB (cT st 1)]⟩,⟨true,28,25,.gen [[(cT st 2 0),(cT st 2 1),(cT st 2 2),(cT st 2 3),(cT st 2 4),(cT st 2 5),(cT st 2 6),(cT st 2 7),(cT st 2 8),(cT st 2 9),(cT st 2 10),(cT st 2 11),(cT st 2 12),(cT st 2 13),(cT st 2 14),(cT st 2 15),(cT st 2 16),(cT st 2 17),(cT st 2 18),(cT st 2 19),(cT st 2 20),(cT st 2 21),(cT st 2 22),(cT st 2 23),(cT st 2 24)]]⟩])
 a0:=λst=>(lk st 4).toInt
 ex0:=λst=>[]++[(rX st 1 0),(rX st 2 1)]}
def Qne:List (Nat×LInv):=[(5,Qs2)]
def Qsj:Q0b:=mT 142 [] true [.agg Q00.sig] [] (λa r=>Q5b (Q00.of (aC a 0))) (λX=>.agg (Q02.cells X)) (λX=>[])
theorem Qj:Q04 pG Qsj:=oT (.cons Qp1 (.cons Qjm (.nil))) Tryz.func142 Tryz.call142 [] Qne 3
def Qf8(m:Q00):Tree Bool:=
.an (Qb8 m) (.lv (Q07 m) λ(x0:Q02)=>.br (iand u32 x0.B3.a0 (1:Int)==(0:Int)) (.lf false) (.an (Qd0 m.Mem x0.Pc 4) (.lv (Q2w m.Mem x0.Pc 4) λ(x1:Int×Bool)=>.lv (Q4i x1.1) λ(x2:Q0g×Bool)=>.br x1.2 (.br x2.2 (.br (x2.1.Op==60) (.lf (x2.1.Imm==2)) (.lf false)) (.lf false)) (.lf false))))
def Z6q m:=(Qf8 m).m
abbrev Qqo m:=(Qf8 m).p
def Ze6:Q0b:=mT 105 [] true [.agg Q00.sig] [] (λa r=>Qf8 (Q00.of (aC a 0))) (λX=>.bool X) (λX=>[])
theorem Za9:Q04 pG Ze6:=oT (.cons Qj (.cons Qod (.cons Qr0 (.nil)))) Tryz.func105 Tryz.call105 [] [] 2
def Q43(c:Q0c)(port:Int):Tree (Q0c×Int):=
let T1:Tree ((Q0c×Int)):=.br (port==0) (.cn (decide ((0:Int)<=(1:Int)/\1<=(c.D0.length:Int)/\(c.D0.length:Int)<=(c.D0.length:Int))) (.cn (decide ((0:Int)<=(0:Int)/\0<(c.D0.length:Int))) (.lf ({D0:=cW (dB (c.D0.length:Int)-dB 1) (cX (dB 1) c.D0)},wrap u32 (↑(eQ (c.D0.getD (dB 0) (0:UInt8))):Int))))) (.br (port==1) (.lf (c,wrap u32 (c.D0.length:Int))) (.lf (c,0)));.br (port==0) (.br ((c.D0.length:Int)==(0:Int)) (.lf (c,4294967295)) T1) T1
def Q7k c port:=(Q43 c port).m
theorem Qtl(c:Q0c)(port:Int):(Q43 c port).p:=by
 unfold Tree.p Q43
 repeat'(first|exact trivial|refine w_br (λ_=>?_) (λ_=>?_)|refine w_cn ?_ ?_|refine w_an ?_ ?_|refine w_lv (λ_ _=>?_)|refine w_nx ?_|refine w_lf ?_|refine And.intro ?_ ?_)
 all_goals(exact fin0)
def Qyb:Q0b:=mS 215 [] true [.agg Q0c.sig,.one (.int .i64)] [] (λa r=>Q43 (Q0c.of (aC a 0)) (argI a 1)) (λX=>.tup [.agg (Q0c.cells (X.1)),.int .u32 (X.2)]) (λX=>[])
theorem Qvy:Q04 pG Qyb:=oS (.nil) Tryz.func215 Tryz.call215 [] [] 2 (λ_ _ _=>by kernel_rfl) (λa r=>Qtl (Q0c.of (aC a 0)) (argI a 1)) (λ_ X=>by kernel_rfl)
def Qf(t:Q0n):Tree Int:=
.br t.D2 (.lf 1) (.lf 0)
def Qjk t:=(Qf t).m
def Z5r:Q0b:=mS 216 [] true [.agg Q0n.sig] [] (λa r=>Qf (Q0n.of (aC a 0))) (λX=>.int .u32 X) (λX=>[])
theorem Z0o:Q04 pG Z5r:=oS (.nil) Tryz.func216 Tryz.call216 [] [] 2
def Qgs(d0:Q0d)(port:Int):Tree Int:=
.br (port==4) (.lf d0.B8) (.br (port==5) (.lf d0.Frame) (.br (port==6) (.lf (wrap u32 d0.B9)) (.lf 0)))
def Qmj d0 port:=(Qgs d0 port).m
def Zan:Q0b:=mS 217 [] true [.agg Q0d.sig,.one (.int .i64)] [] (λa r=>Qgs (Q0d.of (aC a 0)) (argI a 1)) (λX=>.int .u32 X) (λX=>[])
theorem Z42:Q04 pG Zan:=oS (.nil) Tryz.func217 Tryz.call217 [] [] 2
def Qfn(n:Q0u)(port:Int):Tree Int:=
.br (port==7) (.lf n.Frame) (.br (port==8) (.lf n.E0) (.br (port==9) (.br n.C4 (.br n.B7 (.lf (wrap u32 ((1:Int)+(2:Int)))) (.lf 1)) (.br n.B7 (.lf (wrap u32 ((0:Int)+(2:Int)))) (.lf 0))) (.lf 0)))
def Qlj n port:=(Qfn n port).m
def Zf3:Q0b:=mS 218 [] true [.agg Q0u.sig,.one (.int .i64)] [] (λa r=>Qfn (Q0u.of (aC a 0)) (argI a 1)) (λX=>.int .u32 X) (λX=>[])
theorem Za4:Q04 pG Zf3:=oS (.nil) Tryz.func218 Tryz.call218 [] [] 2
def Q6l(b:Q06)(port:Int):Tree Int:=
.br (port==10) (.lf b.C6) (.br (port==11) (.lv (Qep b) λ(x0:Int)=>.lf (wrap u32 x0)) (.lf 0))
def Q7h b port:=(Q6l b port).m
def Qyy:Q0b:=mS 219 [] true [.agg Q06.sig,.one (.int .i64)] [] (λa r=>Q6l (Q06.of (aC a 0)) (argI a 1)) (λX=>.int .u32 X) (λX=>[])
theorem Qux:Q04 pG Qyy:=oS (.cons Qsg (.nil)) Tryz.func219 Tryz.call219 [] [] 2
def Qp0(m:Q00)(port clock:Int):Tree (Int×Q00):=
.br (decide (port<=1)) (.lv (Q7k m.A3 port) λ(x0:Q0c×Int)=>.lf (x0.2,{A4:=m.A4,Mem:=m.Mem,A3:=x0.1,B2:=m.B2,B0:=m.B0,C2:=m.C2,A1:=m.A1,A2:=m.A2,A6:=m.A6,A9:=m.A9})) (.br (port==2) (.lf (clock,m)) (.br (port==3) (.lv (Qjk m.B2) λ(x1:Int)=>.lf (x1,m)) (.br (decide (port<=6)) (.lv (Qmj m.B0 port) λ(x2:Int)=>.lf (x2,m)) (.br (decide (port<=9)) (.lv (Qlj m.C2 port) λ(x3:Int)=>.lf (x3,m)) (.lv (Q7h m.A1 port) λ(x4:Int)=>.lf (x4,m))))))
def Qii m port clock:=(Qp0 m port clock).m
def yz:Q0b:=mS 144 [true,false,false] true [.ptr 0,.one (.int .i64),.one (.int .u32)] [.box 42 49 (Q00.sigW (.row 1)),.arr 23 1 (.ints .u32)] (λa r=>Qp0 (Q00.ofW (r.getD 0 default).cs (rowL .u32 r 1)) (argI a 1) (argI a 2)) (λX=>.int .u32 (X.1)) (λX=>[⟨true,42,49,.gen [(Q00.cellsW (X.2) (.all 1))]⟩,⟨false,23,1,.ints .u32 (X.2).Mem⟩])
theorem Zm1:Q04 pG yz:=oS (.cons Qvy (.cons Z0o (.cons Z42 (.cons Za4 (.cons Qux (.nil)))))) Tryz.func144 Tryz.call144 [.row 23 1 (.ints .u32)] [] 2
def Qwk(deadline:Int):Tree Q0n:=
.br (deadline==0) (.lf ({D4:=false,C7:=0,D2:=false})) (.lf ({D4:=true,C7:=deadline,D2:=false}))
def Qzu deadline:=(Qwk deadline).m
def Zm:Q0b:=mS 220 [] true [.one (.int .u32)] [] (λa r=>Qwk (argI a 0)) (λX=>.agg (Q0n.cells X)) (λX=>[])
theorem Ziq:Q04 pG Zm:=oS (.nil) Tryz.func220 Tryz.call220 [] [] 2
def Qu2(x n:Int)(z:(Int)×(List Int)):Prop:=0<=z.1/\(z.2.length:Int)=z.1/\(z.1<=n\/z.1=0)
def Qex(x n:Int)(z:(Int)×(List Int)):Nat:=(n-z.1).toNat
def Qh1(x n:Int):Tree (List UInt8):=
.lp inferInstance (Qex x n (0,[])+1) ((rE (x:Int)/\rE (n:Int)/\True/\rE (0:Int)/\True)/\rE ([]:List Int)/\True) (0,[]) λ(v0:Int×List Int)=>.br (decide (v0.1<n)) (.cn (decide (0<=wrap u64 (wrap i64 (8*v0.1)))) (.cn (decide (1*(v0.2.length+1)<=140737488355328)) (.nx ((rE (x:Int)/\rE (n:Int)/\True/\rE ((wrap i64 (v0.1+1)):Int)/\True)/\rE ((v0.2++[wrap u8 (ishr u32 x (wrap u64 (wrap i64 (8*v0.1))))]):List Int)/\True) (Sum.inl (wrap i64 (v0.1+1),v0.2++[wrap u8 (ishr u32 x (wrap u64 (wrap i64 (8*v0.1))))]))))) (.lf (Sum.inr (bytesOf v0.2)))
def Z95 x n:=(Qh1 x n).m
def Qjf(x n:Int):Prop:=
n<=1000000000000
theorem Zfl(x n:Int)(hw:Qjf x n):(Qh1 x n).p:=by
 simp only[Qjf]at hw
 unfold Tree.p Qh1
 repeat'(first|refine w_lp (inv:=Qu2 x n) (μ:=Qex x n) ?_ (cL _) (λ_ _=>?_)|exact trivial|refine w_br (λ_=>?_) (λ_=>?_)|refine w_cn ?_ ?_|refine w_an ?_ ?_|refine w_lv (λ_ _=>?_)|refine w_nx ?_|refine w_lf ?_|refine And.intro ?_ ?_)
 all_goals((try simp only[Qu2,Qex]at*);exact fin0)
def Zg8:LInv:={
 α:=(Int)×(List Int)
 F:=λst a=>([(0,(lk st 0)),(1,(lk st 1)),(5,.all 0),(6,.int i64 a.1)],[⟨false,5,1,.ints u8 a.2⟩])
 a0:=λst=>((lk st 6).toInt,(Q5u st.rows (rN st 5)))
 ex0:=λst=>[]++[(rX st 5 0)]}
def Zbi:List (Nat×LInv):=[(3,Zg8)]
def Zl7:Q0b:=mkP 304 [] true [.one (.int .u32),.one (.int .i64)] [] (λa r=>Qjf (argI a 0) (argI a 1)) (λa r=>Z95 (argI a 0) (argI a 1)) (λX=>.str X) (λX=>[])
theorem Zif:Q04 pG Zl7:=Q0o drawn Q0m (.nil) Tryz.func304 Tryz.call304 (λa r=>Qh1 (argI a 0) (argI a 1)) [] Zbi 3 (hp:=λa r h=>Zfl (argI a 0) (argI a 1) h)
def Qiw(m:List Int)(frame:Int)(z:(Int)×(List Int)):Nat:=(32-z.1).toNat
def Qa2(m:List Int)(frame:Int):Tree ((List UInt8)×Bool):=
.br (decide (frame<0)) (.lf ([],false)) (.lv (Q4p m) λ(x0:Int)=>.br (decide (frame>=x0)) (.lf ([],false)) (.lp inferInstance (Qiw m frame (0,[])+1) ((((Els.Nil (Els.ints u32 m)\/rE (1:Nat))/\rE (m:List Int))/\rE (frame:Int)/\True/\rE (0:Int)/\True)/\rE ([]:List Int)/\True) (0,[]) λ(v0:Int×List Int)=>.br (decide (v0.1<32)) (.cn (bT 1 1&&bJ 0 1&&decide (0<=wrap i64 (wrap i64 (frame*32)+v0.1)/\wrap i64 (wrap i64 (frame*32)+v0.1)<(m.length:Int))) (let E1:=m.getD (dB (wrap i64 (wrap i64 (frame*32)+v0.1))) 0;.an (Qjf E1 4) (.lv (Z95 E1 4) λ(x1:List UInt8)=>.cn (decide (1*(v0.2.length+dG (Qbt x1))<=140737488355328)) (.nx ((((Els.Nil (Els.ints u32 m)\/rE (1:Nat))/\rE (m:List Int))/\rE (frame:Int)/\True/\rE ((wrap i64 (v0.1+1)):Int)/\True)/\rE ((v0.2++Qbt x1):List Int)/\True) (Sum.inl (wrap i64 (v0.1+1),v0.2++Qbt x1)))))) (.lf (Sum.inr (bytesOf v0.2,true)))))
def Qhd m frame:=(Qa2 m frame).m
abbrev Qgu m frame:=(Qa2 m frame).p
def Zfe:LInv:={
 α:=(Int)×(List Int)
 F:=λst a=>([(0,(lk st 0)),(1,(lk st 1)),(6,.all 0),(7,.int i64 a.1)],[⟨false,5,1,.ints u8 a.2⟩])
 a0:=λst=>((lk st 7).toInt,(Q5u st.rows (rN st 6)))
 ex0:=λst=>[]++[(rX st 6 0)]}
def Z4z:List (Nat×LInv):=[(5,Zfe)]
def Zhs:Q0b:=mT 283 [] true [.one (.ints .u32),.one (.int .i64)] [] (λa r=>Qa2 (argL .u32 a 0) (argI a 1)) (λX=>.tup [.str (X.1),.bool (X.2)]) (λX=>[])
theorem Qwz:Q04 pG Zhs:=oT (.cons Qcq (.cons Zif (.nil))) Tryz.func283 Tryz.call283 [] Z4z 3
def Qqp(d0:Q0d)(at0:Int):Tree (Q0a×Bool):=
.br (d0.B9 !=1) (.lf ({C3:=0,At:=0,B8:=0,C5:=[]},false)) (.br (d0.D5==1) (.lf ({C3:=3,At:=at0,B8:=d0.B5,C5:=[]},true)) (.br (d0.D5==2) (.lf ({C3:=4,At:=at0,B8:=d0.B5,C5:=d0.C1},true)) (.lf ({C3:=0,At:=0,B8:=0,C5:=[]},false))))
def Qje d0 at0:=(Qqp d0 at0).m
def Z4w:Q0b:=mS 284 [] true [.agg Q0d.sig,.one (.int .u64)] [] (λa r=>Qqp (Q0d.of (aC a 0)) (argI a 1)) (λX=>.tup [.agg (Q0a.cells (X.1)),.bool (X.2)]) (λX=>[])
theorem Z30:Q04 pG Z4w:=oS (.nil) Tryz.func284 Tryz.call284 [] [] 2
def Q91(d0:Q0d)(m:List Int)(port v at0:Int):Tree (Q0d×(List Q0a)):=
.br (port==4) (.lf ({Blocks:=d0.Blocks,B8:=v,Frame:=d0.Frame,B9:=d0.B9,D5:=d0.D5,B5:=d0.B5,B1:=d0.B1,C1:=d0.C1},[])) (.br (port==5) (.lf ({Blocks:=d0.Blocks,B8:=d0.B8,Frame:=v,B9:=d0.B9,D5:=d0.D5,B5:=d0.B5,B1:=d0.B1,C1:=d0.C1},[])) (.br (port !=6) (.lf (d0,[])) (let T1:Tree ((Q0d×(List Q0a))):=.br (d0.B9==0) (let T2:Tree ((Q0d×(List Q0a))):=.lf ({Blocks:=d0.Blocks,B8:=d0.B8,Frame:=d0.Frame,B9:=3,D5:=d0.D5,B5:=d0.B5,B1:=d0.B1,C1:=d0.C1},[]);.br (decide (d0.B8>=d0.Blocks)) T2 (.lv (Q2h m d0.Frame) λ(x0:Bool)=>.br (!x0) T2 (.br (v==2) (.an (Qgu m (wrap i64 d0.Frame)) (.lv (Qhd m (wrap i64 d0.Frame)) λ(x1:List UInt8×Bool)=>let E4:=({Blocks:=d0.Blocks,B8:=d0.B8,Frame:=d0.Frame,B9:=1,D5:=wrap i64 v,B5:=d0.B8,B1:=d0.Frame,C1:=x1.1}:Q0d);.lv (Qje E4 at0) λ(x2:Q0a×Bool)=>.lf (E4,[x2.1]))) (let E5:=({Blocks:=d0.Blocks,B8:=d0.B8,Frame:=d0.Frame,B9:=1,D5:=wrap i64 v,B5:=d0.B8,B1:=d0.Frame,C1:=[]}:Q0d);.lv (Qje E5 at0) λ(x3:Q0a×Bool)=>.lf (E5,[x3.1]))))) (.lf (d0,[]));.br (v==0) (let T3:Tree ((Q0d×(List Q0a))):=.lf ({Blocks:=d0.Blocks,B8:=d0.B8,Frame:=d0.Frame,B9:=0,D5:=d0.D5,B5:=d0.B5,B1:=d0.B1,C1:=d0.C1},[]);.br (d0.B9==2) T3 (.br (d0.B9==3) T3 (.br (v==1) T1 (.br (v==2) T1 (.lf (d0,[])))))) (.br (v==1) T1 (.br (v==2) T1 (.lf (d0,[])))))))
def Qj9 d0 m port v at0:=(Q91 d0 m port v at0).m
abbrev Qmo d0 m port v at0:=(Q91 d0 m port v at0).p
def Z55:Q0b:=mT 221 [] true [.agg Q0d.sig,.one (.ints .u32),.one (.int .i64),.one (.int .u32),.one (.int .u64)] [] (λa r=>Q91 (Q0d.of (aC a 0)) (argL .u32 a 1) (argI a 2) (argI a 3) (argI a 4)) (λX=>.tup [.agg (Q0d.cells (X.1)),.sl 4 (.recs .apiOutput (X.2)) true]) (λX=>[])
theorem Z2o:Q04 pG Z55:=oT (.cons Qf4 (.cons Qwz (.cons Z30 (.nil)))) Tryz.func221 Tryz.call221 [.sl (.recs .apiOutput) true] [] 2
def Qav(n:Q0u)(m:List Int)(port v at0:Int):Tree (Q0u×(List Q0a)):=
.br (port==7) (.lf ({Frame:=v,D7:=n.D7,C4:=n.C4,B6:=n.B6,B7:=n.B7,E0:=n.E0},[])) (.br (port==8) (.lf ({Frame:=n.Frame,D7:=v,C4:=n.C4,B6:=n.B6,B7:=n.B7,E0:=n.E0},[])) (.br (port !=9) (.lf (n,[])) (.br (v==0) (.lf ({Frame:=n.Frame,D7:=n.D7,C4:=n.C4,B6:=n.B6,B7:=false,E0:=0},[])) (let T1:Tree ((Q0u×(List Q0a))):=.br (v==2) (.lv (Q2h m n.Frame) λ(x2:Bool)=>.br x2 (.br (!n.C4) (.br (!n.B7) (.lf ({Frame:=n.Frame,D7:=n.D7,C4:=true,B6:=n.Frame,B7:=n.B7,E0:=n.E0},[])) (.lf (n,[]))) (.lf (n,[]))) (.lf (n,[]))) (.lf (n,[]));.br (v==1) (.br (decide (n.D7>=1)) (.br (decide (n.D7<=128)) (.lv (Q2h m n.Frame) λ(x0:Bool)=>.br x0 (.an (Qgu m (wrap i64 n.Frame)) (.lv (Qhd m (wrap i64 n.Frame)) λ(x1:List UInt8×Bool)=>.cn (decide ((0:Int)<=(0:Int)/\0<=n.D7/\n.D7<=(x1.1.length:Int))) (.lf (n,[{C3:=2,At:=at0,B8:=0,C5:=cW (dB n.D7-dB 0) (cX (dB 0) x1.1)}])))) T1) T1) T1) T1))))
def Qm1 n m port v at0:=(Qav n m port v at0).m
abbrev Qnj n m port v at0:=(Qav n m port v at0).p
def Zbl:Q0b:=mT 222 [] true [.agg Q0u.sig,.one (.ints .u32),.one (.int .i64),.one (.int .u32),.one (.int .u64)] [] (λa r=>Qav (Q0u.of (aC a 0)) (argL .u32 a 1) (argI a 2) (argI a 3) (argI a 4)) (λX=>.tup [.agg (Q0u.cells (X.1)),.sl 4 (.recs .apiOutput (X.2)) true]) (λX=>[])
theorem Z43:Q04 pG Zbl:=oT (.cons Qf4 (.cons Qwz (.nil))) Tryz.func222 Tryz.call222 [.sl (.recs .apiOutput) true] [] 2
def Qhp(b:Q06)(m:List Int)(port v:Int)(z:(Int)×(List Int)):Nat:=(32-z.1).toNat
def Q5d(b:Q06)(m:List Int)(port v:Int):Tree (Q06×(List Int)):=
let T1:Tree ((Q06×(List Int))):=.br (port==11) (.br (decide (v<32)) (.cn (decide (0<=v)) (.lf ({C6:=b.C6,C0:=Q7 u32 b.C0 (ishl u32 1 v)},m))) (.lf (b,m))) (.lf (b,m));.br (port==10) (.lv (Q2h m v) λ(x0:Bool)=>.br x0 (.cn (decide (0<=v)) (.br (iand u32 (ishr u32 b.C0 v) (1:Int)==(0:Int)) (.cn (decide (0<=v)) (.lp inferInstance (Qhp b m port v (0,m)+1) ((True/\rE (v:Int)/\rZ/\rZ/\rE (0:Int)/\True)/\rE (m:List Int)/\(rE b.C6/\rE ((ior u32 b.C0 (ishl u32 1 v)):Int)/\True)/\(rE (0:Int)/\rE (0:Int)/\True)/\True) (0,m) λ(v0:Int×List Int)=>.br (decide (v0.1<32)) (let E2:=wrap i64 (wrap i64 v*32)+v0.1;.cn (bT 1 1&&bJ 0 1&&decide (0<=wrap i64 E2/\wrap i64 E2<(v0.2.length:Int))) (.nx ((True/\rE (v:Int)/\rZ/\rZ/\rE ((wrap i64 (v0.1+1)):Int)/\True)/\rE ((dC v0.2 (dB (wrap i64 (wrap i64 (wrap i64 v*32)+v0.1))) 0):List Int)/\(rE b.C6/\rE ((ior u32 b.C0 (ishl u32 1 v)):Int)/\True)/\(rE (0:Int)/\rE (0:Int)/\True)/\True) (Sum.inl (wrap i64 (v0.1+1),dC v0.2 (dB (wrap i64 E2)) 0)))) (.lf (Sum.inr ({C6:=b.C6,C0:=ior u32 b.C0 (ishl u32 1 v)},v0.2))))) T1)) T1) T1
def Q7x b m port v:=(Q5d b m port v).m
abbrev Quk b m port v:=(Q5d b m port v).p
def Zde:LInv:={
 α:=(Int)×(List Int)
 F:=λst a=>([(1,.all 0),(3,(lk st 3)),(4,.ptr 1 0 0),(8,.ptr 2 0 0),(9,.int i64 a.1)],[⟨false,23,1,.ints u32 a.2⟩,⟨true,39,2,.gen [[(cT st 4 0),(cT st 4 1)]]⟩,⟨true,39,2,.gen [[(cT st 8 0),(cT st 8 1)]]⟩])
 a0:=λst=>((lk st 9).toInt,(Q5u st.rows 0))
 ex0:=λst=>[0]++[(rX st 4 1),(rX st 8 2)]}
def Z4n:List (Nat×LInv):=[(4,Zde)]
def Zi0:Q0b:=mT 223 [false,true,false,false] true [.agg Q06.sig,.one (.row 0),.one (.int .i64),.one (.int .u32)] [.arr 23 1 (.ints .u32)] (λa r=>Q5d (Q06.of (aC a 0)) (rowL .u32 r 0) (argI a 2) (argI a 3)) (λX=>.agg (Q06.cells (X.1))) (λX=>[⟨false,23,1,.ints .u32 (X.2)⟩])
theorem Zg3:Q04 pG Zi0:=oT (.cons Qf4 (.nil)) Tryz.func223 Tryz.call223 [] Z4n 3
def Qgz(m:Q00)(port v:Int):Tree ((List Q0a)×Q00):=
.br (port==0) (.lf ([{C3:=1,At:=m.A2,B8:=0,C5:=[(λ(n:Int)=>eR n.toNat) (wrap u8 v)]}],m)) (.br (decide (port<=2)) (.lf ([],m)) (.br (port==3) (.lv (Qzu v) λ(x0:Q0n)=>.lf ([],{A4:=m.A4,Mem:=m.Mem,A3:=m.A3,B2:=x0,B0:=m.B0,C2:=m.C2,A1:=m.A1,A2:=m.A2,A6:=m.A6,A9:=m.A9})) (.br (decide (port<=6)) (.an (Qmo m.B0 m.Mem port v m.A2) (.lv (Qj9 m.B0 m.Mem port v m.A2) λ(x1:Q0d×List Q0a)=>.lf (x1.2,{A4:=m.A4,Mem:=m.Mem,A3:=m.A3,B2:=m.B2,B0:=x1.1,C2:=m.C2,A1:=m.A1,A2:=m.A2,A6:=m.A6,A9:=m.A9}))) (.br (decide (port<=9)) (.an (Qnj m.C2 m.Mem port v m.A2) (.lv (Qm1 m.C2 m.Mem port v m.A2) λ(x2:Q0u×List Q0a)=>.lf (x2.2,{A4:=m.A4,Mem:=m.Mem,A3:=m.A3,B2:=m.B2,B0:=m.B0,C2:=x2.1,A1:=m.A1,A2:=m.A2,A6:=m.A6,A9:=m.A9}))) (.an (Quk m.A1 m.Mem port v) (.lv (Q7x m.A1 m.Mem port v) λ(x3:Q06×List Int)=>.lf ([],{A4:=m.A4,Mem:=x3.2,A3:=m.A3,B2:=m.B2,B0:=m.B0,C2:=m.C2,A1:=x3.1,A2:=m.A2,A6:=m.A6,A9:=m.A9})))))))
def Qez m port v:=(Qgz m port v).m
abbrev Qxl m port v:=(Qgz m port v).p
def Zlw:Q0b:=mT 146 [true,false,false] true [.ptr 0,.one (.int .i64),.one (.int .u32)] [.box 42 49 (Q00.sigW (.row 1)),.arr 23 1 (.ints .u32)] (λa r=>Qgz (Q00.ofW (r.getD 0 default).cs (rowL .u32 r 1)) (argI a 1) (argI a 2)) (λX=>.sl 4 (.recs .apiOutput (X.1)) true) (λX=>[⟨true,42,49,.gen [(Q00.cellsW (X.2) (.all 1))]⟩,⟨false,23,1,.ints .u32 (X.2).Mem⟩])
theorem Zim:Q04 pG Zlw:=oT (.cons Ziq (.cons Z2o (.cons Z43 (.cons Zg3 (.nil))))) Tryz.func146 Tryz.call146 [.sl (.recs .apiOutput) true,.row 23 1 (.ints .u32)] [] 2
def Qbj(m:Q00)(clock:Int):Tree ((List Q0a)×Q00):=
.an (Qb8 m) (.lv (Q07 m) λ(x0:Q02)=>.an (Z1s x0 m.Mem) (.lv (Qdy x0 m.Mem) λ(x1:Q02×Q1f×List Int)=>let E1:=({A4:=x1.1,Mem:=x1.2.2,A3:=m.A3,B2:=m.B2,B0:=m.B0,C2:=m.C2,A1:=m.A1,A2:=m.A2,A6:=false,A9:=m.A9}:Q00);.br (x1.2.1.C3==1) (.lv (Qii E1 x1.2.1.C8 clock) λ(x2:Int×Q00)=>.an (Q41 x2.2.A4 x1.2.1.D8 x2.1) (.lv (Q24 x2.2.A4 x1.2.1.D8 x2.1) λ(x3:Q02)=>.lf ([],{A4:=x3,Mem:=x2.2.Mem,A3:=x2.2.A3,B2:=x2.2.B2,B0:=x2.2.B0,C2:=x2.2.C2,A1:=x2.2.A1,A2:=wrap u64 (x2.2.A2+1),A6:=x2.2.A6,A9:=x2.2.A9}))) (.br (x1.2.1.C3==2) (.an (Qxl E1 x1.2.1.C8 x1.2.1.Value) (.lv (Qez E1 x1.2.1.C8 x1.2.1.Value) λ(x4:List Q0a×Q00)=>.lf (x4.1,{A4:=x4.2.A4,Mem:=x4.2.Mem,A3:=x4.2.A3,B2:=x4.2.B2,B0:=x4.2.B0,C2:=x4.2.C2,A1:=x4.2.A1,A2:=wrap u64 (x4.2.A2+1),A6:=x4.2.A6,A9:=x4.2.A9}))) (.br (x1.2.1.C3==3) (.lf ([],{A4:=x1.1,Mem:=x1.2.2,A3:=m.A3,B2:=m.B2,B0:=m.B0,C2:=m.C2,A1:=m.A1,A2:=wrap u64 (m.A2+1),A6:=true,A9:=m.A9})) (.br (x1.2.1.C3==4) (.lf ([],{A4:=x1.1,Mem:=x1.2.2,A3:=m.A3,B2:=m.B2,B0:=m.B0,C2:=m.C2,A1:=m.A1,A2:=wrap u64 (m.A2+1),A6:=false,A9:=true})) (.lf ([],{A4:=x1.1,Mem:=x1.2.2,A3:=m.A3,B2:=m.B2,B0:=m.B0,C2:=m.C2,A1:=m.A1,A2:=wrap u64 (m.A2+1),A6:=false,A9:=m.A9})))))))
def Q2a m clock:=(Qbj m clock).m
abbrev Qg8 m clock:=(Qbj m clock).p
def Z4:Q0b:=mT 89 [true,false] true [.ptr 0,.one (.int .u32)] [.box 42 49 (Q00.sigW (.row 1)),.arr 23 1 (.ints .u32)] (λa r=>Qbj (Q00.ofW (r.getD 0 default).cs (rowL .u32 r 1)) (argI a 1)) (λX=>.sl 4 (.recs .apiOutput (X.1)) true) (λX=>[⟨true,42,49,.gen [(Q00.cellsW (X.2) (.all 1))]⟩,⟨false,23,1,.ints .u32 (X.2).Mem⟩])
theorem Qoc:Q04 pG Z4:=oT (.cons Qj (.cons Zn8 (.cons Zm1 (.cons Qhk (.cons Zim (.nil)))))) Tryz.func89 Tryz.call89 [.sl (.recs .apiOutput) true,.row 23 1 (.ints .u32)] [] 2
end
noncomputable section
instance sumInhZg {α β:Type} [Inhabited β]:Inhabited (α⊕β):=⟨.inr default⟩
