import Derived.Test.YthjfindbamdacaaGreatDoorPostPushesYz
open Nat renaming blt->bJ,beq->bT,lt_succ_self->cL
open List renaming length->dG,replicate->cM,take->cW,drop->cX,set->dC,getD->aK
open Int renaming toNat->dB,tmod->dA,tdiv->eN
open UInt8 renaming ofNat->eR,toNat->eQ
set_option maxRecDepth 100000
set_option linter.all false
namespace Go.Proofs.YthjfindbamdacaaGreatDoor
open Go Go.GD Go.IntKind
noncomputable section
def Qcp(m:List Int):Tree (List Int):=
.cn (bJ (0:Nat) (1:Nat)&&bT (1:Nat) (1:Nat)&&List.all [D.int u32 (0:Int)] D.plain&&decide ((0:Int)<=(m.length:Int)/\(m.length:Int)<=(m.length:Int)/\(m.length:Int)<=(9223372036854775807:Int)/\(↑(4:Nat):Int)*(m.length:Int)<=(140737488355328:Int))) (let E1:=dG (cM (dB (m.length:Int)) (0:Int));.lf (cW (Min.min (m.length) E1) m++cX (Min.min (m.length) E1) (cM (dB (m.length:Int)) (0:Int))))
def Qpw m:=(Qcp m).m
abbrev Qpr m:=(Qcp m).p
def Zcm:Q09:=mT 141 [] true [.one (.ints .u32)] [] (λa r=>Qcp (argL .u32 a 0)) (λX=>.all 0) (λX=>[⟨false,23,1,.ints .u32 X⟩])
theorem Z9h:Q04 pG Zcm:=oT (.nil) Tryz.func141 Tryz.call141 [.row 23 1 (.ints .u32)] [] 2
def Qf6(m:Q00):Tree Q00:=
.an (Qpr m.Mem) (.lv (Qpw m.Mem) λ(x0:List Int)=>.lf ({B2:=m.B2,Mem:=x0,A2:=m.A2,A9:=m.A9,B1:=m.B1,C3:=m.C3,A0:=m.A0,A4:=m.A4,A3:=m.A3,A6:=m.A6}))
def Qnj m:=(Qf6 m).m
abbrev Qhi m:=(Qf6 m).p
def Zit:Q09:=mT 87 [] true [.agg Q00.sig] [] (λa r=>Qf6 (Q00.of (aC a 0))) (λX=>.agg (Q00.cellsW X (.all 0))) (λX=>[⟨false,23,1,.ints .u32 X.Mem⟩])
theorem Zdv:Q04 pG Zit:=oT (.cons Z9h (.nil)) Tryz.func87 Tryz.call87 [.row 23 1 (.ints .u32)] [] 2
def Qlz(m:List Int):Tree Int:=
.br (dA (m.length:Int) (32:Int) !=(0:Int)) (.lf 0) (.br (decide ((m.length:Int)>(1024:Int))) (.lf 0) (.lf (wrap i64 (eN (m.length:Int) 32))))
def Q3r m:=(Qlz m).m
def Zb7:Q09:=mS 157 [] true [.one (.ints .u32)] [] (λa r=>Qlz (argL .u32 a 0)) (λX=>.int .i64 X) (λX=>[])
theorem Qbv:Q04 pG Zb7:=oS (.nil) Tryz.func157 Tryz.call157 [] [] 2
def Qim(c:Q0c):Tree Bool:=
.lf (decide ((c.C9.length:Int)<=(16:Int)))
def Qgg c:=(Qim c).m
def Qs9:Q09:=mS 158 [] true [.agg Q0c.sig] [] (λa r=>Qim (Q0c.of (aC a 0))) (λX=>.bool X) (λX=>[])
theorem Qqs:Q04 pG Qs9:=oS (.nil) Tryz.func158 Tryz.call158 [] [] 2
def Qg4(t:Q0j):Tree Bool:=
.br t.D4 (.br t.D3 (.lf false) (.br t.D4 (.lf (t.C6 !=0)) (.br t.D3 (.lf true) (.lf (t.C6==0))))) (.br t.D4 (.lf (t.C6 !=0)) (.br t.D3 (.lf true) (.lf (t.C6==0))))
def Qbi t:=(Qg4 t).m
def Qxj:Q09:=mS 159 [] true [.agg Q0j.sig] [] (λa r=>Qg4 (Q0j.of (aC a 0))) (λX=>.bool X) (λX=>[])
theorem Qvd:Q04 pG Qxj:=oS (.nil) Tryz.func159 Tryz.call159 [] [] 2
def Qi3(d0:Q0a)(pages:Int):Tree Bool:=
.br (decide (d0.Blocks>64)) (.lf false) (.br (decide (d0.B7<0)) (.lf false) (.br (decide (d0.B7>3)) (.lf false) (.br (d0.B7 !=1) (.br (d0.D5==0) (.br (d0.B4==0) (.br (d0.B0==0) (.lf (decide (d0.C0=[]))) (.lf false)) (.lf false)) (.lf false)) (.br (decide (d0.B4>=d0.Blocks)) (.lf false) (.br (decide (wrap i64 d0.B0>=pages)) (.lf false) (.br (d0.D5==1) (.br (decide (d0.C0=[])) (.lf true) (.br (d0.D5==2) (.lf ((d0.C0.length:Int)==(128:Int))) (.lf false))) (.br (d0.D5==2) (.lf ((d0.C0.length:Int)==(128:Int))) (.lf false))))))))
def Qdy d0 pages:=(Qi3 d0 pages).m
def Z0l:Q09:=mS 160 [] true [.agg Q0a.sig,.one (.int .i64)] [] (λa r=>Qi3 (Q0a.of (aC a 0)) (argI a 1)) (λX=>.bool X) (λX=>[])
theorem Qxs:Q04 pG Z0l:=oS (.nil) Tryz.func160 Tryz.call160 [] [] 2
def Qk8(n:Q0o)(pages:Int):Tree Bool:=
let T1:Tree (Bool):=.br n.B5 (.br (decide (n.E0>=1)) (.lf (decide (n.E0<=128))) (.lf false)) (.lf (n.E0==0));.br n.C2 (.br n.B5 (.lf false) (.br (decide (wrap i64 n.B6>=pages)) (.lf false) (.br (!n.C2) (.br (n.B6 !=0) (.lf false) T1) T1))) (.br (!n.C2) (.br (n.B6 !=0) (.lf false) T1) T1)
def Qfj n pages:=(Qk8 n pages).m
def Z5s:Q09:=mS 161 [] true [.agg Q0o.sig,.one (.int .i64)] [] (λa r=>Qk8 (Q0o.of (aC a 0)) (argI a 1)) (λX=>.bool X) (λX=>[])
theorem Z1k:Q04 pG Z5s:=oS (.nil) Tryz.func161 Tryz.call161 [] [] 2
def Qem(b:Q06)(pages:Int)(z:(Int)):Prop:=0<=z/\z<=32
def Q5z(b:Q06)(pages:Int)(z:(Int)):Nat:=(32-z).toNat
def Q4x(b:Q06)(pages:Int):Tree Bool:=
.lp inferInstance (Q5z b pages 0+1) ((rE (pages:Int)/\rZ/\rE (0:Int)/\True)/\(rE b.C5/\rE b.B9/\True)/\True) 0 λ(v0:Int)=>.br (decide (v0<32)) (.cn (decide (0<=wrap u64 v0)) (let T1:Tree ((Int)⊕(Bool)):=.nx ((rE (pages:Int)/\rZ/\rE ((wrap i64 (v0+1)):Int)/\True)/\(rE b.C5/\rE b.B9/\True)/\True) (Sum.inl (wrap i64 (v0+1)));.br (iand u32 (ishr u32 b.B9 (wrap u64 v0)) (1:Int)==(1:Int)) (.br (decide (v0>=pages)) (.lf (Sum.inr false)) T1) T1)) (.lf (Sum.inr true))
def Q8s b pages:=(Q4x b pages).m
theorem Qoq(b:Q06)(pages:Int):(Q4x b pages).p:=by
 unfold Tree.p Q4x
 repeat'(first|refine w_lp (inv:=Qem b pages) (μ:=Q5z b pages) ?_ (cL _) (λ_ _=>?_)|exact trivial|refine w_br (λ_=>?_) (λ_=>?_)|refine w_cn ?_ ?_|refine w_an ?_ ?_|refine w_lv (λ_ _=>?_)|refine w_nx ?_|refine w_lf ?_|refine And.intro ?_ ?_)
 all_goals((try simp only[Qem,Q5z]at*);exact fin0)
def Qpj:LInv:={
 α:=(Int)
 F:=λst a=>([(1,(lk st 1)),(2,.ptr 0 0 0),(5,.int i64 a)],[⟨true,39,2,.gen [[(cT st 2 0),(cT st 2 1)]]⟩])
 a0:=λst=>(lk st 5).toInt
 ex0:=λst=>[]++[(rX st 2 0)]}
def Qns:List (Nat×LInv):=[(2,Qpj)]
def Qsb:Q09:=mS 162 [] true [.agg Q06.sig,.one (.int .i64)] [] (λa r=>Q4x (Q06.of (aC a 0)) (argI a 1)) (λX=>.bool X) (λX=>[])
theorem Qqj:Q04 pG Qsb:=oS (.nil) Tryz.func162 Tryz.call162 [] Qns 3 (λ_ _ _=>by kernel_rfl) (λa r=>Qoq (Q06.of (aC a 0)) (argI a 1)) (λ_ X=>by kernel_rfl)
def Qtl(m:Q00):Tree Bool:=
.lv (Q3r m.Mem) λ(x0:Int)=>.br (decide (x0<1)) (.lf false) (.br (m.B2.X.a0 !=0) (.lf false) (.br (decide (m.B2.B3.a0>31)) (.lf false) (.br (decide (m.B2.B3.a7>31)) (.lf false) (.br (decide (m.B2.B3.a6>255)) (.lf false) (.br (dA m.B2.B3.a1 (4:Int) !=(0:Int)) (.lf false) (.lv (Qgg m.A2) λ(x1:Bool)=>.br (!x1) (.lf false) (.lv (Qbi m.A9) λ(x2:Bool)=>.br (!x2) (.lf false) (.lv (Qdy m.B1 x0) λ(x3:Bool)=>.br (!x3) (.lf false) (.lv (Qfj m.C3 x0) λ(x4:Bool)=>.br (!x4) (.lf false) (.lv (Q8s m.A0 x0) λ(x5:Bool)=>.br (!x5) (.lf false) (.br (decide (m.A4<=1152921504606846976)) (.br m.A3 (.lf (!m.A6)) (.lf true)) (.lf false))))))))))))
def Qb9 m:=(Qtl m).m
def Zh4:Q09:=mS 101 [] true [.agg Q00.sig] [] (λa r=>Qtl (Q00.of (aC a 0))) (λX=>.bool X) (λX=>[])
theorem Zc3:Q04 pG Zh4:=oS (.cons Qbv (.cons Qqs (.cons Qvd (.cons Qxs (.cons Z1k (.cons Qqj (.nil))))))) Tryz.func101 Tryz.call101 [] [] 2
def Qz9(t:Q0j):Tree (Q0j×Bool):=
.br (!t.D4) (.lf (t,false)) (.lf ({D4:=false,C6:=t.C6,D3:=true},true))
def Qxl t:=(Qz9 t).m
def Ze5:Q09:=mS 163 [] true [.agg Q0j.sig] [] (λa r=>Qz9 (Q0j.of (aC a 0))) (λX=>.tup [.agg (Q0j.cells (X.1)),.bool (X.2)]) (λX=>[])
theorem Z8k:Q04 pG Ze5:=oS (.nil) Tryz.func163 Tryz.call163 [] [] 2
def Qh3(c:Q0c)(b:Int):Tree (Q0c×Bool):=
.br (decide ((c.C9.length:Int)>=(16:Int))) (.lf (c,false)) (.cn (decide (c.C9.length+1<=maxLen)) (.lf ({C9:=c.C9++[(λ(n:Int)=>eR n.toNat) b]},true)))
def Qyg c b:=(Qh3 c b).m
abbrev Qqa c b:=(Qh3 c b).p
def Zea:Q09:=mT 164 [] true [.agg Q0c.sig,.one (.int .u8)] [] (λa r=>Qh3 (Q0c.of (aC a 0)) (argI a 1)) (λX=>.tup [.agg (Q0c.cells (X.1)),.bool (X.2)]) (λX=>[])
theorem Zbt:Q04 pG Zea:=oT (.nil) Tryz.func164 Tryz.call164 [] [] 2
def Qgx(m:List Int)(frame:Int):Tree Bool:=
.lv (Q3r m) λ(x0:Int)=>.lf (decide (wrap u64 frame<wrap u64 x0))
def Q1y m frame:=(Qgx m frame).m
def Zcw:Q09:=mS 237 [] true [.one (.ints .u32),.one (.int .u32)] [] (λa r=>Qgx (argL .u32 a 0) (argI a 1)) (λX=>.bool X) (λX=>[])
theorem Qdc:Q04 pG Zcw:=oS (.cons Qbv (.nil)) Tryz.func237 Tryz.call237 [] [] 2
def Qcc(m:List Int)(addr size v:Int):Tree (List Int):=
let E1:=bT 1 1&&bJ 0 1&&decide (0<=wrap u32 (eN addr 4)/\wrap u32 (eN addr 4)<(m.length:Int));let E2:=dB (wrap u32 (eN addr 4));.br (size==4) (.cn E1 (.lf (dC m E2 v))) (.cn E1 (let E3:=decide (0<=wrap u32 (8*dA addr 4));.cn E3 (.cn E3 (.cn E1 (.lf (dC m E2 (ior u32 (Q7f u32 (m.getD E2 0) (ishl u32 255 (wrap u32 (8*dA addr 4)))) (ishl u32 (iand u32 v 255) (wrap u32 (8*dA addr 4))))))))))
def Q9e m addr size v:=(Qcc m addr size v).m
abbrev Qda m addr size v:=(Qcc m addr size v).p
def Zil:Q09:=mT 278 [true,false,false,false] true [.one (.row 0),.one (.int .u32),.one (.int .i64),.one (.int .u32)] [.arr 23 1 (.ints .u32)] (λa r=>Qcc (rowL .u32 r 0) (argI a 1) (argI a 2) (argI a 3)) (λX=>.tup []) (λX=>[⟨false,23,1,.ints .u32 X⟩])
theorem Qxw:Q04 pG Zil:=oT (.nil) Tryz.func278 Tryz.call278 [] [] 2
def Qgn(m:List Int)(frame:Int)(s:List UInt8)(z:(Int)×(List Int)):Nat:=(128-z.1).toNat
def Q8w(m:List Int)(frame:Int)(s:List UInt8):Tree (List Int):=
.lp inferInstance (Qgn m frame s (0,m)+1) ((True/\rE (frame:Int)/\rE (s:List UInt8)/\rE (0:Int)/\True)/\rE (m:List Int)/\True) (0,m) λ(v0:Int×List Int)=>.br (decide (v0.1<(s.length:Int))) (.br (decide (v0.1<128)) (.cn (decide (0<=v0.1/\v0.1<(s.length:Int))) (let E1:=wrap u32 (↑(eQ (s.getD v0.1.toNat (0:UInt8))):Int);let E2:=wrap u32 (wrap i64 (wrap i64 (frame*128)+v0.1));.an (Qda v0.2 E2 1 E1) (.lv (Q9e v0.2 E2 1 E1) λ(x0:List Int)=>.nx ((True/\rE (frame:Int)/\rE (s:List UInt8)/\rE ((wrap i64 (v0.1+1)):Int)/\True)/\rE (x0:List Int)/\True) (Sum.inl (wrap i64 (v0.1+1),x0))))) (.lf (Sum.inr v0.2))) (.lf (Sum.inr v0.2))
def Qj4 m frame s:=(Q8w m frame s).m
abbrev Qjy m frame s:=(Q8w m frame s).p
def Zb6:LInv:={
 α:=(Int)×(List Int)
 F:=λst a=>([(0,.all 0),(1,(lk st 1)),(2,(lk st 2)),(6,.int i64 a.1)],[⟨false,23,1,.ints u32 a.2⟩])
 a0:=λst=>((lk st 6).toInt,(Q80 st.rows 0))
 ex0:=λst=>[0]++[]}
def Z24:List (Nat×LInv):=[(1,Zb6)]
def Zef:Q09:=mT 238 [true,false,false] true [.one (.row 0),.one (.int .i64),.one (.str)] [.arr 23 1 (.ints .u32)] (λa r=>Q8w (rowL .u32 r 0) (argI a 1) (argS a 2)) (λX=>.tup []) (λX=>[⟨false,23,1,.ints .u32 X⟩])
theorem Qu9:Q04 pG Zef:=oT (.cons Qxw (.nil)) Tryz.func238 Tryz.call238 [] Z24 3
def Q98(d0:Q0a)(m:List Int)(e:Q0s):Tree (Q0a×Bool×(List Int)):=
.br (d0.B7 !=1) (.lf (d0,false,m)) (.br (e.C1 !=4) (.lf (d0,false,m)) (.br (decide (e.N>1)) (.lf (d0,false,m)) (let E4:=({Blocks:=d0.Blocks,B8:=d0.B8,Frame:=d0.Frame,B7:=2,D5:=0,B4:=0,B0:=0,C0:=[]}:Q0a);let E5:=({Blocks:=d0.Blocks,B8:=d0.B8,Frame:=d0.Frame,B7:=3,D5:=0,B4:=0,B0:=0,C0:=[]}:Q0a);let T2:Tree ((Q0a×Bool×(List Int))):=.br (e.N==1) (.lf (E4,true,m)) (.lf (E5,true,m));let E6:=decide ((e.C8.length:Int)>(0:Int));.br (e.N==1) (let T1:Tree ((Q0a×Bool×(List Int))):=.br (d0.D5==1) (.an (Qjy m (wrap i64 d0.B0) e.C8) (.lv (Qj4 m (wrap i64 d0.B0) e.C8) λ(x1:List Int)=>.br (e.N==1) (.lf (E4,true,x1)) (.lf (E5,true,x1)))) T2;let T3:Tree ((Q0a×Bool×(List Int))):=.br (!d0.D5==1) (.br E6 (.lf (d0,false,m)) T1) T1;.br (d0.D5==1) (.br ((e.C8.length:Int) !=(128:Int)) (.lf (d0,false,m)) (.lv (Q1y m d0.B0) λ(x0:Bool)=>.br (!x0) (.lf (d0,false,m)) T3)) T3) (.br E6 (.lf (d0,false,m)) T2))))
def Qcv d0 m e:=(Q98 d0 m e).m
abbrev Qlt d0 m e:=(Q98 d0 m e).p
def Z7p:Q09:=mT 165 [false,true,false] true [.agg Q0a.sig,.one (.row 0),.agg Q0s.sig] [.arr 23 1 (.ints .u32)] (λa r=>Q98 (Q0a.of (aC a 0)) (rowL .u32 r 0) (Q0s.of (aC a 2))) (λX=>.tup [.agg (Q0a.cells (X.1)),.bool (X.2.1)]) (λX=>[⟨false,23,1,.ints .u32 (X.2.2)⟩])
theorem Z1o:Q04 pG Z7p:=oT (.cons Qdc (.cons Qu9 (.nil))) Tryz.func165 Tryz.call165 [] [] 2
def Q9d(n:Q0o)(m:List Int)(frame:List UInt8):Tree (Q0o×Bool×(List Int)):=
.br (!n.C2) (.lf (n,false,m)) (.br (decide ((frame.length:Int)<(1:Int))) (.lf (n,false,m)) (.br (decide ((frame.length:Int)>(128:Int))) (.lf (n,false,m)) (.lv (Q1y m n.B6) λ(x0:Bool)=>.br (!x0) (.lf (n,false,m)) (.an (Qjy m (wrap i64 n.B6) frame) (.lv (Qj4 m (wrap i64 n.B6) frame) λ(x1:List Int)=>.lf ({Frame:=n.Frame,D8:=n.D8,C2:=false,B6:=0,B5:=true,E0:=wrap u32 (frame.length:Int)},true,x1))))))
def Qcq n m frame:=(Q9d n m frame).m
abbrev Qla n m frame:=(Q9d n m frame).p
def Z5v:Q09:=mT 166 [false,true,false] true [.agg Q0o.sig,.one (.row 0),.one (.str)] [.arr 23 1 (.ints .u32)] (λa r=>Q9d (Q0o.of (aC a 0)) (rowL .u32 r 0) (argS a 2)) (λX=>.tup [.agg (Q0o.cells (X.1)),.bool (X.2.1)]) (λX=>[⟨false,23,1,.ints .u32 (X.2.2)⟩])
theorem Z0r:Q04 pG Z5v:=oT (.cons Qdc (.cons Qu9 (.nil))) Tryz.func166 Tryz.call166 [] [] 2
def Qao(m:Q00)(e:Q0s):Tree (Bool×Q00):=
.br m.A6 (.lf (false,m)) (let T1:Tree ((Bool×Q00)):=.br (e.C1==4) (.an (Qlt m.B1 m.Mem e) (.lv (Qcv m.B1 m.Mem e) λ(x2:Q0a×Bool×List Int)=>.lf (x2.2.1,{B2:=m.B2,Mem:=x2.2.2,A2:=m.A2,A9:=m.A9,B1:=x2.1,C3:=m.C3,A0:=m.A0,A4:=m.A4,A3:=m.A3,A6:=m.A6}))) (let T3:Tree ((Bool×Q00)):=.br (e.C1==6) (.br (decide (e.C8=[])) (.lf (true,{B2:=m.B2,Mem:=m.Mem,A2:=m.A2,A9:=m.A9,B1:=m.B1,C3:=m.C3,A0:={C5:=e.N,B9:=m.A0.B9},A4:=m.A4,A3:=m.A3,A6:=m.A6})) (.lf (false,m))) (.lf (false,m));.br (e.C1==5) (.br (e.N==0) (.an (Qla m.C3 m.Mem e.C8) (.lv (Qcq m.C3 m.Mem e.C8) λ(x3:Q0o×Bool×List Int)=>.lf (x3.2.1,{B2:=m.B2,Mem:=x3.2.2,A2:=m.A2,A9:=m.A9,B1:=m.B1,C3:=x3.1,A0:=m.A0,A4:=m.A4,A3:=m.A3,A6:=m.A6}))) T3) T3);let T2:Tree ((Bool×Q00)):=.br (e.C1==3) (.br (decide (e.N<=255)) (.br (decide (e.C8=[])) (.an (Qqa m.A2 (wrap u8 e.N)) (.lv (Qyg m.A2 (wrap u8 e.N)) λ(x1:Q0c×Bool)=>.lf (x1.2,{B2:=m.B2,Mem:=m.Mem,A2:=x1.1,A9:=m.A9,B1:=m.B1,C3:=m.C3,A0:=m.A0,A4:=m.A4,A3:=m.A3,A6:=m.A6}))) T1) T1) T1;.br (e.C1==2) (.br (e.N==0) (.br (decide (e.C8=[])) (.lv (Qxl m.A9) λ(x0:Q0j×Bool)=>.lf (x0.2,{B2:=m.B2,Mem:=m.Mem,A2:=m.A2,A9:=x0.1,B1:=m.B1,C3:=m.C3,A0:=m.A0,A4:=m.A4,A3:=m.A3,A6:=m.A6})) T2) T2) T2)
def Q7y m e:=(Qao m e).m
abbrev Qo7 m e:=(Qao m e).p
def Za5:Q09:=mT 103 [true,false] true [.ptr 0,.agg Q0s.sig] [.box 42 49 (Q00.sigW (.row 1)),.arr 23 1 (.ints .u32)] (λa r=>Qao (Q00.ofW (r.getD 0 default).cs (rowL .u32 r 1)) (Q0s.of (aC a 1))) (λX=>.bool (X.1)) (λX=>[⟨true,42,49,.gen [(Q00.cellsW (X.2) (.all 1))]⟩,⟨false,23,1,.ints .u32 (X.2).Mem⟩])
theorem Z7e:Q04 pG Za5:=oT (.cons Z8k (.cons Zbt (.cons Z1o (.cons Z0r (.nil))))) Tryz.func103 Tryz.call103 [.row 23 1 (.ints .u32)] [] 2
def Qga(is:Bool)(n:Int):Tree Int:=
.br is (.cn (decide (0<=wrap u64 n)) (.lf (ishl u32 1 (wrap u64 n)))) (.lf 0)
def Q8b is n:=(Qga is n).m
abbrev Q9h is n:=(Qga is n).p
def Zc6:Q09:=mT 292 [] true [.one (.bool),.one (.int .i64)] [] (λa r=>Qga (argB a 0) (argI a 1)) (λX=>.int .u32 X) (λX=>[])
theorem Zb5:Q04 pG Zc6:=oT (.nil) Tryz.func292 Tryz.call292 [] [] 2
def Qgu(t:Q0j):Tree Bool:=
.lf t.D3
def Q92 t:=(Qgu t).m
def Qor:Q09:=mS 293 [] true [.agg Q0j.sig] [] (λa r=>Qgu (Q0j.of (aC a 0))) (λX=>.bool X) (λX=>[])
theorem Qnu:Q04 pG Qor:=oS (.nil) Tryz.func293 Tryz.call293 [] [] 2
def Qdl(c:Q0c):Tree Bool:=
.lf (decide ((c.C9.length:Int)>(0:Int)))
def Q51 c:=(Qdl c).m
def Qmm:Q09:=mS 294 [] true [.agg Q0c.sig] [] (λa r=>Qdl (Q0c.of (aC a 0))) (λX=>.bool X) (λX=>[])
theorem Ql3:Q04 pG Qmm:=oS (.nil) Tryz.func294 Tryz.call294 [] [] 2
def Qhm(d0:Q0a):Tree Bool:=
.br (d0.B7==2) (.lf true) (.lf (d0.B7==3))
def Qaa d0:=(Qhm d0).m
def Qrv:Q09:=mS 295 [] true [.agg Q0a.sig] [] (λa r=>Qhm (Q0a.of (aC a 0))) (λX=>.bool X) (λX=>[])
theorem Qoy:Q04 pG Qrv:=oS (.nil) Tryz.func295 Tryz.call295 [] [] 2
def Qj3(n:Q0o):Tree Bool:=
.lf n.B5
def Qbf n:=(Qj3 n).m
def Qto:Q09:=mS 296 [] true [.agg Q0o.sig] [] (λa r=>Qj3 (Q0o.of (aC a 0))) (λX=>.bool X) (λX=>[])
theorem Qqt:Q04 pG Qto:=oS (.nil) Tryz.func296 Tryz.call296 [] [] 2
def Qmi(b:Q06)(z:(Int)×(Int)):Prop:=0<=z.2/\z.2<=32
def Qe6(b:Q06)(z:(Int)×(Int)):Nat:=(32-z.2).toNat
def Qhz(b:Q06):Tree Int:=
.lp inferInstance (Qe6 b (0,0)+1) ((rZ/\rE (0:Int)/\rE (0:Int)/\True)/\(rE b.C5/\rE b.B9/\True)/\True) (0,0) λ(v0:Int×Int)=>.br (decide (v0.2<32)) (.cn (decide (0<=wrap u64 v0.2)) (.nx ((rZ/\rE ((wrap i64 (v0.1+wrap i64 (iand u32 (ishr u32 b.B9 (wrap u64 v0.2)) 1))):Int)/\rE ((wrap i64 (v0.2+1)):Int)/\True)/\(rE b.C5/\rE b.B9/\True)/\True) (Sum.inl (wrap i64 (v0.1+wrap i64 (iand u32 (ishr u32 b.B9 (wrap u64 v0.2)) 1)),wrap i64 (v0.2+1))))) (.lf (Sum.inr v0.1))
def Qcb b:=(Qhz b).m
theorem Z17(b:Q06):(Qhz b).p:=by
 unfold Tree.p Qhz
 repeat'(first|refine w_lp (inv:=Qmi b) (μ:=Qe6 b) ?_ (cL _) (λ_ _=>?_)|exact trivial|refine w_br (λ_=>?_) (λ_=>?_)|refine w_cn ?_ ?_|refine w_an ?_ ?_|refine w_lv (λ_ _=>?_)|refine w_nx ?_|refine w_lf ?_|refine And.intro ?_ ?_)
 all_goals((try simp only[Qmi,Qe6]at*);exact fin0)
def Z5n:LInv:={
 α:=(Int)×(Int)
 F:=λst a=>([(1,.ptr 0 0 0),(3,.int i64 a.1),(4,.int i64 a.2)],[⟨true,39,2,.gen [[(cT st 1 0),(cT st 1 1)]]⟩])
 a0:=λst=>((lk st 3).toInt,(lk st 4).toInt)
 ex0:=λst=>[]++[(rX st 1 0)]}
def Qy2:List (Nat×LInv):=[(3,Z5n)]
def Zaw:Q09:=mS 282 [] true [.agg Q06.sig] [] (λa r=>Qhz (Q06.of (aC a 0))) (λX=>.int .i64 X) (λX=>[])
theorem Qqr:Q04 pG Zaw:=oS (.nil) Tryz.func282 Tryz.call282 [] Qy2 3 (λ_ _ _=>by kernel_rfl) (λa r=>Z17 (Q06.of (aC a 0))) (λ_ X=>by kernel_rfl)
def Q8y(b:Q06):Tree Bool:=
.lv (Qcb b) λ(x0:Int)=>.lf (wrap u64 x0 !=wrap u64 b.C5)
def Q3t b:=(Q8y b).m
def Qlb:Q09:=mS 297 [] true [.agg Q06.sig] [] (λa r=>Q8y (Q06.of (aC a 0))) (λX=>.bool X) (λX=>[])
theorem Ql4:Q04 pG Qlb:=oS (.cons Qqr (.nil)) Tryz.func297 Tryz.call297 [] [] 2
def Qdb(m:Q00):Tree Int:=
.lv (Q92 m.A9) λ(x0:Bool)=>.an (Q9h x0 0) (.lv (Q8b x0 0) λ(x1:Int)=>.lv (Q51 m.A2) λ(x2:Bool)=>.an (Q9h x2 1) (.lv (Q8b x2 1) λ(x3:Int)=>.lv (Qaa m.B1) λ(x4:Bool)=>.an (Q9h x4 2) (.lv (Q8b x4 2) λ(x5:Int)=>.lv (Qbf m.C3) λ(x6:Bool)=>.an (Q9h x6 3) (.lv (Q8b x6 3) λ(x7:Int)=>.lv (Q3t m.A0) λ(x8:Bool)=>.an (Q9h x8 4) (.lv (Q8b x8 4) λ(x9:Int)=>.lf (ior u32 (ior u32 (ior u32 (ior u32 x1 x3) x5) x7) x9))))))
def Qf8 m:=(Qdb m).m
abbrev Qo9 m:=(Qdb m).p
def Zb:Q09:=mT 239 [] true [.agg Q00.sig] [] (λa r=>Qdb (Q00.of (aC a 0))) (λX=>.int .u32 X) (λX=>[])
theorem Z60:Q04 pG Zb:=oT (.cons Zb5 (.cons Qnu (.cons Ql3 (.cons Qoy (.cons Qqt (.cons Ql4 (.nil))))))) Tryz.func239 Tryz.call239 [] [] 2
def Q7x(m:Q00):Tree Int:=
.an (Qo9 m) (.lv (Qf8 m) λ(x0:Int)=>.lf (iand u32 x0 m.B2.B3.a7))
def Q21 m:=(Q7x m).m
abbrev Qec m:=(Q7x m).p
def Z0t:Q09:=mT 167 [] true [.agg Q00.sig] [] (λa r=>Q7x (Q00.of (aC a 0))) (λX=>.int .u32 X) (λX=>[])
theorem Qlv:Q04 pG Z0t:=oT (.cons Z60 (.nil)) Tryz.func167 Tryz.call167 [] [] 2
def Qco(m:Q00):Tree Bool:=
.br m.A3 (.an (Qec m) (.lv (Q21 m) λ(x0:Int)=>.lf (x0==0))) (.lf false)
def Qdz m:=(Qco m).m
abbrev Qjj m:=(Qco m).p
def Ze0:Q09:=mT 104 [] true [.agg Q00.sig] [] (λa r=>Qco (Q00.of (aC a 0))) (λX=>.bool X) (λX=>[])
theorem Z8j:Q04 pG Ze0:=oT (.cons Qlv (.nil)) Tryz.func104 Tryz.call104 [] [] 2
def Qhf(m:Q00):Tree Bool:=
.lv (Qb9 m) λ(x0:Bool)=>.br (!x0) (.lf true) (.br m.A6 (.lf true) (.an (Qjj m) (.lv (Qdz m) λ(x1:Bool)=>.br x1 (.lf true) (.lf (decide (m.A4>=1152921504606846976))))))
def Q7q m:=(Qhf m).m
abbrev Z1 m:=(Qhf m).p
end
noncomputable section
def Z2z(b:Bool):Tree Int:=
.br b (.lf 1) (.lf 0)
def Qa9 b:=(Z2z b).m
def Ziu:Q09:=mS 269 [] true [.one (.bool)] [] (λa r=>Z2z (argB a 0)) (λX=>.int .u32 X) (λX=>[])
theorem Qot:Q04 pG Ziu:=oS (.nil) Tryz.func269 Tryz.call269 [] [] 2
def Qh6(c:Q01)(cause bad:Int):Tree Q01:=
.lv (Qa9 (iand u32 c.B3.a0 (1:Int) !=(0:Int))) λ(x0:Int)=>.lv (Qa9 (iand u32 c.B3.a0 (2:Int) !=(0:Int))) λ(x1:Int)=>.lf ({X:=c.X,Pc:=c.B3.a1,B3:={a0:=ior u32 (Q7f u32 (ior u32 (ior u32 (Q7f u32 c.B3.a0 24) (wrap u32 (8*x0))) (wrap u32 (16*x1))) 2) 1,a1:=c.B3.a1,a2:=c.Pc,a3:=wrap u32 cause,a4:=bad,a5:=c.B3.a5,a6:=c.B3.a6,a7:=c.B3.a7}})
def Q2n c cause bad:=(Qh6 c cause bad).m
def Zc5:Q09:=mS 208 [] true [.agg Q01.sig,.one (.int .i64),.one (.int .u32)] [] (λa r=>Qh6 (Q01.of (aC a 0)) (argI a 1) (argI a 2)) (λX=>.agg (Q01.cells X)) (λX=>[])
theorem Qhc:Q04 pG Zc5:=oS (.cons Qot (.nil)) Tryz.func208 Tryz.call208 [] [] 2
def Q73(m:List Int)(addr size:Int):Tree Bool:=
let T1:Tree (Bool):=.cn (decide (wrap u32 size≠0)) (.br (dA addr (wrap u32 size)==0) (.lv (Q3r m) λ(x0:Int)=>.lf (decide (addr<wrap u32 (wrap i64 (128*x0))))) (.lf false));.br (size !=1) (.br (size !=4) (.lf false) T1) T1
def Q2j m addr size:=(Q73 m addr size).m
abbrev Qba m addr size:=(Q73 m addr size).p
def Z4y:Q09:=mT 240 [] true [.one (.ints .u32),.one (.int .u32),.one (.int .i64)] [] (λa r=>Q73 (argL .u32 a 0) (argI a 1) (argI a 2)) (λX=>.bool X) (λX=>[])
theorem Qid:Q04 pG Z4y:=oT (.cons Qbv (.nil)) Tryz.func240 Tryz.call240 [] [] 2
def Q68(m:List Int)(addr size:Int):Tree (Int×Bool):=
.an (Qba m addr size) (.lv (Q2j m addr size) λ(x0:Bool)=>.br (!x0) (.lf (0,false)) (.cn (bT 1 1&&bJ 0 1&&decide (0<=wrap u32 (eN addr 4)/\wrap u32 (eN addr 4)<(m.length:Int))) (.br (size==1) (.cn (decide (0<=wrap u32 (8*dA addr 4))) (.lf (iand u32 (ishr u32 (m.getD (dB (wrap u32 (eN addr 4))) 0) (wrap u32 (8*dA addr 4))) 255,true))) (.lf (m.getD (dB (wrap u32 (eN addr 4))) 0,true)))))
def Q28 m addr size:=(Q68 m addr size).m
abbrev Qb5 m addr size:=(Q68 m addr size).p
def Zeb:Q09:=mT 168 [] true [.one (.ints .u32),.one (.int .u32),.one (.int .i64)] [] (λa r=>Q68 (argL .u32 a 0) (argI a 1) (argI a 2)) (λX=>.tup [.int .u32 (X.1),.bool (X.2)]) (λX=>[])
theorem Qm3:Q04 pG Zeb:=oT (.cons Qid (.nil)) Tryz.func168 Tryz.call168 [] [] 2
def Q9k(w:Int):Tree (Q0f×Bool):=
.lv (Q2d (wrap i64 (ishr u32 w 24))) λ(x0:Int)=>let E5:=({Op:=0,A:=0,B:=0,C:=0,Imm:=0}:Q0f);.br (x0==0) (.lf (E5,false)) (.br (x0==2) (let E3:=({Op:=wrap i64 (ishr u32 w 24),A:=wrap i64 (iand u32 (ishr u32 w 20) 15),B:=wrap i64 (iand u32 (ishr u32 w 16) 15),C:=wrap i64 (iand u32 w 65535),Imm:=0}:Q0f);.lv (Q7v E3) λ(x1:Bool)=>.br (!x1) (.lf (E5,false)) (.lf (E3,true))) (let T1:Tree ((Q0f×Bool)):=let E2:=({Op:=wrap i64 (ishr u32 w 24),A:=wrap i64 (iand u32 (ishr u32 w 20) 15),B:=wrap i64 (iand u32 (ishr u32 w 16) 15),C:=0,Imm:=wrap i32 (wrap i16 (iand u32 w 65535))}:Q0f);.lv (Q7v E2) λ(x2:Bool)=>.br (!x2) (.lf (E5,false)) (.lf (E2,true));.br (x0==3) T1 (.br (x0==7) T1 (let E4:=({Op:=wrap i64 (ishr u32 w 24),A:=wrap i64 (iand u32 (ishr u32 w 20) 15),B:=wrap i64 (iand u32 (ishr u32 w 16) 15),C:=0,Imm:=wrap i32 (iand u32 w 65535)}:Q0f);.lv (Q7v E4) λ(x4:Bool)=>.br (!x4) (.lf (E5,false)) (.lf (E4,true))))))
def Q3o w:=(Q9k w).m
def Z4r:Q09:=mS 169 [] true [.one (.int .u32)] [] (λa r=>Q9k (argI a 0)) (λX=>.tup [.agg (Q0f.cells (X.1)),.bool (X.2)]) (λX=>[])
theorem Qod:Q04 pG Z4r:=oS (.cons Qdp (.cons Qqf (.nil))) Tryz.func169 Tryz.call169 [] [] 2
def Qud(access:Int):Tree Bool:=
.br (decide (access>=1)) (.lf (decide (access<=3))) (.lf false)
def Qf3 access:=(Qud access).m
def Z7y:Q09:=mS 270 [] true [.one (.int .i64)] [] (λa r=>Qud (argI a 0)) (λX=>.bool X) (λX=>[])
theorem Qpy:Q04 pG Z7y:=oS (.nil) Tryz.func270 Tryz.call270 [] [] 2
def Qu1(c:Q01):Tree Bool:=
.lf (iand u32 c.B3.a0 (5:Int)==(4:Int))
def Qnf c:=(Qu1 c).m
def Z9u:Q09:=mS 271 [] true [.agg Q01.sig] [] (λa r=>Qu1 (Q01.of (aC a 0))) (λX=>.bool X) (λX=>[])
theorem Z5i:Q04 pG Z9u:=oS (.nil) Tryz.func271 Tryz.call271 [] [] 2
def Q7t(access:Int):Tree Int:=
.br (access==1) (.lf 4) (.br (access==3) (.lf 6) (.lf 5))
def Q3a access:=(Q7t access).m
def Z11:Q09:=mS 272 [] true [.one (.int .i64)] [] (λa r=>Q7t (argI a 0)) (λX=>.int .i64 X) (λX=>[])
theorem Qmo:Q04 pG Z11:=oS (.nil) Tryz.func272 Tryz.call272 [] [] 2
def Q8r(m:List Int)(root va access:Int):Tree Q0w:=
.lv (Q3a access) λ(x0:Int)=>.lv (Q3r m) λ(x1:Int)=>.lv (Qf3 access) λ(x2:Bool)=>let E4:=({Addr:=0,D9:=0,D6:=x0}:Q0w);.br (!x2) (.lf (E4)) (.br (decide (va>=4096)) (.lf (E4)) (.br (decide (root>=wrap u32 x1)) (.lf (E4)) (let E6:=wrap u32 (root*128)+wrap u32 (4*wrap u32 (eN va 128));let E3:=eN (wrap u32 E6) 4;.cn (bT 1 1&&bJ 0 1&&decide (0<=wrap u32 E3/\wrap u32 E3<(m.length:Int))) (let E5:=m.getD (dB (wrap u32 E3)) 0;.br (iand u32 E5 (1:Int)==(0:Int)) (.lf (E4)) (let T1:Tree (Q0w):=.br (decide (iand u32 (ishr u32 E5 8) 255>=wrap u32 x1)) (.lf (E4)) (.lf ({Addr:=wrap u32 (wrap u32 (iand u32 (ishr u32 E5 8) (255:Int)*(128:Int))+dA va 128),D9:=wrap u32 E6,D6:=0}));let T2:Tree (Q0w):=.br (access==1) (.br (iand u32 E5 (4:Int)==(0:Int)) (.lf (E4)) T1) T1;.br (access==3) (.br (iand u32 E5 (2:Int)==(0:Int)) (.lf (E4)) T2) T2)))))
def Q5t m root va access:=(Q8r m root va access).m
abbrev Qqb m root va access:=(Q8r m root va access).p
def Zen:Q09:=mT 273 [] true [.one (.ints .u32),.one (.int .u32),.one (.int .u32),.one (.int .i64)] [] (λa r=>Q8r (argL .u32 a 0) (argI a 1) (argI a 2) (argI a 3)) (λX=>.agg (Q0w.cells X)) (λX=>[])
theorem Z9x:Q04 pG Zen:=oT (.cons Qmo (.cons Qbv (.cons Qpy (.nil)))) Tryz.func273 Tryz.call273 [] [] 2
def Qc3(m:List Int)(entry access:Int):Tree (List Int):=
.an (Qba m entry 4) (.lv (Q2j m entry 4) λ(x0:Bool)=>.br (!x0) (.lf m) (let E3:=bT 1 1&&bJ 0 1&&decide (0<=wrap u32 (eN entry 4)/\wrap u32 (eN entry 4)<(m.length:Int));.cn E3 (.cn E3 (let E4:=dB (wrap u32 (eN entry 4));let E1:=dC m E4 (ior u32 (m.getD E4 0) 8);.br (access==3) (let E2:=bT 1 1&&bJ 0 1&&decide (0<=wrap u32 (eN entry 4)/\wrap u32 (eN entry 4)<(↑(dG E1):Int));.cn E2 (.cn E2 (.lf (dC E1 E4 (ior u32 (aK E1 E4 0) 16))))) (.lf E1)))))
def Qm4 m entry access:=(Qc3 m entry access).m
abbrev Qr0 m entry access:=(Qc3 m entry access).p
def Zck:Q09:=mT 274 [true,false,false] true [.one (.row 0),.one (.int .u32),.one (.int .i64)] [.arr 23 1 (.ints .u32)] (λa r=>Qc3 (rowL .u32 r 0) (argI a 1) (argI a 2)) (λX=>.tup []) (λX=>[⟨false,23,1,.ints .u32 X⟩])
theorem Z97:Q04 pG Zck:=oT (.cons Qid (.nil)) Tryz.func274 Tryz.call274 [] [] 2
def Q90(c:Q01)(m:List Int)(va size access:Int):Tree (Int×Int×(List Int)):=
.lv (Qf3 access) λ(x0:Bool)=>.br (!x0) (.lf (0,5,m)) (let T1:Tree ((Int×Int×(List Int))):=.cn (decide (wrap u32 size≠0)) (.br (dA va (wrap u32 size) !=0) (.lf (0,3,m)) (.lv (Qnf c) λ(x1:Bool)=>.br (!x1) (.an (Qba m va size) (.lv (Q2j m va size) λ(x2:Bool)=>.br (!x2) (.lv (Q3a access) λ(x3:Int)=>.lf (0,x3,m)) (.lf (va,0,m)))) (.an (Qqb m c.B3.a6 va access) (.lv (Q5t m c.B3.a6 va access) λ(x4:Q0w)=>.br (x4.D6 !=0) (.lf (0,x4.D6,m)) (.an (Qr0 m x4.D9 access) (.lv (Qm4 m x4.D9 access) λ(x5:List Int)=>.lf (x4.Addr,0,x5)))))));.br (size !=1) (.br (size !=4) (.lf (0,5,m)) T1) T1)
def Q0x c m va size access:=(Q90 c m va size access).m
abbrev Q7m c m va size access:=(Q90 c m va size access).p
def Z84:Q09:=mT 209 [false,true,false,false,false] true [.agg Q01.sig,.one (.row 0),.one (.int .u32),.one (.int .i64),.one (.int .i64)] [.arr 23 1 (.ints .u32)] (λa r=>Q90 (Q01.of (aC a 0)) (rowL .u32 r 0) (argI a 2) (argI a 3) (argI a 4)) (λX=>.tup [.int .u32 (X.1),.int .i64 (X.2.1)]) (λX=>[⟨false,23,1,.ints .u32 (X.2.2)⟩])
theorem Qr:Q04 pG Z84:=oT (.cons Qpy (.cons Z5i (.cons Qid (.cons Qmo (.cons Z9x (.cons Z97 (.nil))))))) Tryz.func209 Tryz.call209 [] [] 2
def Qj0(op:Int):Tree Bool:=
.br (decide (op>=57)) (.lf (decide (op<=64))) (.lf false)
def Q52 op:=(Qj0 op).m
def Qs1:Q09:=mS 210 [] true [.one (.int .i64)] [] (λa r=>Qj0 (argI a 0)) (λX=>.bool X) (λX=>[])
theorem Qrw:Q04 pG Qs1:=oS (.nil) Tryz.func210 Tryz.call210 [] [] 2
def Qb1(c:Q01):Tree Q01:=
.lv (Qa9 (iand u32 c.B3.a0 (8:Int) !=(0:Int))) λ(x0:Int)=>.lv (Qa9 (iand u32 c.B3.a0 (16:Int) !=(0:Int))) λ(x1:Int)=>.lf ({X:=c.X,Pc:=c.B3.a2,B3:={a0:=ior u32 (ior u32 (Q7f u32 c.B3.a0 3) (wrap u32 (1*x0))) (wrap u32 (2*x1)),a1:=c.B3.a1,a2:=c.B3.a2,a3:=c.B3.a3,a4:=c.B3.a4,a5:=c.B3.a5,a6:=c.B3.a6,a7:=c.B3.a7}})
def Qfg c:=(Qb1 c).m
def Z72:Q09:=mS 275 [] true [.agg Q01.sig] [] (λa r=>Qb1 (Q01.of (aC a 0))) (λX=>.agg (Q01.cells X)) (λX=>[])
theorem Z0h:Q04 pG Z72:=oS (.cons Qot (.nil)) Tryz.func275 Tryz.call275 [] [] 2
def Qc7(c:Q01)(r v:Int):Tree Q01:=
.br (decide (r>0)) (.br (decide (r<16)) (.cn (bJ 0 1&&decide (0<=r/\r<(↑16:Int))) (.lf ({X:=A16.of 0 (dC (A16.l c.X) r.toNat v),Pc:=c.Pc,B3:=c.B3}))) (.lf c)) (.lf c)
def Q1n c r v:=(Qc7 c r v).m
abbrev Q3e c r v:=(Qc7 c r v).p
def Zgy:Q09:=mT 145 [] true [.agg Q01.sig,.one (.int .i64),.one (.int .u32)] [] (λa r=>Qc7 (Q01.of (aC a 0)) (argI a 1) (argI a 2)) (λX=>.agg (Q01.cells X)) (λX=>[])
theorem Qfy:Q04 pG Zgy:=oT (.nil) Tryz.func145 Tryz.call145 [] [] 2
def Qaw(c:Q01)(csr v:Int):Tree Q01:=
let E4:=bJ 0 1&&decide (0<=csr/\csr<(↑8:Int));let T2:Tree (Q01):=.cn E4 (.lf ({X:=c.X,Pc:=c.Pc,B3:=A8.of 0 (dC (A8.l c.B3) csr.toNat (iand u32 v 31))}));.br (csr==0) T2 (.br (csr==7) T2 (.br (csr==6) (.cn E4 (.lf ({X:=c.X,Pc:=c.Pc,B3:=A8.of 0 (dC (A8.l c.B3) csr.toNat (iand u32 v 255))}))) (let T3:Tree (Q01):=.cn E4 (.lf ({X:=c.X,Pc:=c.Pc,B3:=A8.of 0 (dC (A8.l c.B3) csr.toNat (Q7f u32 v 3))}));.br (csr==1) T3 (.br (csr==2) T3 (let T1:Tree (Q01):=.cn E4 (.lf ({X:=c.X,Pc:=c.Pc,B3:=A8.of 0 (dC (A8.l c.B3) csr.toNat v)}));.br (csr==3) T1 (.br (csr==4) T1 (.br (csr==5) T1 (.lf c))))))))
def Qf4 c csr v:=(Qaw c csr v).m
abbrev Qoc c csr v:=(Qaw c csr v).p
def Z8q:Q09:=mT 276 [] true [.agg Q01.sig,.one (.int .i64),.one (.int .u32)] [] (λa r=>Qaw (Q01.of (aC a 0)) (argI a 1) (argI a 2)) (λX=>.agg (Q01.cells X)) (λX=>[])
theorem Z64:Q04 pG Z8q:=oT (.nil) Tryz.func276 Tryz.call276 [] [] 2
def Qbs(c:Q01)(i:Q0f):Tree (Q01×Q10):=
.br (i.Op==56) (.lv (Q2n c 7 0) λ(x0:Q01)=>.lf (x0,{C1:=0,C7:=0,D7:=0,Value:=0})) (.br (i.Op==57) (.lv (Qfg c) λ(x1:Q01)=>.lf (x1,{C1:=0,C7:=0,D7:=0,Value:=0})) (.br (i.Op==58) (.cn (bJ 0 1&&decide (0<=i.Imm/\i.Imm<(↑8:Int))) (let E3:=aK (A8.l c.B3) i.Imm.toNat 0;.an (Q3e c i.A E3) (.lv (Q1n c i.A E3) λ(x2:Q01)=>.lf ({X:=x2.X,Pc:=wrap u32 (x2.Pc+4),B3:=x2.B3},{C1:=0,C7:=0,D7:=0,Value:=0})))) (let E2:=bJ 0 1&&decide (0<=i.A/\i.A<(↑16:Int));.br (i.Op==59) (.cn E2 (let E4:=aK (A16.l c.X) i.A.toNat 0;.an (Qoc c (wrap i64 i.Imm) E4) (.lv (Qf4 c (wrap i64 i.Imm) E4) λ(x3:Q01)=>.lf ({X:=x3.X,Pc:=wrap u32 (x3.Pc+4),B3:=x3.B3},{C1:=0,C7:=0,D7:=0,Value:=0})))) (let E1:=({X:=c.X,Pc:=wrap u32 (c.Pc+4),B3:=c.B3}:Q01);.br (i.Op==60) (.lf (E1,{C1:=1,C7:=wrap i64 i.Imm,D7:=i.A,Value:=0})) (.br (i.Op==61) (.cn E2 (.lf (E1,{C1:=2,C7:=wrap i64 i.Imm,D7:=0,Value:=aK (A16.l c.X) i.A.toNat 0}))) (.br (i.Op==62) (.lf (E1,{C1:=3,C7:=0,D7:=0,Value:=0})) (.br (i.Op==63) (.lf (E1,{C1:=5,C7:=0,D7:=0,Value:=0})) (.br (i.Op==64) (.lf (E1,{C1:=4,C7:=0,D7:=0,Value:=0})) (.lf (E1,{C1:=0,C7:=0,D7:=0,Value:=0}))))))))))
def Qk3 c i:=(Qbs c i).m
abbrev Qlf c i:=(Qbs c i).p
def Z5d:Q09:=mT 211 [] true [.agg Q01.sig,.agg Q0f.sig] [] (λa r=>Qbs (Q01.of (aC a 0)) (Q0f.of (aC a 1))) (λX=>.tup [.agg (Q01.cells (X.1)),.agg (Q10.cells (X.2))]) (λX=>[])
theorem Z25:Q04 pG Z5d:=oT (.cons Qhc (.cons Z0h (.cons Qfy (.cons Z64 (.nil))))) Tryz.func211 Tryz.call211 [] [] 2
def Qu4(op a b:Int):Tree Bool:=
.br (op==40) (.lf (a==b)) (.br (op==41) (.lf (a !=b)) (.br (op==42) (.lf (decide (wrap i32 a<wrap i32 b))) (.br (op==43) (.lf (decide (wrap i32 a>=wrap i32 b))) (.br (op==44) (.lf (decide (a<b))) (.lf (decide (a>=b)))))))
def Q25 op a b:=(Qu4 op a b).m
def Z8m:Q09:=mS 277 [] true [.one (.int .i64),.one (.int .u32),.one (.int .u32)] [] (λa r=>Qu4 (argI a 0) (argI a 1) (argI a 2)) (λX=>.bool X) (λX=>[])
theorem Z7w:Q04 pG Z8m:=oS (.nil) Tryz.func277 Tryz.call277 [] [] 2
def Qfe(c:Q01)(i:Q0f):Tree Q01:=
.br (i.Op==48) (.an (Q3e c i.A (wrap u32 (c.Pc+4))) (.lv (Q1n c i.A (wrap u32 (c.Pc+4))) λ(x0:Q01)=>.lf ({X:=x0.X,Pc:=wrap u32 (c.Pc+wrap u32 (4*wrap u32 i.Imm)),B3:=x0.B3}))) (let E1:=bJ 0 1&&decide (0<=i.B/\i.B<(↑16:Int));.br (i.Op==49) (.cn E1 (.an (Q3e c i.A (wrap u32 (c.Pc+4))) (.lv (Q1n c i.A (wrap u32 (c.Pc+4))) λ(x1:Q01)=>.lf ({X:=x1.X,Pc:=wrap u32 (aK (A16.l c.X) i.B.toNat 0+wrap u32 i.Imm),B3:=x1.B3})))) (.cn (bJ 0 1&&decide (0<=i.A/\i.A<(↑16:Int))) (.cn E1 (.lv (Q25 i.Op (aK (A16.l c.X) i.A.toNat 0) (aK (A16.l c.X) i.B.toNat 0)) λ(x2:Bool)=>.br x2 (.lf ({X:=c.X,Pc:=wrap u32 (c.Pc+wrap u32 (4*wrap u32 i.Imm)),B3:=c.B3})) (.lf ({X:=c.X,Pc:=wrap u32 (c.Pc+4),B3:=c.B3}))))))
def Z04 c i:=(Qfe c i).m
abbrev Qqu c i:=(Qfe c i).p
def Zcc:Q09:=mT 212 [] true [.agg Q01.sig,.agg Q0f.sig] [] (λa r=>Qfe (Q01.of (aC a 0)) (Q0f.of (aC a 1))) (λX=>.agg (Q01.cells X)) (λX=>[])
theorem Zak:Q04 pG Zcc:=oT (.cons Qfy (.cons Z7w (.nil))) Tryz.func212 Tryz.call212 [] [] 2
def Q6f(x n:Int):Tree Int:=
.br (decide (n<1)) (.lf 0) (.br (decide (n>=32)) (.lf x) (.cn (decide (0<=wrap u64 n)) (.cn (decide (0<=wrap u64 (wrap i64 (n-1)))) (let E1:=iand u32 x (wrap u32 (ishl u32 1 (wrap u64 n)-1));.br (ishr u32 E1 (wrap u64 (wrap i64 (n-1)))==1) (.cn (decide (0<=wrap u64 n)) (.lf (ior u32 E1 (ishl u32 4294967295 (wrap u64 n))))) (.lf E1)))))
def Q34 x n:=(Q6f x n).m
abbrev Qan x n:=(Q6f x n).p
def Qtp:Q09:=mT 279 [] true [.one (.int .u32),.one (.int .i64)] [] (λa r=>Q6f (argI a 0) (argI a 1)) (λX=>.int .u32 X) (λX=>[])
theorem Qrn:Q04 pG Qtp:=oT (.nil) Tryz.func279 Tryz.call279 [] [] 2
def Q8f(c:Q01)(m:List Int)(i:Q0f):Tree (Q01×(List Int)):=
.cn (bJ 0 1&&decide (0<=i.B/\i.B<(↑16:Int))) (let E4:=wrap u32 (aK (A16.l c.X) i.B.toNat 0+wrap u32 i.Imm);let E5:=aK (A16.l c.X) i.A.toNat 0;let E6:=bJ 0 1&&decide (0<=i.A/\i.A<(↑16:Int));let E7:=({X:=c.X,Pc:=wrap u32 (c.Pc+4),B3:=c.B3}:Q01);let T1:Tree ((Q01×(List Int))):=let T3:Tree ((Q01×(List Int))):=.an (Q7m c m E4 4 3) (.lv (Q0x c m E4 4 3) λ(x0:Int×Int×List Int)=>.br (x0.2.1 !=0) (.lv (Q2n c x0.2.1 E4) λ(x1:Q01)=>.lf (x1,x0.2.2)) (.cn E6 (.an (Qda x0.2.2 x0.1 4 E5) (.lv (Q9e x0.2.2 x0.1 4 E5) λ(x2:List Int)=>.lf (E7,x2)))));.br (i.Op==35) T3 (.br (i.Op==36) T3 (.an (Q7m c m E4 4 2) (.lv (Q0x c m E4 4 2) λ(x6:Int×Int×List Int)=>.br (x6.2.1 !=0) (.lv (Q2n c x6.2.1 E4) λ(x7:Q01)=>.lf (x7,x6.2.2)) (.an (Qb5 x6.2.2 x6.1 4) (.lv (Q28 x6.2.2 x6.1 4) λ(x8:Int×Bool)=>.br (i.Op==33) (.an (Qan x8.1 8) (.lv (Q34 x8.1 8) λ(x9:Int)=>.an (Q3e c i.A x9) (.lv (Q1n c i.A x9) λ(x10:Q01)=>.lf ({X:=x10.X,Pc:=wrap u32 (x10.Pc+4),B3:=x10.B3},x6.2.2)))) (.an (Q3e c i.A x8.1) (.lv (Q1n c i.A x8.1) λ(x11:Q01)=>.lf ({X:=x11.X,Pc:=wrap u32 (x11.Pc+4),B3:=x11.B3},x6.2.2))))))));.br (i.Op==32) T1 (.br (i.Op==35) T1 (let T2:Tree ((Q01×(List Int))):=.an (Q7m c m E4 1 3) (.lv (Q0x c m E4 1 3) λ(x24:Int×Int×List Int)=>.br (x24.2.1 !=0) (.lv (Q2n c x24.2.1 E4) λ(x25:Q01)=>.lf (x25,x24.2.2)) (.cn E6 (.an (Qda x24.2.2 x24.1 1 E5) (.lv (Q9e x24.2.2 x24.1 1 E5) λ(x26:List Int)=>.lf (E7,x26)))));.br (i.Op==35) T2 (.br (i.Op==36) T2 (.an (Q7m c m E4 1 2) (.lv (Q0x c m E4 1 2) λ(x30:Int×Int×List Int)=>.br (x30.2.1 !=0) (.lv (Q2n c x30.2.1 E4) λ(x31:Q01)=>.lf (x31,x30.2.2)) (.an (Qb5 x30.2.2 x30.1 1) (.lv (Q28 x30.2.2 x30.1 1) λ(x32:Int×Bool)=>.br (i.Op==33) (.an (Qan x32.1 8) (.lv (Q34 x32.1 8) λ(x33:Int)=>.an (Q3e c i.A x33) (.lv (Q1n c i.A x33) λ(x34:Q01)=>.lf ({X:=x34.X,Pc:=wrap u32 (x34.Pc+4),B3:=x34.B3},x30.2.2)))) (.an (Q3e c i.A x32.1) (.lv (Q1n c i.A x32.1) λ(x35:Q01)=>.lf ({X:=x35.X,Pc:=wrap u32 (x35.Pc+4),B3:=x35.B3},x30.2.2)))))))))))
def Q4o c m i:=(Q8f c m i).m
abbrev Qj9 c m i:=(Q8f c m i).p
def Qxh:Q09:=mT 213 [false,true,false] true [.agg Q01.sig,.one (.row 0),.agg Q0f.sig] [.arr 23 1 (.ints .u32)] (λa r=>Q8f (Q01.of (aC a 0)) (rowL .u32 r 0) (Q0f.of (aC a 2))) (λX=>.agg (Q01.cells (X.1))) (λX=>[⟨false,23,1,.ints .u32 (X.2)⟩])
theorem Qw4:Q04 pG Qxh:=oT (.cons Qr (.cons Qhc (.cons Qxw (.cons Qm3 (.cons Qrn (.cons Qfy (.nil))))))) Tryz.func213 Tryz.call213 [] [] 2
def Quu(op:Int):Tree Int:=
.br (op==16) (.lf 1) (.br (op==17) (.lf 3) (.br (op==18) (.lf 4) (.br (op==19) (.lf 5) (.br (op==20) (.lf 6) (.br (op==21) (.lf 7) (.br (op==22) (.lf 8) (.br (op==23) (.lf 12) (.lf op))))))))
def Z3 op:=(Quu op).m
def Zbe:Q09:=mS 280 [] true [.one (.int .i64)] [] (λa r=>Quu (argI a 0)) (λX=>.int .i64 X) (λX=>[])
theorem Z65:Q04 pG Zbe:=oS (.nil) Tryz.func280 Tryz.call280 [] [] 2
def Q9g(a b:Int):Tree (Int×Int):=
.br (b==0) (.lf (4294967295,a)) (.cn (decide (wrap i64 (wrap i32 b)≠0)) (.cn (decide (wrap i64 (wrap i32 b)≠0)) (.lf (wrap u32 (wrap i64 (eN (wrap i64 (wrap i32 a)) (wrap i64 (wrap i32 b)))),wrap u32 (dA (wrap i64 (wrap i32 a)) (wrap i64 (wrap i32 b)))))))
def Qaj a b:=(Q9g a b).m
abbrev Qfk a b:=(Q9g a b).p
def Z6c:Q09:=mT 281 [] true [.one (.int .u32),.one (.int .u32)] [] (λa r=>Q9g (argI a 0) (argI a 1)) (λX=>.tup [.int .u32 (X.1),.int .u32 (X.2)]) (λX=>[])
theorem Z0y:Q04 pG Z6c:=oT (.nil) Tryz.func281 Tryz.call281 [] [] 2
def Qj1(op a b:Int):Tree (Int×Bool):=
.lv (Z3 op) λ(x0:Int)=>.br (x0==1) (.lf (wrap u32 (a+b),true)) (.br (x0==2) (.lf (wrap u32 (a-b),true)) (.br (x0==3) (.lf (iand u32 a b,true)) (.br (x0==4) (.lf (ior u32 a b,true)) (.br (x0==5) (.lf (ixor u32 a b,true)) (.br (x0==6) (.lf (ishl u32 a (iand u32 b 31),true)) (.br (x0==7) (.lf (ishr u32 a (iand u32 b 31),true)) (.br (x0==8) (.lf (wrap u32 (ishr i32 (wrap i32 a) (iand u32 b 31)),true)) (.br (x0==9) (.lf (wrap u32 (a*b),true)) (.br (x0==10) (.an (Qfk a b) (.lv (Qaj a b) λ(x1:Int×Int)=>.lf (x1.1,true))) (.br (x0==11) (.an (Qfk a b) (.lv (Qaj a b) λ(x2:Int×Int)=>.lf (x2.2,true))) (.br (x0==12) (.lv (Qa9 (decide (wrap i32 a<wrap i32 b))) λ(x3:Int)=>.lf (x3,true)) (.br (x0==13) (.lv (Qa9 (decide (a<b))) λ(x4:Int)=>.lf (x4,true)) (.lf (0,false))))))))))))))
def Qbc op a b:=(Qj1 op a b).m
abbrev Qll op a b:=(Qj1 op a b).p
def Zgp:Q09:=mT 214 [] true [.one (.int .i64),.one (.int .u32),.one (.int .u32)] [] (λa r=>Qj1 (argI a 0) (argI a 1) (argI a 2)) (λX=>.tup [.int .u32 (X.1),.bool (X.2)]) (λX=>[])
theorem Zcs:Q04 pG Zgp:=oT (.cons Z65 (.cons Z0y (.cons Qot (.nil)))) Tryz.func214 Tryz.call214 [] [] 2
def Qln(c:Q01)(m:List Int):Tree (Q01×Q10×(List Int)):=
.an (Q7m c m c.Pc 4 1) (.lv (Q0x c m c.Pc 4 1) λ(x0:Int×Int×List Int)=>.br (x0.2.1 !=0) (.lv (Q2n c x0.2.1 c.Pc) λ(x1:Q01)=>.lf (x1,{C1:=0,C7:=0,D7:=0,Value:=0},x0.2.2)) (.an (Qb5 x0.2.2 x0.1 4) (.lv (Q28 x0.2.2 x0.1 4) λ(x2:Int×Bool)=>.lv (Q3o x2.1) λ(x3:Q0f×Bool)=>.br (!x3.2) (.lv (Q2n c 1 x2.1) λ(x4:Q01)=>.lf (x4,{C1:=0,C7:=0,D7:=0,Value:=0},x0.2.2)) (.lv (Q52 x3.1.Op) λ(x5:Bool)=>let T1:Tree ((Q01×Q10×(List Int))):=.br (decide (x3.1.Op>=56)) (.an (Qlf c x3.1) (.lv (Qk3 c x3.1) λ(x7:Q01×Q10)=>.lf (x7.1,x7.2,x0.2.2))) (.br (decide (x3.1.Op>=40)) (.an (Qqu c x3.1) (.lv (Z04 c x3.1) λ(x8:Q01)=>.lf (x8,{C1:=0,C7:=0,D7:=0,Value:=0},x0.2.2))) (.br (decide (x3.1.Op>=32)) (.an (Qj9 c x0.2.2 x3.1) (.lv (Q4o c x0.2.2 x3.1) λ(x9:Q01×List Int)=>.lf (x9.1,{C1:=0,C7:=0,D7:=0,Value:=0},x9.2))) (.br (x3.1.Op==24) (.an (Q3e c x3.1.A (ishl u32 (wrap u32 x3.1.Imm) 16)) (.lv (Q1n c x3.1.A (ishl u32 (wrap u32 x3.1.Imm) 16)) λ(x10:Q01)=>.lf ({X:=x10.X,Pc:=wrap u32 (x10.Pc+4),B3:=x10.B3},{C1:=0,C7:=0,D7:=0,Value:=0},x0.2.2))) (let E2:=aK (A16.l c.X) x3.1.B.toNat 0;let E3:=bJ 0 1&&decide (0<=x3.1.B/\x3.1.B<(↑16:Int));.br (decide (x3.1.Op<=13)) (.cn (bJ 0 1&&decide (0<=x3.1.C/\x3.1.C<(↑16:Int))) (.cn E3 (let E4:=aK (A16.l c.X) x3.1.C.toNat 0;.an (Qll x3.1.Op E2 E4) (.lv (Qbc x3.1.Op E2 E4) λ(x11:Int×Bool)=>.an (Q3e c x3.1.A x11.1) (.lv (Q1n c x3.1.A x11.1) λ(x12:Q01)=>.lf ({X:=x12.X,Pc:=wrap u32 (x12.Pc+4),B3:=x12.B3},{C1:=0,C7:=0,D7:=0,Value:=0},x0.2.2)))))) (.cn E3 (.an (Qll x3.1.Op E2 (wrap u32 x3.1.Imm)) (.lv (Qbc x3.1.Op E2 (wrap u32 x3.1.Imm)) λ(x13:Int×Bool)=>.an (Q3e c x3.1.A x13.1) (.lv (Q1n c x3.1.A x13.1) λ(x14:Q01)=>.lf ({X:=x14.X,Pc:=wrap u32 (x14.Pc+4),B3:=x14.B3},{C1:=0,C7:=0,D7:=0,Value:=0},x0.2.2)))))))));.br x5 (.br (iand u32 c.B3.a0 (1:Int)==(0:Int)) (.lv (Q2n c 2 x2.1) λ(x6:Q01)=>.lf (x6,{C1:=0,C7:=0,D7:=0,Value:=0},x0.2.2)) T1) T1))))
def Qct c m:=(Qln c m).m
abbrev Z06 c m:=(Qln c m).p
def zw:Q09:=mT 143 [false,true] true [.agg Q01.sig,.one (.row 0)] [.arr 23 1 (.ints .u32)] (λa r=>Qln (Q01.of (aC a 0)) (rowL .u32 r 0)) (λX=>.tup [.agg (Q01.cells (X.1)),.agg (Q10.cells (X.2.1))]) (λX=>[⟨false,23,1,.ints .u32 (X.2.2)⟩])
theorem Zif:Q04 pG zw:=oT (.cons Qr (.cons Qhc (.cons Qm3 (.cons Qod (.cons Qrw (.cons Z25 (.cons Zak (.cons Qw4 (.cons Qfy (.cons Zcs (.nil))))))))))) Tryz.func143 Tryz.call143 [] [] 2
end
noncomputable section
def Qc0(m:Q00)(z:(Int)):Nat:=(32-z).toNat
def Q4a(m:Q00):Tree Q01:=
.an (Qec m) (.lv (Q21 m) λ(x0:Int)=>.br (iand u32 m.B2.B3.a0 (2:Int)==(0:Int)) (.lf m.B2) (.br (x0==0) (.lf m.B2) (.lp inferInstance (Qc0 m 0+1) ((rZ/\rZ/\rE (x0:Int)/\rE (0:Int)/\True)/\(mE m (((Els.Nil (Els.ints u32 m.Mem)\/rE (1:Nat))/\rE m.Mem)) True)/\(rE (0:Int)/\rE (0:Int)/\rE (0:Int)/\rE (0:Int)/\rE (0:Int)/\rE (0:Int)/\rE (0:Int)/\rE (0:Int)/\rE (0:Int)/\rE (0:Int)/\rE (0:Int)/\rE (0:Int)/\rE (0:Int)/\rE (0:Int)/\rE (0:Int)/\rE (0:Int)/\rE (0:Int)/\rE (0:Int)/\rE (0:Int)/\rE (0:Int)/\rE (0:Int)/\rE (0:Int)/\rE (0:Int)/\rE (0:Int)/\rE (0:Int)/\True)/\True) 0 λ(v0:Int)=>.cn (decide (0<=wrap u64 v0)) (.br (iand u32 (ishr u32 x0 (wrap u64 v0)) (1:Int)==(0:Int)) (.nx ((rZ/\rZ/\rE (x0:Int)/\rE ((wrap i64 (v0+1)):Int)/\True)/\(mE m (((Els.Nil (Els.ints u32 m.Mem)\/rE (1:Nat))/\rE m.Mem)) True)/\(rE (0:Int)/\rE (0:Int)/\rE (0:Int)/\rE (0:Int)/\rE (0:Int)/\rE (0:Int)/\rE (0:Int)/\rE (0:Int)/\rE (0:Int)/\rE (0:Int)/\rE (0:Int)/\rE (0:Int)/\rE (0:Int)/\rE (0:Int)/\rE (0:Int)/\rE (0:Int)/\rE (0:Int)/\rE (0:Int)/\rE (0:Int)/\rE (0:Int)/\rE (0:Int)/\rE (0:Int)/\rE (0:Int)/\rE (0:Int)/\rE (0:Int)/\True)/\True) (Sum.inl (wrap i64 (v0+1)))) (.lv (Q2n m.B2 (wrap i64 (16+v0)) 0) λ(x1:Q01)=>.lf (Sum.inr x1))))))
def Q0e m:=(Q4a m).m
abbrev Q9t m:=(Q4a m).p
def Qp8:LInv:={
 α:=(Int)
 F:=λst a=>([(1,.ptr 0 0 0),(2,.ptr 1 0 0),(3,(lk st 3)),(4,.int i64 a)],[⟨true,42,49,.gen [mB (cT st 1)]⟩,⟨true,28,25,.gen [[(cT st 2 0),(cT st 2 1),(cT st 2 2),(cT st 2 3),(cT st 2 4),(cT st 2 5),(cT st 2 6),(cT st 2 7),(cT st 2 8),(cT st 2 9),(cT st 2 10),(cT st 2 11),(cT st 2 12),(cT st 2 13),(cT st 2 14),(cT st 2 15),(cT st 2 16),(cT st 2 17),(cT st 2 18),(cT st 2 19),(cT st 2 20),(cT st 2 21),(cT st 2 22),(cT st 2 23),(cT st 2 24)]]⟩])
 a0:=λst=>(lk st 4).toInt
 ex0:=λst=>[]++[(rX st 1 0),(rX st 2 1)]}
def Qlg:List (Nat×LInv):=[(5,Qp8)]
def Qpz:Q09:=mT 142 [] true [.agg Q00.sig] [] (λa r=>Q4a (Q00.of (aC a 0))) (λX=>.agg (Q01.cells X)) (λX=>[])
theorem Qgq:Q04 pG Qpz:=oT (.cons Qlv (.cons Qhc (.nil))) Tryz.func142 Tryz.call142 [] Qlg 3
def Qdd(m:Q00):Tree Bool:=
.an (Q9t m) (.lv (Q0e m) λ(x0:Q01)=>.br (iand u32 x0.B3.a0 (1:Int)==(0:Int)) (.lf false) (.an (Qb5 m.Mem x0.Pc 4) (.lv (Q28 m.Mem x0.Pc 4) λ(x1:Int×Bool)=>.lv (Q3o x1.1) λ(x2:Q0f×Bool)=>.br x1.2 (.br x2.2 (.br (x2.1.Op==60) (.lf (x2.1.Imm==2)) (.lf false)) (.lf false)) (.lf false))))
def Z2o m:=(Qdd m).m
abbrev Qoj m:=(Qdd m).p
def Z9m:Q09:=mT 105 [] true [.agg Q00.sig] [] (λa r=>Qdd (Q00.of (aC a 0))) (λX=>.bool X) (λX=>[])
theorem Z6o:Q04 pG Z9m:=oT (.cons Qgq (.cons Qm3 (.cons Qod (.nil)))) Tryz.func105 Tryz.call105 [] [] 2
def Q3c(c:Q0c)(port:Int):Tree (Q0c×Int):=
let T1:Tree ((Q0c×Int)):=.br (port==0) (.cn (decide ((0:Int)<=(1:Int)/\1<=(c.C9.length:Int)/\(c.C9.length:Int)<=(c.C9.length:Int))) (.cn (decide ((0:Int)<=(0:Int)/\0<(c.C9.length:Int))) (.lf ({C9:=cW (dB (c.C9.length:Int)-dB 1) (cX (dB 1) c.C9)},wrap u32 (↑(eQ (c.C9.getD (dB 0) (0:UInt8))):Int))))) (.br (port==1) (.lf (c,wrap u32 (c.C9.length:Int))) (.lf (c,0)));.br (port==0) (.br ((c.C9.length:Int)==(0:Int)) (.lf (c,4294967295)) T1) T1
def Q64 c port:=(Q3c c port).m
theorem Qpg(c:Q0c)(port:Int):(Q3c c port).p:=by
 unfold Tree.p Q3c
 repeat'(first|exact trivial|refine w_br (λ_=>?_) (λ_=>?_)|refine w_cn ?_ ?_|refine w_an ?_ ?_|refine w_lv (λ_ _=>?_)|refine w_nx ?_|refine w_lf ?_|refine And.intro ?_ ?_)
 all_goals(exact fin0)
def Qvt:Q09:=mS 215 [] true [.agg Q0c.sig,.one (.int .i64)] [] (λa r=>Q3c (Q0c.of (aC a 0)) (argI a 1)) (λX=>.tup [.agg (Q0c.cells (X.1)),.int .u32 (X.2)]) (λX=>[])
theorem Qtd:Q04 pG Qvt:=oS (.nil) Tryz.func215 Tryz.call215 [] [] 2 (λ_ _ _=>by kernel_rfl) (λa r=>Qpg (Q0c.of (aC a 0)) (argI a 1)) (λ_ X=>by kernel_rfl)
def Qd2(t:Q0j):Tree Int:=
.br t.D3 (.lf 1) (.lf 0)
def Qhk t:=(Qd2 t).m
def Z1a:Q09:=mS 216 [] true [.agg Q0j.sig] [] (λa r=>Qd2 (Q0j.of (aC a 0))) (λX=>.int .u32 X) (λX=>[])
theorem Qzv:Q04 pG Z1a:=oS (.nil) Tryz.func216 Tryz.call216 [] [] 2
def Qey(d0:Q0a)(port:Int):Tree Int:=
.br (port==4) (.lf d0.B8) (.br (port==5) (.lf d0.Frame) (.br (port==6) (.lf (wrap u32 d0.B7)) (.lf 0)))
def Qjh d0 port:=(Qey d0 port).m
def Z7u:Q09:=mS 217 [] true [.agg Q0a.sig,.one (.int .i64)] [] (λa r=>Qey (Q0a.of (aC a 0)) (argI a 1)) (λX=>.int .u32 X) (λX=>[])
theorem Z28:Q04 pG Z7u:=oS (.nil) Tryz.func217 Tryz.call217 [] [] 2
def Qdj(n:Q0o)(port:Int):Tree Int:=
.br (port==7) (.lf n.Frame) (.br (port==8) (.lf n.E0) (.br (port==9) (.br n.C2 (.br n.B5 (.lf (wrap u32 ((1:Int)+(2:Int)))) (.lf 1)) (.br n.B5 (.lf (wrap u32 ((0:Int)+(2:Int)))) (.lf 0))) (.lf 0)))
def Qik n port:=(Qdj n port).m
def Z8z:Q09:=mS 218 [] true [.agg Q0o.sig,.one (.int .i64)] [] (λa r=>Qdj (Q0o.of (aC a 0)) (argI a 1)) (λX=>.int .u32 X) (λX=>[])
theorem Z4o:Q04 pG Z8z:=oS (.nil) Tryz.func218 Tryz.call218 [] [] 2
def Q5f(b:Q06)(port:Int):Tree Int:=
.br (port==10) (.lf b.C5) (.br (port==11) (.lv (Qcb b) λ(x0:Int)=>.lf (wrap u32 x0)) (.lf 0))
def Q65 b port:=(Q5f b port).m
def Qv9:Q09:=mS 219 [] true [.agg Q06.sig,.one (.int .i64)] [] (λa r=>Q5f (Q06.of (aC a 0)) (argI a 1)) (λX=>.int .u32 X) (λX=>[])
theorem Qsq:Q04 pG Qv9:=oS (.cons Qqr (.nil)) Tryz.func219 Tryz.call219 [] [] 2
def Qm1(m:Q00)(port clock:Int):Tree (Int×Q00):=
.br (decide (port<=1)) (.lv (Q64 m.A2 port) λ(x0:Q0c×Int)=>.lf (x0.2,{B2:=m.B2,Mem:=m.Mem,A2:=x0.1,A9:=m.A9,B1:=m.B1,C3:=m.C3,A0:=m.A0,A4:=m.A4,A3:=m.A3,A6:=m.A6})) (.br (port==2) (.lf (clock,m)) (.br (port==3) (.lv (Qhk m.A9) λ(x1:Int)=>.lf (x1,m)) (.br (decide (port<=6)) (.lv (Qjh m.B1 port) λ(x2:Int)=>.lf (x2,m)) (.br (decide (port<=9)) (.lv (Qik m.C3 port) λ(x3:Int)=>.lf (x3,m)) (.lv (Q65 m.A0 port) λ(x4:Int)=>.lf (x4,m))))))
def Qgl m port clock:=(Qm1 m port clock).m
def yw:Q09:=mS 144 [true,false,false] true [.ptr 0,.one (.int .i64),.one (.int .u32)] [.box 42 49 (Q00.sigW (.row 1)),.arr 23 1 (.ints .u32)] (λa r=>Qm1 (Q00.ofW (r.getD 0 default).cs (rowL .u32 r 1)) (argI a 1) (argI a 2)) (λX=>.int .u32 (X.1)) (λX=>[⟨true,42,49,.gen [(Q00.cellsW (X.2) (.all 1))]⟩,⟨false,23,1,.ints .u32 (X.2).Mem⟩])
theorem Zhg:Q04 pG yw:=oS (.cons Qtd (.cons Qzv (.cons Z28 (.cons Z4o (.cons Qsq (.nil)))))) Tryz.func144 Tryz.call144 [.row 23 1 (.ints .u32)] [] 2
def Qrz(deadline:Int):Tree Q0j:=
.br (deadline==0) (.lf ({D4:=false,C6:=0,D3:=false})) (.lf ({D4:=true,C6:=deadline,D3:=false}))
def Qws deadline:=(Qrz deadline).m
def Zh2:Q09:=mS 220 [] true [.one (.int .u32)] [] (λa r=>Qrz (argI a 0)) (λX=>.agg (Q0j.cells X)) (λX=>[])
theorem Zcd:Q04 pG Zh2:=oS (.nil) Tryz.func220 Tryz.call220 [] [] 2
def Qpl(x n:Int)(z:(Int)×(List Int)):Prop:=0<=z.1/\(z.2.length:Int)=z.1/\(z.1<=n\/z.1=0)
def Qd7(x n:Int)(z:(Int)×(List Int)):Nat:=(n-z.1).toNat
def Qfd(x n:Int):Tree (List UInt8):=
.lp inferInstance (Qd7 x n (0,[])+1) ((rE (x:Int)/\rE (n:Int)/\True/\rE (0:Int)/\True)/\rE ([]:List Int)/\True) (0,[]) λ(v0:Int×List Int)=>.br (decide (v0.1<n)) (.cn (decide (0<=wrap u64 (wrap i64 (8*v0.1)))) (.cn (decide (1*(v0.2.length+1)<=140737488355328)) (.nx ((rE (x:Int)/\rE (n:Int)/\True/\rE ((wrap i64 (v0.1+1)):Int)/\True)/\rE ((v0.2++[wrap u8 (ishr u32 x (wrap u64 (wrap i64 (8*v0.1))))]):List Int)/\True) (Sum.inl (wrap i64 (v0.1+1),v0.2++[wrap u8 (ishr u32 x (wrap u64 (wrap i64 (8*v0.1))))]))))) (.lf (Sum.inr (bytesOf v0.2)))
def Z6p x n:=(Qfd x n).m
def Qhw(x n:Int):Prop:=
n<=1000000000000
theorem Z9(x n:Int)(hw:Qhw x n):(Qfd x n).p:=by
 simp only[Qhw]at hw
 unfold Tree.p Qfd
 repeat'(first|refine w_lp (inv:=Qpl x n) (μ:=Qd7 x n) ?_ (cL _) (λ_ _=>?_)|exact trivial|refine w_br (λ_=>?_) (λ_=>?_)|refine w_cn ?_ ?_|refine w_an ?_ ?_|refine w_lv (λ_ _=>?_)|refine w_nx ?_|refine w_lf ?_|refine And.intro ?_ ?_)
 all_goals((try simp only[Qpl,Qd7]at*);exact fin0)
def Zek:LInv:={
 α:=(Int)×(List Int)
 F:=λst a=>([(0,(lk st 0)),(1,(lk st 1)),(5,.all 0),(6,.int i64 a.1)],[⟨false,5,1,.ints u8 a.2⟩])
 a0:=λst=>((lk st 6).toInt,(Q80 st.rows (rN st 5)))
 ex0:=λst=>[]++[(rX st 5 0)]}
def Z5e:List (Nat×LInv):=[(3,Zek)]
def Zgx:Q09:=mkP 304 [] true [.one (.int .u32),.one (.int .i64)] [] (λa r=>Qhw (argI a 0) (argI a 1)) (λa r=>Z6p (argI a 0) (argI a 1)) (λX=>.str X) (λX=>[])
theorem Zdd:Q04 pG Zgx:=Q0i drawn Q0h (.nil) Tryz.func304 Tryz.call304 (λa r=>Qfd (argI a 0) (argI a 1)) [] Z5e 3 (hp:=λa r h=>Z9 (argI a 0) (argI a 1) h)
def Qfl(m:List Int)(frame:Int)(z:(Int)×(List Int)):Nat:=(32-z.1).toNat
def Q8k(m:List Int)(frame:Int):Tree ((List UInt8)×Bool):=
.br (decide (frame<0)) (.lf ([],false)) (.lv (Q3r m) λ(x0:Int)=>.br (decide (frame>=x0)) (.lf ([],false)) (.lp inferInstance (Qfl m frame (0,[])+1) ((((Els.Nil (Els.ints u32 m)\/rE (1:Nat))/\rE (m:List Int))/\rE (frame:Int)/\True/\rE (0:Int)/\True)/\rE ([]:List Int)/\True) (0,[]) λ(v0:Int×List Int)=>.br (decide (v0.1<32)) (.cn (bT 1 1&&bJ 0 1&&decide (0<=wrap i64 (wrap i64 (frame*32)+v0.1)/\wrap i64 (wrap i64 (frame*32)+v0.1)<(m.length:Int))) (let E1:=m.getD (dB (wrap i64 (wrap i64 (frame*32)+v0.1))) 0;.an (Qhw E1 4) (.lv (Z6p E1 4) λ(x1:List UInt8)=>.cn (decide (1*(v0.2.length+dG (Qa2 x1))<=140737488355328)) (.nx ((((Els.Nil (Els.ints u32 m)\/rE (1:Nat))/\rE (m:List Int))/\rE (frame:Int)/\True/\rE ((wrap i64 (v0.1+1)):Int)/\True)/\rE ((v0.2++Qa2 x1):List Int)/\True) (Sum.inl (wrap i64 (v0.1+1),v0.2++Qa2 x1)))))) (.lf (Sum.inr (bytesOf v0.2,true)))))
def Qfu m frame:=(Q8k m frame).m
abbrev Qex m frame:=(Q8k m frame).p
def Za2:LInv:={
 α:=(Int)×(List Int)
 F:=λst a=>([(0,(lk st 0)),(1,(lk st 1)),(6,.all 0),(7,.int i64 a.1)],[⟨false,5,1,.ints u8 a.2⟩])
 a0:=λst=>((lk st 7).toInt,(Q80 st.rows (rN st 6)))
 ex0:=λst=>[]++[(rX st 6 0)]}
def Z26:List (Nat×LInv):=[(5,Za2)]
def Ze:Q09:=mT 283 [] true [.one (.ints .u32),.one (.int .i64)] [] (λa r=>Q8k (argL .u32 a 0) (argI a 1)) (λX=>.tup [.str (X.1),.bool (X.2)]) (λX=>[])
theorem Qv6:Q04 pG Ze:=oT (.cons Qbv (.cons Zdd (.nil))) Tryz.func283 Tryz.call283 [] Z26 3
def Qnz(d0:Q0a)(at0:Int):Tree (Q0d×Bool):=
.br (d0.B7 !=1) (.lf ({C1:=0,At:=0,B8:=0,C8:=[]},false)) (.br (d0.D5==1) (.lf ({C1:=3,At:=at0,B8:=d0.B4,C8:=[]},true)) (.br (d0.D5==2) (.lf ({C1:=4,At:=at0,B8:=d0.B4,C8:=d0.C0},true)) (.lf ({C1:=0,At:=0,B8:=0,C8:=[]},false))))
def Qhb d0 at0:=(Qnz d0 at0).m
def Z1h:Q09:=mS 284 [] true [.agg Q0a.sig,.one (.int .u64)] [] (λa r=>Qnz (Q0a.of (aC a 0)) (argI a 1)) (λX=>.tup [.agg (Q0d.cells (X.1)),.bool (X.2)]) (λX=>[])
theorem Qxn:Q04 pG Z1h:=oS (.nil) Tryz.func284 Tryz.call284 [] [] 2
def Q7u(d0:Q0a)(m:List Int)(port v at0:Int):Tree (Q0a×(List Q0d)):=
.br (port==4) (.lf ({Blocks:=d0.Blocks,B8:=v,Frame:=d0.Frame,B7:=d0.B7,D5:=d0.D5,B4:=d0.B4,B0:=d0.B0,C0:=d0.C0},[])) (.br (port==5) (.lf ({Blocks:=d0.Blocks,B8:=d0.B8,Frame:=v,B7:=d0.B7,D5:=d0.D5,B4:=d0.B4,B0:=d0.B0,C0:=d0.C0},[])) (.br (port !=6) (.lf (d0,[])) (let T1:Tree ((Q0a×(List Q0d))):=.br (d0.B7==0) (let T2:Tree ((Q0a×(List Q0d))):=.lf ({Blocks:=d0.Blocks,B8:=d0.B8,Frame:=d0.Frame,B7:=3,D5:=d0.D5,B4:=d0.B4,B0:=d0.B0,C0:=d0.C0},[]);.br (decide (d0.B8>=d0.Blocks)) T2 (.lv (Q1y m d0.Frame) λ(x0:Bool)=>.br (!x0) T2 (.br (v==2) (.an (Qex m (wrap i64 d0.Frame)) (.lv (Qfu m (wrap i64 d0.Frame)) λ(x1:List UInt8×Bool)=>let E4:=({Blocks:=d0.Blocks,B8:=d0.B8,Frame:=d0.Frame,B7:=1,D5:=wrap i64 v,B4:=d0.B8,B0:=d0.Frame,C0:=x1.1}:Q0a);.lv (Qhb E4 at0) λ(x2:Q0d×Bool)=>.lf (E4,[x2.1]))) (let E5:=({Blocks:=d0.Blocks,B8:=d0.B8,Frame:=d0.Frame,B7:=1,D5:=wrap i64 v,B4:=d0.B8,B0:=d0.Frame,C0:=[]}:Q0a);.lv (Qhb E5 at0) λ(x3:Q0d×Bool)=>.lf (E5,[x3.1]))))) (.lf (d0,[]));.br (v==0) (let T3:Tree ((Q0a×(List Q0d))):=.lf ({Blocks:=d0.Blocks,B8:=d0.B8,Frame:=d0.Frame,B7:=0,D5:=d0.D5,B4:=d0.B4,B0:=d0.B0,C0:=d0.C0},[]);.br (d0.B7==2) T3 (.br (d0.B7==3) T3 (.br (v==1) T1 (.br (v==2) T1 (.lf (d0,[])))))) (.br (v==1) T1 (.br (v==2) T1 (.lf (d0,[])))))))
def Qhv d0 m port v at0:=(Q7u d0 m port v at0).m
abbrev Qkz d0 m port v at0:=(Q7u d0 m port v at0).p
def Z0v:Q09:=mT 221 [] true [.agg Q0a.sig,.one (.ints .u32),.one (.int .i64),.one (.int .u32),.one (.int .u64)] [] (λa r=>Q7u (Q0a.of (aC a 0)) (argL .u32 a 1) (argI a 2) (argI a 3) (argI a 4)) (λX=>.tup [.agg (Q0a.cells (X.1)),.sl 4 (.recs .apiOutput (X.2)) true]) (λX=>[])
theorem Qww:Q04 pG Z0v:=oT (.cons Qdc (.cons Qv6 (.cons Qxn (.nil)))) Tryz.func221 Tryz.call221 [.sl (.recs .apiOutput) true] [] 2
def Q9a(n:Q0o)(m:List Int)(port v at0:Int):Tree (Q0o×(List Q0d)):=
.br (port==7) (.lf ({Frame:=v,D8:=n.D8,C2:=n.C2,B6:=n.B6,B5:=n.B5,E0:=n.E0},[])) (.br (port==8) (.lf ({Frame:=n.Frame,D8:=v,C2:=n.C2,B6:=n.B6,B5:=n.B5,E0:=n.E0},[])) (.br (port !=9) (.lf (n,[])) (.br (v==0) (.lf ({Frame:=n.Frame,D8:=n.D8,C2:=n.C2,B6:=n.B6,B5:=false,E0:=0},[])) (let T1:Tree ((Q0o×(List Q0d))):=.br (v==2) (.lv (Q1y m n.Frame) λ(x2:Bool)=>.br x2 (.br (!n.C2) (.br (!n.B5) (.lf ({Frame:=n.Frame,D8:=n.D8,C2:=true,B6:=n.Frame,B5:=n.B5,E0:=n.E0},[])) (.lf (n,[]))) (.lf (n,[]))) (.lf (n,[]))) (.lf (n,[]));.br (v==1) (.br (decide (n.D8>=1)) (.br (decide (n.D8<=128)) (.lv (Q1y m n.Frame) λ(x0:Bool)=>.br x0 (.an (Qex m (wrap i64 n.Frame)) (.lv (Qfu m (wrap i64 n.Frame)) λ(x1:List UInt8×Bool)=>.cn (decide ((0:Int)<=(0:Int)/\0<=n.D8/\n.D8<=(x1.1.length:Int))) (.lf (n,[{C1:=2,At:=at0,B8:=0,C8:=cW (dB n.D8-dB 0) (cX (dB 0) x1.1)}])))) T1) T1) T1) T1))))
def Qjo n m port v at0:=(Q9a n m port v at0).m
abbrev Qmb n m port v at0:=(Q9a n m port v at0).p
def Z5o:Q09:=mT 222 [] true [.agg Q0o.sig,.one (.ints .u32),.one (.int .i64),.one (.int .u32),.one (.int .u64)] [] (λa r=>Q9a (Q0o.of (aC a 0)) (argL .u32 a 1) (argI a 2) (argI a 3) (argI a 4)) (λX=>.tup [.agg (Q0o.cells (X.1)),.sl 4 (.recs .apiOutput (X.2)) true]) (λX=>[])
theorem Z10:Q04 pG Z5o:=oT (.cons Qdc (.cons Qv6 (.nil))) Tryz.func222 Tryz.call222 [.sl (.recs .apiOutput) true] [] 2
def Qg0(b:Q06)(m:List Int)(port v:Int)(z:(Int)×(List Int)):Nat:=(32-z.1).toNat
def Q4f(b:Q06)(m:List Int)(port v:Int):Tree (Q06×(List Int)):=
let T1:Tree ((Q06×(List Int))):=.br (port==11) (.br (decide (v<32)) (.cn (decide (0<=v)) (.lf ({C5:=b.C5,B9:=Q7f u32 b.B9 (ishl u32 1 v)},m))) (.lf (b,m))) (.lf (b,m));.br (port==10) (.lv (Q1y m v) λ(x0:Bool)=>.br x0 (.cn (decide (0<=v)) (.br (iand u32 (ishr u32 b.B9 v) (1:Int)==(0:Int)) (.cn (decide (0<=v)) (.lp inferInstance (Qg0 b m port v (0,m)+1) ((True/\rE (v:Int)/\rZ/\rZ/\rE (0:Int)/\True)/\rE (m:List Int)/\(rE b.C5/\rE ((ior u32 b.B9 (ishl u32 1 v)):Int)/\True)/\(rE (0:Int)/\rE (0:Int)/\True)/\True) (0,m) λ(v0:Int×List Int)=>.br (decide (v0.1<32)) (let E2:=wrap i64 (wrap i64 v*32)+v0.1;.cn (bT 1 1&&bJ 0 1&&decide (0<=wrap i64 E2/\wrap i64 E2<(v0.2.length:Int))) (.nx ((True/\rE (v:Int)/\rZ/\rZ/\rE ((wrap i64 (v0.1+1)):Int)/\True)/\rE ((dC v0.2 (dB (wrap i64 (wrap i64 (wrap i64 v*32)+v0.1))) 0):List Int)/\(rE b.C5/\rE ((ior u32 b.B9 (ishl u32 1 v)):Int)/\True)/\(rE (0:Int)/\rE (0:Int)/\True)/\True) (Sum.inl (wrap i64 (v0.1+1),dC v0.2 (dB (wrap i64 E2)) 0)))) (.lf (Sum.inr ({C5:=b.C5,B9:=ior u32 b.B9 (ishl u32 1 v)},v0.2))))) T1)) T1) T1
def Q6j b m port v:=(Q4f b m port v).m
abbrev Qrg b m port v:=(Q4f b m port v).p
def Zad:LInv:={
 α:=(Int)×(List Int)
 F:=λst a=>([(1,.all 0),(3,(lk st 3)),(4,.ptr 1 0 0),(8,.ptr 2 0 0),(9,.int i64 a.1)],[⟨false,23,1,.ints u32 a.2⟩,⟨true,39,2,.gen [[(cT st 4 0),(cT st 4 1)]]⟩,⟨true,39,2,.gen [[(cT st 8 0),(cT st 8 1)]]⟩])
 a0:=λst=>((lk st 9).toInt,(Q80 st.rows 0))
 ex0:=λst=>[0]++[(rX st 4 1),(rX st 8 2)]}
def Z22:List (Nat×LInv):=[(4,Zad)]
def Zdy:Q09:=mT 223 [false,true,false,false] true [.agg Q06.sig,.one (.row 0),.one (.int .i64),.one (.int .u32)] [.arr 23 1 (.ints .u32)] (λa r=>Q4f (Q06.of (aC a 0)) (rowL .u32 r 0) (argI a 2) (argI a 3)) (λX=>.agg (Q06.cells (X.1))) (λX=>[⟨false,23,1,.ints .u32 (X.2)⟩])
theorem Zby:Q04 pG Zdy:=oT (.cons Qdc (.nil)) Tryz.func223 Tryz.call223 [] Z22 3
def Qf9(m:Q00)(port v:Int):Tree ((List Q0d)×Q00):=
.br (port==0) (.lf ([{C1:=1,At:=m.A4,B8:=0,C8:=[(λ(n:Int)=>eR n.toNat) (wrap u8 v)]}],m)) (.br (decide (port<=2)) (.lf ([],m)) (.br (port==3) (.lv (Qws v) λ(x0:Q0j)=>.lf ([],{B2:=m.B2,Mem:=m.Mem,A2:=m.A2,A9:=x0,B1:=m.B1,C3:=m.C3,A0:=m.A0,A4:=m.A4,A3:=m.A3,A6:=m.A6})) (.br (decide (port<=6)) (.an (Qkz m.B1 m.Mem port v m.A4) (.lv (Qhv m.B1 m.Mem port v m.A4) λ(x1:Q0a×List Q0d)=>.lf (x1.2,{B2:=m.B2,Mem:=m.Mem,A2:=m.A2,A9:=m.A9,B1:=x1.1,C3:=m.C3,A0:=m.A0,A4:=m.A4,A3:=m.A3,A6:=m.A6}))) (.br (decide (port<=9)) (.an (Qmb m.C3 m.Mem port v m.A4) (.lv (Qjo m.C3 m.Mem port v m.A4) λ(x2:Q0o×List Q0d)=>.lf (x2.2,{B2:=m.B2,Mem:=m.Mem,A2:=m.A2,A9:=m.A9,B1:=m.B1,C3:=x2.1,A0:=m.A0,A4:=m.A4,A3:=m.A3,A6:=m.A6}))) (.an (Qrg m.A0 m.Mem port v) (.lv (Q6j m.A0 m.Mem port v) λ(x3:Q06×List Int)=>.lf ([],{B2:=m.B2,Mem:=x3.2,A2:=m.A2,A9:=m.A9,B1:=m.B1,C3:=m.C3,A0:=x3.1,A4:=m.A4,A3:=m.A3,A6:=m.A6})))))))
def Qd3 m port v:=(Qf9 m port v).m
abbrev Qus m port v:=(Qf9 m port v).p
def Zhf:Q09:=mT 146 [true,false,false] true [.ptr 0,.one (.int .i64),.one (.int .u32)] [.box 42 49 (Q00.sigW (.row 1)),.arr 23 1 (.ints .u32)] (λa r=>Qf9 (Q00.ofW (r.getD 0 default).cs (rowL .u32 r 1)) (argI a 1) (argI a 2)) (λX=>.sl 4 (.recs .apiOutput (X.1)) true) (λX=>[⟨true,42,49,.gen [(Q00.cellsW (X.2) (.all 1))]⟩,⟨false,23,1,.ints .u32 (X.2).Mem⟩])
theorem Zd1:Q04 pG Zhf:=oT (.cons Zcd (.cons Qww (.cons Z10 (.cons Zby (.nil))))) Tryz.func146 Tryz.call146 [.sl (.recs .apiOutput) true,.row 23 1 (.ints .u32)] [] 2
def Qa4(m:Q00)(clock:Int):Tree ((List Q0d)×Q00):=
.an (Q9t m) (.lv (Q0e m) λ(x0:Q01)=>.an (Z06 x0 m.Mem) (.lv (Qct x0 m.Mem) λ(x1:Q01×Q10×List Int)=>let E1:=({B2:=x1.1,Mem:=x1.2.2,A2:=m.A2,A9:=m.A9,B1:=m.B1,C3:=m.C3,A0:=m.A0,A4:=m.A4,A3:=false,A6:=m.A6}:Q00);.br (x1.2.1.C1==1) (.lv (Qgl E1 x1.2.1.C7 clock) λ(x2:Int×Q00)=>.an (Q3e x2.2.B2 x1.2.1.D7 x2.1) (.lv (Q1n x2.2.B2 x1.2.1.D7 x2.1) λ(x3:Q01)=>.lf ([],{B2:=x3,Mem:=x2.2.Mem,A2:=x2.2.A2,A9:=x2.2.A9,B1:=x2.2.B1,C3:=x2.2.C3,A0:=x2.2.A0,A4:=wrap u64 (x2.2.A4+1),A3:=x2.2.A3,A6:=x2.2.A6}))) (.br (x1.2.1.C1==2) (.an (Qus E1 x1.2.1.C7 x1.2.1.Value) (.lv (Qd3 E1 x1.2.1.C7 x1.2.1.Value) λ(x4:List Q0d×Q00)=>.lf (x4.1,{B2:=x4.2.B2,Mem:=x4.2.Mem,A2:=x4.2.A2,A9:=x4.2.A9,B1:=x4.2.B1,C3:=x4.2.C3,A0:=x4.2.A0,A4:=wrap u64 (x4.2.A4+1),A3:=x4.2.A3,A6:=x4.2.A6}))) (.br (x1.2.1.C1==3) (.lf ([],{B2:=x1.1,Mem:=x1.2.2,A2:=m.A2,A9:=m.A9,B1:=m.B1,C3:=m.C3,A0:=m.A0,A4:=wrap u64 (m.A4+1),A3:=true,A6:=m.A6})) (.br (x1.2.1.C1==4) (.lf ([],{B2:=x1.1,Mem:=x1.2.2,A2:=m.A2,A9:=m.A9,B1:=m.B1,C3:=m.C3,A0:=m.A0,A4:=wrap u64 (m.A4+1),A3:=false,A6:=true})) (.lf ([],{B2:=x1.1,Mem:=x1.2.2,A2:=m.A2,A9:=m.A9,B1:=m.B1,C3:=m.C3,A0:=m.A0,A4:=wrap u64 (m.A4+1),A3:=false,A6:=m.A6})))))))
def Q1q m clock:=(Qa4 m clock).m
abbrev Qe8 m clock:=(Qa4 m clock).p
def Z27:Q09:=mT 89 [true,false] true [.ptr 0,.one (.int .u32)] [.box 42 49 (Q00.sigW (.row 1)),.arr 23 1 (.ints .u32)] (λa r=>Qa4 (Q00.ofW (r.getD 0 default).cs (rowL .u32 r 1)) (argI a 1)) (λX=>.sl 4 (.recs .apiOutput (X.1)) true) (λX=>[⟨true,42,49,.gen [(Q00.cellsW (X.2) (.all 1))]⟩,⟨false,23,1,.ints .u32 (X.2).Mem⟩])
theorem Z05:Q04 pG Z27:=oT (.cons Qgq (.cons Zif (.cons Zhg (.cons Qfy (.cons Zd1 (.nil)))))) Tryz.func89 Tryz.call89 [.sl (.recs .apiOutput) true,.row 23 1 (.ints .u32)] [] 2
end
noncomputable section
instance sumInhZg {α β:Type} [Inhabited β]:Inhabited (α⊕β):=⟨.inr default⟩
