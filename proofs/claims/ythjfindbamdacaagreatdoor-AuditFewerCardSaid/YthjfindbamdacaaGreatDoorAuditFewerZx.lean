import Derived.Test.YthjfindbamdacaaGreatDoorAuditFewerYz
open Nat renaming blt->bJ,beq->bT,lt_succ_self->cO
open List renaming length->dK,replicate->cQ,take->dB,drop->dC,set->dG,getD->aK
open Int renaming toNat->dF,tdiv->eU,tmod->dE
open UInt8 renaming ofNat->eX,toNat->eW
set_option maxRecDepth 100000
set_option linter.all false
namespace Go.Proofs.YthjfindbamdacaaGreatDoor
open Go Go.GD Go.IntKind
noncomputable section
def Md(m:List Int):Tree (List Int):=
.cn (bJ (0:Nat) (1:Nat)&&bT (1:Nat) (1:Nat)&&List.all [D.int u32 (0:Int)] D.plain&&decide ((0:Int)<=(m.length:Int)/\(m.length:Int)<=(m.length:Int)/\(m.length:Int)<=(9223372036854775807:Int)/\(↑(4:Nat):Int)*(m.length:Int)<=(140737488355328:Int))) (let E1:=dK (cQ (dF (m.length:Int)) (0:Int));.lf (dB (Min.min (m.length) E1) m++dC (Min.min (m.length) E1) (cQ (dF (m.length:Int)) (0:Int))))
def Yv m:=(Md m).m
abbrev Qvp m:=(Md m).p
def Zkp:bc:=mT 141 [] true [.one (.ints .u32)] [] (λa r=>Md (ei .u32 a 0)) (λX=>.all 0) (λX=>[⟨false,23,1,.ints .u32 X⟩])
theorem Zf6:bn pG Zkp:=oT (.nil) Tryz.func141 Tryz.call141 [.row 23 1 (.ints .u32)] [] 2
def GR(m:au):Tree au:=
.an (Qvp m.Mem) (.lv (Yv m.Mem) λ(x0:List Int)=>.lf ({B4:=m.B4,Mem:=x0,A7:=m.A7,B2:=m.B2,B1:=m.B1,C6:=m.C6,A6:=m.A6,A4:=m.A4,A9:=m.A9,B0:=m.B0}))
def JA m:=(GR m).m
abbrev Sq m:=(GR m).p
def Zqs:bc:=mT 87 [] true [.agg au.sig] [] (λa r=>GR (au.of (aC a 0))) (λX=>.agg (au.fg X (.all 0))) (λX=>[⟨false,23,1,.ints .u32 X.Mem⟩])
theorem Qsw:bn pG Zqs:=oT (.cons Zf6 (.nil)) Tryz.func87 Tryz.call87 [.row 23 1 (.ints .u32)] [] 2
def Qrq(n k:Int)(z:(Int)×(List Int)):Prop:=0<=z.1/\(z.2.length:Int)=z.1/\(z.1<=k\/z.1=0)
def Qhf(n k:Int)(z:(Int)×(List Int)):Nat:=(k-z.1).toNat
def Wf(n k:Int):Tree (List UInt8):=
.lp inferInstance (Qhf n k (0,[])+1) ((rE (n:Int)/\rE (k:Int)/\True/\rE (0:Int)/\True)/\rE ([]:List Int)/\True) (0,[]) λ(v0:Int×List Int)=>.br (decide (v0.1<k)) (.lv (AW n (wrap i64 (eU v0.1 9))) λ(x0:Int)=>.cn (decide (1*(v0.2.length+1)<=140737488355328)) (.nx ((rE (n:Int)/\rE (k:Int)/\True/\rE ((wrap i64 (v0.1+1)):Int)/\True)/\rE ((v0.2++[wrap u8 x0]):List Int)/\True) (Sum.inl (wrap i64 (v0.1+1),v0.2++[wrap u8 x0])))) (.lf (Sum.inr (bytesOf v0.2)))
def Z2a n k:=(Wf n k).m
def M1(n k:Int):Prop:=
k<=1000000000000
theorem Zda(n k:Int)(hw:M1 n k):(Wf n k).p:=by
 simp only[M1]at hw
 unfold Tree.p Wf
 repeat'(first|refine fy (inv:=Qrq n k) (μ:=Qhf n k) ?_ (cO _) (λ_ _=>?_)|exact trivial|refine aa (λ_=>?_) (λ_=>?_)|refine ay ?_ ?_|refine cz ?_ ?_|refine ar (λ_ _=>?_)|refine ff ?_|refine fe ?_|refine And.intro ?_ ?_)
 all_goals((try simp only[Qrq,Qhf]at*);exact oR)
def Zef:bw:={
 α:=(Int)×(List Int)
 F:=λst a=>([(0,(lk st 0)),(1,(lk st 1)),(5,.all 0),(6,.int i64 a.1)],[⟨false,5,1,.ints u8 a.2⟩])
 a0:=λst=>((lk st 6).toInt,(o4 st.rows (rN st 5)))
 jo:=λst=>[]++[(rX st 5 0)]}
def Z72:List (Nat×bw):=[(3,Zef)]
def Zj5:bc:=mW 20 [] true [.one (.int .i64),.one (.int .i64)] [] (λa r=>M1 (aq a 0) (aq a 1)) (λa r=>Z2a (aq a 0) (aq a 1)) (λX=>.str X) (λX=>[])
theorem Zf2:bn pG Zj5:=wo drawn mX (.cons VX (.nil)) Tryz.func20 Tryz.call20 (λa r=>Wf (aq a 0) (aq a 1)) [] Z72 3 (hp:=λa r h=>Zda (aq a 0) (aq a 1) h)
def Mm(r:cy):Tree cy:=
.an (Sq r.A0) (.lv (JA r.A0) λ(x0:au)=>.cn (decide (40*(0+r.D0.length)<=140737488355328)) (.cn (decide (32*(0+r.B3.length)<=140737488355328)) (.lf ({A0:=x0,B6:=r.B6,D0:=r.D0,B3:=r.B3}))))
def Uq r:=(Mm r).m
abbrev Qlq r:=(Mm r).p
def Zk5:bc:=mT 262 [] true [.agg cy.sig] [] (λa r=>Mm (cy.of (aC a 0))) (λX=>.agg (cy.fg X (.all 0) (.all 1) (.all 2))) (λX=>[⟨false,23,1,.ints .u32 X.A0.Mem⟩,⟨false,103,4,.av .ab X.D0⟩,⟨false,72,3,.av .bd X.B3⟩])
theorem Qyi:bn pG Zk5:=oT (.cons Qsw (.nil)) Tryz.func262 Tryz.call262 [.row 23 1 (.ints .u32),.row 103 4 (.av .ab),.row 72 3 (.av .bd)] [] 2
def Qtu(e:gx):Tree Bool:=
.br (e.C3==1) (.lf (decide (e.D2=[]))) (.br (e.C3==6) (.lf (decide (e.D2=[]))) (.br (e.C3==2) (.br (e.N==0) (.lf (decide (e.D2=[]))) (.lf false)) (.br (e.C3==3) (.br (decide (e.N<=255)) (.lf (decide (e.D2=[]))) (.lf false)) (.br (e.C3==4) (.br (decide (e.N<=1)) (.br (decide (e.D2=[])) (.lf true) (.br (e.N==1) (.lf ((e.D2.length:Int)==(128:Int))) (.lf false))) (.lf false)) (.br (e.C3==5) (.br (e.N==0) (.br (decide ((e.D2.length:Int)>=(1:Int))) (.lf (decide ((e.D2.length:Int)<=(128:Int)))) (.lf false)) (.lf false)) (.lf false))))))
def Pe e:=(Qtu e).m
def Zdo:bc:=mS 263 [] true [.agg gx.sig] [] (λa r=>Qtu (gx.of (aC a 0))) (λX=>.bool X) (λX=>[])
theorem Z6z:bn pG Zdo:=oS (.nil) Tryz.func263 Tryz.call263 [] [] 2
def Mp(r:cy)(e:gx):Tree (cy×Bool):=
.an (Qlq r) (.lv (Uq r) λ(x0:cy)=>.lv (Pe e) λ(x1:Bool)=>.br (!x1) (.lf (x0,false)) (.br (e.C3==1) (.lf (x0,false)) (.br (decide ((x0.B3.length:Int)>=(16:Int))) (.lf (x0,false)) (.cn (decide (32*(x0.B3.length+1)<=140737488355328)) (.lf ({A0:=x0.A0,B6:=x0.B6,D0:=x0.D0,B3:=x0.B3++[e]},true))))))
def Eu r e:=(Mp r e).m
abbrev Qmx r e:=(Mp r e).p
def Z6j:bc:=mT 200 [] true [.agg cy.sig,.agg gx.sig] [] (λa r=>Mp (cy.of (aC a 0)) (gx.of (aC a 1))) (λX=>.du [.agg (cy.fg (X.1) (.all 0) (.all 1) (.all 2)),.bool (X.2)]) (λX=>[⟨false,23,1,.ints .u32 (X.1).A0.Mem⟩,⟨false,103,4,.av .ab (X.1).D0⟩,⟨false,72,3,.av .bd (X.1).B3⟩])
theorem Z5d:bn pG Z6j:=oT (.cons Qyi (.cons Z6z (.nil))) Tryz.func200 Tryz.call200 [.row 23 1 (.ints .u32),.row 103 4 (.av .ab),.row 72 3 (.av .bd)] [] 2
def RZ(n:Int):Tree gx:=
.lv (AW n 2) λ(x0:Int)=>.br (dE x0 (7:Int)==(0:Int)) (.lf ({C3:=2,N:=0,D2:=[]})) (.br (dE x0 (7:Int)==(1:Int)) (.lf ({C3:=3,N:=wrap u32 (bg i64 (bh i64 x0 8) 255),D2:=[]})) (.br (dE x0 (7:Int)==(2:Int)) (.lf ({C3:=3,N:=wrap u32 (bg i64 (bh i64 x0 8) 255),D2:=[]})) (.br (dE x0 (7:Int)==(3:Int)) (.lf ({C3:=4,N:=1,D2:=[]})) (.br (dE x0 (7:Int)==(4:Int)) (.an (M1 x0 128) (.lv (Z2a x0 128) λ(x1:List UInt8)=>.lf ({C3:=4,N:=1,D2:=x1}))) (.br (dE x0 (7:Int)==(5:Int)) (let E1:=wrap i64 (1+dE (bh i64 x0 8) 40);.an (M1 x0 E1) (.lv (Z2a x0 E1) λ(x2:List UInt8)=>.lf ({C3:=5,N:=0,D2:=x2}))) (.br (dE (bh i64 x0 8) (4:Int)==(0:Int)) (.lf ({C3:=4,N:=0,D2:=[]})) (.lf ({C3:=6,N:=wrap u32 (dE (bh i64 x0 8) 3),D2:=[]}))))))))
def Pd n:=(RZ n).m
abbrev Qra n:=(RZ n).p
def Zi5:bc:=mT 28 [] true [.one (.int .i64)] [] (λa r=>RZ (aq a 0)) (λX=>.agg (gx.cells X)) (λX=>[])
theorem Zb:bn pG Zi5:=oT (.cons VX (.cons Zf2 (.nil))) Tryz.func28 Tryz.call28 [] [] 2
def Qpf(m:List Int):Tree Int:=
.br (dE (m.length:Int) (32:Int) !=(0:Int)) (.lf 0) (.br (decide ((m.length:Int)>(1024:Int))) (.lf 0) (.lf (wrap i64 (eU (m.length:Int) 32))))
def wQ m:=(Qpf m).m
def Zi4:bc:=mS 157 [] true [.one (.ints .u32)] [] (λa r=>Qpf (ei .u32 a 0)) (λX=>.int .i64 X) (λX=>[])
theorem Sw:bn pG Zi4:=oS (.nil) Tryz.func157 Tryz.call157 [] [] 2
def Qlc(c:iW):Tree Bool:=
.lf (decide ((c.D5.length:Int)<=(16:Int)))
def Qin c:=(Qlc c).m
def Qxn:bc:=mS 158 [] true [.agg iW.sig] [] (λa r=>Qlc (iW.of (aC a 0))) (λX=>.bool X) (λX=>[])
theorem Qvv:bn pG Qxn:=oS (.nil) Tryz.func158 Tryz.call158 [] [] 2
def X8(t:iX):Tree Bool:=
.br t.D7 (.br t.D6 (.lf false) (.br t.D7 (.lf (t.C7 !=0)) (.br t.D6 (.lf true) (.lf (t.C7==0))))) (.br t.D7 (.lf (t.C7 !=0)) (.br t.D6 (.lf true) (.lf (t.C7==0))))
def T9 t:=(X8 t).m
def Z3n:bc:=mS 159 [] true [.agg iX.sig] [] (λa r=>X8 (iX.of (aC a 0))) (λX=>.bool X) (λX=>[])
theorem Z0o:bn pG Z3n:=oS (.nil) Tryz.func159 Tryz.call159 [] [] 2
def Ya(d0:fp)(c8:Int):Tree Bool:=
.br (decide (d0.ag>64)) (.lf false) (.br (decide (d0.C0<0)) (.lf false) (.br (decide (d0.C0>3)) (.lf false) (.br (d0.C0 !=1) (.br (d0.D8==0) (.br (d0.B9==0) (.br (d0.B5==0) (.lf (decide (d0.C1=[]))) (.lf false)) (.lf false)) (.lf false)) (.br (decide (d0.B9>=d0.ag)) (.lf false) (.br (decide (wrap i64 d0.B5>=c8)) (.lf false) (.br (d0.D8==1) (.br (decide (d0.C1=[])) (.lf true) (.br (d0.D8==2) (.lf ((d0.C1.length:Int)==(128:Int))) (.lf false))) (.br (d0.D8==2) (.lf ((d0.C1.length:Int)==(128:Int))) (.lf false))))))))
def Ub d0 c8:=(Ya d0 c8).m
def Z6r:bc:=mS 160 [] true [.agg fp.sig,.one (.int .i64)] [] (λa r=>Ya (fp.of (aC a 0)) (aq a 1)) (λX=>.bool X) (λX=>[])
theorem Z5p:bn pG Z6r:=oS (.nil) Tryz.func160 Tryz.call160 [] [] 2
def X9(n:ia)(c8:Int):Tree Bool:=
let T1:Tree (Bool):=.br n.B8 (.br (decide (n.F4>=1)) (.lf (decide (n.F4<=128))) (.lf false)) (.lf (n.F4==0));.br n.C8 (.br n.B8 (.lf false) (.br (decide (wrap i64 n.C2>=c8)) (.lf false) (.br (!n.C8) (.br (n.C2 !=0) (.lf false) T1) T1))) (.br (!n.C8) (.br (n.C2 !=0) (.lf false) T1) T1)
def Ua n c8:=(X9 n c8).m
def Zc1:bc:=mS 161 [] true [.agg ia.sig,.one (.int .i64)] [] (λa r=>X9 (ia.of (aC a 0)) (aq a 1)) (λX=>.bool X) (λX=>[])
theorem Z76:bn pG Zc1:=oS (.nil) Tryz.func161 Tryz.call161 [] [] 2
def Qg3(b:gv)(c8:Int)(z:(Int)):Prop:=0<=z/\z<=32
def Ug(b:gv)(c8:Int)(z:(Int)):Nat:=(32-z).toNat
def L5(b:gv)(c8:Int):Tree Bool:=
.lp inferInstance (Ug b c8 0+1) ((rE (c8:Int)/\rZ/\rE (0:Int)/\True)/\(rE b.C9/\rE b.C5/\True)/\True) 0 λ(v0:Int)=>.br (decide (v0<32)) (.cn (decide (0<=wrap u64 v0)) (let T1:Tree ((Int)⊕(Bool)):=.nx ((rE (c8:Int)/\rZ/\rE ((wrap i64 (v0+1)):Int)/\True)/\(rE b.C9/\rE b.C5/\True)/\True) (Sum.inl (wrap i64 (v0+1)));.br (bg u32 (bh u32 b.C5 (wrap u64 v0)) (1:Int)==(1:Int)) (.br (decide (v0>=c8)) (.lf (Sum.inr false)) T1) T1)) (.lf (Sum.inr true))
def Uh b c8:=(L5 b c8).m
theorem Qt1(b:gv)(c8:Int):(L5 b c8).p:=by
 unfold Tree.p L5
 repeat'(first|refine fy (inv:=Qg3 b c8) (μ:=Ug b c8) ?_ (cO _) (λ_ _=>?_)|exact trivial|refine aa (λ_=>?_) (λ_=>?_)|refine ay ?_ ?_|refine cz ?_ ?_|refine ar (λ_ _=>?_)|refine ff ?_|refine fe ?_|refine And.intro ?_ ?_)
 all_goals((try simp only[Qg3,Ug]at*);exact oR)
def Qv8:bw:={
 α:=(Int)
 F:=λst a=>([(1,(lk st 1)),(2,.ptr 0 0 0),(5,.int i64 a)],[⟨true,39,2,.gen [[(cT st 2 0),(cT st 2 1)]]⟩])
 a0:=λst=>(lk st 5).toInt
 jo:=λst=>[]++[(rX st 2 0)]}
def Qr5:List (Nat×bw):=[(2,Qv8)]
def Qxe:bc:=mS 162 [] true [.agg gv.sig,.one (.int .i64)] [] (λa r=>L5 (gv.of (aC a 0)) (aq a 1)) (λX=>.bool X) (λX=>[])
theorem Qut:bn pG Qxe:=oS (.nil) Tryz.func162 Tryz.call162 [] Qr5 3 (λ_ _ _=>by kernel_rfl) (λa r=>Qt1 (gv.of (aC a 0)) (aq a 1)) (λ_ X=>by kernel_rfl)
def Yo(m:au):Tree Bool:=
.lv (wQ m.Mem) λ(x0:Int)=>.br (decide (x0<1)) (.lf false) (.br (m.B4.X.a0 !=0) (.lf false) (.br (decide (m.B4.B7.a0>31)) (.lf false) (.br (decide (m.B4.B7.a7>31)) (.lf false) (.br (decide (m.B4.B7.a6>255)) (.lf false) (.br (dE m.B4.B7.a1 (4:Int) !=(0:Int)) (.lf false) (.lv (Qin m.A7) λ(x1:Bool)=>.br (!x1) (.lf false) (.lv (T9 m.B2) λ(x2:Bool)=>.br (!x2) (.lf false) (.lv (Ub m.B1 x0) λ(x3:Bool)=>.br (!x3) (.lf false) (.lv (Ua m.C6 x0) λ(x4:Bool)=>.br (!x4) (.lf false) (.lv (Uh m.A6 x0) λ(x5:Bool)=>.br (!x5) (.lf false) (.br (decide (m.A4<=1152921504606846976)) (.br m.A9 (.lf (!m.B0)) (.lf true)) (.lf false))))))))))))
def ra m:=(Yo m).m
def Zqy:bc:=mS 101 [] true [.agg au.sig] [] (λa r=>Yo (au.of (aC a 0))) (λX=>.bool X) (λX=>[])
theorem Qsi:bn pG Zqy:=oS (.cons Sw (.cons Qvv (.cons Z0o (.cons Z5p (.cons Z76 (.cons Qut (.nil))))))) Tryz.func101 Tryz.call101 [] [] 2
def Uw(t:iX):Tree (iX×Bool):=
.br (!t.D7) (.lf (t,false)) (.lf ({D7:=false,C7:=t.C7,D6:=true},true))
def Un t:=(Uw t).m
def Zk0:bc:=mS 163 [] true [.agg iX.sig] [] (λa r=>Uw (iX.of (aC a 0))) (λX=>.du [.agg (iX.cells (X.1)),.bool (X.2)]) (λX=>[])
theorem Qza:bn pG Zk0:=oS (.nil) Tryz.func163 Tryz.call163 [] [] 2
def RY(c:iW)(b:Int):Tree (iW×Bool):=
.br (decide ((c.D5.length:Int)>=(16:Int))) (.lf (c,false)) (.cn (decide (c.D5.length+1<=maxLen)) (.lf ({D5:=c.D5++[(λ(n:Int)=>eX n.toNat) b]},true)))
def Qv c b:=(RY c b).m
abbrev Qlu c b:=(RY c b).p
def Zjz:bc:=mT 164 [] true [.agg iW.sig,.one (.int .u8)] [] (λa r=>RY (iW.of (aC a 0)) (aq a 1)) (λX=>.du [.agg (iW.cells (X.1)),.bool (X.2)]) (λX=>[])
theorem Qyu:bn pG Zjz:=oT (.nil) Tryz.func164 Tryz.call164 [] [] 2
def OZ(m:List Int)(frame:Int):Tree Bool:=
.lv (wQ m) λ(x0:Int)=>.lf (decide (wrap u64 frame<wrap u64 x0))
def nZ m frame:=(OZ m frame).m
def Zko:bc:=mS 237 [] true [.one (.ints .u32),.one (.int .u32)] [] (λa r=>OZ (ei .u32 a 0) (aq a 1)) (λX=>.bool X) (λX=>[])
theorem Sx:bn pG Zko:=oS (.cons Sw (.nil)) Tryz.func237 Tryz.call237 [] [] 2
def Jo(m:List Int)(addr size v:Int):Tree (List Int):=
let E1:=bT 1 1&&bJ 0 1&&decide (0<=wrap u32 (eU addr 4)/\wrap u32 (eU addr 4)<(m.length:Int));let E2:=dF (wrap u32 (eU addr 4));.br (size==4) (.cn E1 (.lf (dG m E2 v))) (.cn E1 (let E3:=decide (0<=wrap u32 (8*dE addr 4));.cn E3 (.cn E3 (.cn E1 (.lf (dG m E2 (ir u32 (nY u32 (m.getD E2 0) (eh u32 255 (wrap u32 (8*dE addr 4)))) (eh u32 (bg u32 v 255) (wrap u32 (8*dE addr 4))))))))))
def Bv m addr size v:=(Jo m addr size v).m
abbrev TO m addr size v:=(Jo m addr size v).p
def Zp:bc:=mT 278 [true,false,false,false] true [.one (.row 0),.one (.int .u32),.one (.int .i64),.one (.int .u32)] [.arr 23 1 (.ints .u32)] (λa r=>Jo (gk .u32 r 0) (aq a 1) (aq a 2) (aq a 3)) (λX=>.du []) (λX=>[⟨false,23,1,.ints .u32 X⟩])
theorem Z4q:bn pG Zp:=oT (.nil) Tryz.func278 Tryz.call278 [] [] 2
def XQ(m:List Int)(frame:Int)(s:List UInt8)(z:(Int)×(List Int)):Nat:=(128-z.1).toNat
def Hb(m:List Int)(frame:Int)(s:List UInt8):Tree (List Int):=
.lp inferInstance (XQ m frame s (0,m)+1) ((True/\rE (frame:Int)/\rE (s:List UInt8)/\rE (0:Int)/\True)/\rE (m:List Int)/\True) (0,m) λ(v0:Int×List Int)=>.br (decide (v0.1<(s.length:Int))) (.br (decide (v0.1<128)) (.cn (decide (0<=v0.1/\v0.1<(s.length:Int))) (let E1:=wrap u32 (↑(eW (s.getD v0.1.toNat (0:UInt8))):Int);let E2:=wrap u32 (wrap i64 (wrap i64 (frame*128)+v0.1));.an (TO v0.2 E2 1 E1) (.lv (Bv v0.2 E2 1 E1) λ(x0:List Int)=>.nx ((True/\rE (frame:Int)/\rE (s:List UInt8)/\rE ((wrap i64 (v0.1+1)):Int)/\True)/\rE (x0:List Int)/\True) (Sum.inl (wrap i64 (v0.1+1),x0))))) (.lf (Sum.inr v0.2))) (.lf (Sum.inr v0.2))
def OG m frame s:=(Hb m frame s).m
abbrev Qmh m frame s:=(Hb m frame s).p
def Zg8:bw:={
 α:=(Int)×(List Int)
 F:=λst a=>([(0,.all 0),(1,(lk st 1)),(2,(lk st 2)),(6,.int i64 a.1)],[⟨false,23,1,.ints u32 a.2⟩])
 a0:=λst=>((lk st 6).toInt,(o4 st.rows 0))
 jo:=λst=>[0]++[]}
def Z6v:List (Nat×bw):=[(1,Zg8)]
def Zj3:bc:=mT 238 [true,false,false] true [.one (.row 0),.one (.int .i64),.one (.str)] [.arr 23 1 (.ints .u32)] (λa r=>Hb (gk .u32 r 0) (aq a 1) (iq a 2)) (λX=>.du []) (λX=>[⟨false,23,1,.ints .u32 X⟩])
theorem Qzd:bn pG Zj3:=oT (.cons Z4q (.nil)) Tryz.func238 Tryz.call238 [] Z6v 3
def Hn(d0:fp)(m:List Int)(e:gx):Tree (fp×Bool×(List Int)):=
.br (d0.C0 !=1) (.lf (d0,false,m)) (.br (e.C3 !=4) (.lf (d0,false,m)) (.br (decide (e.N>1)) (.lf (d0,false,m)) (let E4:=({ag:=d0.ag,C4:=d0.C4,Frame:=d0.Frame,C0:=2,D8:=0,B9:=0,B5:=0,C1:=[]}:fp);let E5:=({ag:=d0.ag,C4:=d0.C4,Frame:=d0.Frame,C0:=3,D8:=0,B9:=0,B5:=0,C1:=[]}:fp);let T2:Tree ((fp×Bool×(List Int))):=.br (e.N==1) (.lf (E4,true,m)) (.lf (E5,true,m));let E6:=decide ((e.D2.length:Int)>(0:Int));.br (e.N==1) (let T1:Tree ((fp×Bool×(List Int))):=.br (d0.D8==1) (.an (Qmh m (wrap i64 d0.B5) e.D2) (.lv (OG m (wrap i64 d0.B5) e.D2) λ(x1:List Int)=>.br (e.N==1) (.lf (E4,true,x1)) (.lf (E5,true,x1)))) T2;let T3:Tree ((fp×Bool×(List Int))):=.br (!d0.D8==1) (.br E6 (.lf (d0,false,m)) T1) T1;.br (d0.D8==1) (.br ((e.D2.length:Int) !=(128:Int)) (.lf (d0,false,m)) (.lv (nZ m d0.B5) λ(x0:Bool)=>.br (!x0) (.lf (d0,false,m)) T3)) T3) (.br E6 (.lf (d0,false,m)) T2))))
def Ju d0 m e:=(Hn d0 m e).m
abbrev Qhn d0 m e:=(Hn d0 m e).p
def Zcl:bc:=mT 165 [false,true,false] true [.agg fp.sig,.one (.row 0),.agg gx.sig] [.arr 23 1 (.ints .u32)] (λa r=>Hn (fp.of (aC a 0)) (gk .u32 r 0) (gx.of (aC a 2))) (λX=>.du [.agg (fp.cells (X.1)),.bool (X.2.1)]) (λX=>[⟨false,23,1,.ints .u32 (X.2.2)⟩])
theorem Qs3:bn pG Zcl:=oT (.cons Sx (.cons Qzd (.nil))) Tryz.func165 Tryz.call165 [] [] 2
def L3(n:ia)(m:List Int)(frame:List UInt8):Tree (ia×Bool×(List Int)):=
.br (!n.C8) (.lf (n,false,m)) (.br (decide ((frame.length:Int)<(1:Int))) (.lf (n,false,m)) (.br (decide ((frame.length:Int)>(128:Int))) (.lf (n,false,m)) (.lv (nZ m n.C2) λ(x0:Bool)=>.br (!x0) (.lf (n,false,m)) (.an (Qmh m (wrap i64 n.C2) frame) (.lv (OG m (wrap i64 n.C2) frame) λ(x1:List Int)=>.lf ({Frame:=n.Frame,F1:=n.F1,C8:=false,C2:=0,B8:=true,F4:=wrap u32 (frame.length:Int)},true,x1))))))
def L2 n m frame:=(L3 n m frame).m
abbrev Qhl n m frame:=(L3 n m frame).p
def Zb7:bc:=mT 166 [false,true,false] true [.agg ia.sig,.one (.row 0),.one (.str)] [.arr 23 1 (.ints .u32)] (λa r=>L3 (ia.of (aC a 0)) (gk .u32 r 0) (iq a 2)) (λX=>.du [.agg (ia.cells (X.1)),.bool (X.2.1)]) (λX=>[⟨false,23,1,.ints .u32 (X.2.2)⟩])
theorem Qrs:bn pG Zb7:=oT (.cons Sx (.cons Qzd (.nil))) Tryz.func166 Tryz.call166 [] [] 2
def FI(m:au)(e:gx):Tree (Bool×au):=
.br m.B0 (.lf (false,m)) (let T1:Tree ((Bool×au)):=.br (e.C3==4) (.an (Qhn m.B1 m.Mem e) (.lv (Ju m.B1 m.Mem e) λ(x2:fp×Bool×List Int)=>.lf (x2.2.1,{B4:=m.B4,Mem:=x2.2.2,A7:=m.A7,B2:=m.B2,B1:=x2.1,C6:=m.C6,A6:=m.A6,A4:=m.A4,A9:=m.A9,B0:=m.B0}))) (let T3:Tree ((Bool×au)):=.br (e.C3==6) (.br (decide (e.D2=[])) (.lf (true,{B4:=m.B4,Mem:=m.Mem,A7:=m.A7,B2:=m.B2,B1:=m.B1,C6:=m.C6,A6:={C9:=e.N,C5:=m.A6.C5},A4:=m.A4,A9:=m.A9,B0:=m.B0})) (.lf (false,m))) (.lf (false,m));.br (e.C3==5) (.br (e.N==0) (.an (Qhl m.C6 m.Mem e.D2) (.lv (L2 m.C6 m.Mem e.D2) λ(x3:ia×Bool×List Int)=>.lf (x3.2.1,{B4:=m.B4,Mem:=x3.2.2,A7:=m.A7,B2:=m.B2,B1:=m.B1,C6:=x3.1,A6:=m.A6,A4:=m.A4,A9:=m.A9,B0:=m.B0}))) T3) T3);let T2:Tree ((Bool×au)):=.br (e.C3==3) (.br (decide (e.N<=255)) (.br (decide (e.D2=[])) (.an (Qlu m.A7 (wrap u8 e.N)) (.lv (Qv m.A7 (wrap u8 e.N)) λ(x1:iW×Bool)=>.lf (x1.2,{B4:=m.B4,Mem:=m.Mem,A7:=x1.1,B2:=m.B2,B1:=m.B1,C6:=m.C6,A6:=m.A6,A4:=m.A4,A9:=m.A9,B0:=m.B0}))) T1) T1) T1;.br (e.C3==2) (.br (e.N==0) (.br (decide (e.D2=[])) (.lv (Un m.B2) λ(x0:iX×Bool)=>.lf (x0.2,{B4:=m.B4,Mem:=m.Mem,A7:=m.A7,B2:=x0.1,B1:=m.B1,C6:=m.C6,A6:=m.A6,A4:=m.A4,A9:=m.A9,B0:=m.B0})) T2) T2) T2)
def ly m e:=(FI m e).m
abbrev Qrh m e:=(FI m e).p
def Zgq:bc:=mT 103 [true,false] true [.ptr 0,.agg gx.sig] [.box 42 49 (au.kS (.row 1)),.arr 23 1 (.ints .u32)] (λa r=>FI (au.rl (r.getD 0 default).cs (gk .u32 r 1)) (gx.of (aC a 1))) (λX=>.bool (X.1)) (λX=>[⟨true,42,49,.gen [(au.fg (X.2) (.all 1))]⟩,⟨false,23,1,.ints .u32 (X.2).Mem⟩])
theorem Zd:bn pG Zgq:=oT (.cons Qza (.cons Qyu (.cons Qs3 (.cons Qrs (.nil))))) Tryz.func103 Tryz.call103 [.row 23 1 (.ints .u32)] [] 2
def Mh(m:cy)(e:gx):Tree (Bool×cy):=
.br m.A0.B0 (.lf (false,m)) (let T1:Tree ((Bool×cy)):=.br (e.C3==4) (.an (Qhn m.A0.B1 m.A0.Mem e) (.lv (Ju m.A0.B1 m.A0.Mem e) λ(x2:fp×Bool×List Int)=>.lf (x2.2.1,{A0:={B4:=m.A0.B4,Mem:=x2.2.2,A7:=m.A0.A7,B2:=m.A0.B2,B1:=x2.1,C6:=m.A0.C6,A6:=m.A0.A6,A4:=m.A0.A4,A9:=m.A0.A9,B0:=m.A0.B0},B6:=m.B6,D0:=m.D0,B3:=m.B3}))) (let T3:Tree ((Bool×cy)):=.br (e.C3==6) (.br (decide (e.D2=[])) (.lf (true,{A0:={B4:=m.A0.B4,Mem:=m.A0.Mem,A7:=m.A0.A7,B2:=m.A0.B2,B1:=m.A0.B1,C6:=m.A0.C6,A6:={C9:=e.N,C5:=m.A0.A6.C5},A4:=m.A0.A4,A9:=m.A0.A9,B0:=m.A0.B0},B6:=m.B6,D0:=m.D0,B3:=m.B3})) (.lf (false,m))) (.lf (false,m));.br (e.C3==5) (.br (e.N==0) (.an (Qhl m.A0.C6 m.A0.Mem e.D2) (.lv (L2 m.A0.C6 m.A0.Mem e.D2) λ(x3:ia×Bool×List Int)=>.lf (x3.2.1,{A0:={B4:=m.A0.B4,Mem:=x3.2.2,A7:=m.A0.A7,B2:=m.A0.B2,B1:=m.A0.B1,C6:=x3.1,A6:=m.A0.A6,A4:=m.A0.A4,A9:=m.A0.A9,B0:=m.A0.B0},B6:=m.B6,D0:=m.D0,B3:=m.B3}))) T3) T3);let T2:Tree ((Bool×cy)):=.br (e.C3==3) (.br (decide (e.N<=255)) (.br (decide (e.D2=[])) (.an (Qlu m.A0.A7 (wrap u8 e.N)) (.lv (Qv m.A0.A7 (wrap u8 e.N)) λ(x1:iW×Bool)=>.lf (x1.2,{A0:={B4:=m.A0.B4,Mem:=m.A0.Mem,A7:=x1.1,B2:=m.A0.B2,B1:=m.A0.B1,C6:=m.A0.C6,A6:=m.A0.A6,A4:=m.A0.A4,A9:=m.A0.A9,B0:=m.A0.B0},B6:=m.B6,D0:=m.D0,B3:=m.B3}))) T1) T1) T1;.br (e.C3==2) (.br (e.N==0) (.br (decide (e.D2=[])) (.lv (Un m.A0.B2) λ(x0:iX×Bool)=>.lf (x0.2,{A0:={B4:=m.A0.B4,Mem:=m.A0.Mem,A7:=m.A0.A7,B2:=x0.1,B1:=m.A0.B1,C6:=m.A0.C6,A6:=m.A0.A6,A4:=m.A0.A4,A9:=m.A0.A9,B0:=m.A0.B0},B6:=m.B6,D0:=m.D0,B3:=m.B3})) T2) T2) T2)
def YC m e:=(Mh m e).m
abbrev Qn8 m e:=(Mh m e).p
def Z6g:bc:=mT 103 [true,false] true [.ptr 0,.agg gx.sig] [.box 154 52 (cy.kS (.row 1) (.row 2) (.row 3)),.arr 23 1 (.ints .u32),.arr 103 4 (.av .ab),.arr 72 3 (.av .bd)] (λa r=>Mh (cy.rl (r.getD 0 default).cs (gk .u32 r 1) (jQ .ab r 2) (jQ .bd r 3)) (gx.of (aC a 1))) (λX=>.bool (X.1)) (λX=>[⟨true,154,52,.gen [(cy.fg (X.2) (.all 1) (.all 2) (.all 3))]⟩,⟨false,23,1,.ints .u32 (X.2).A0.Mem⟩,⟨false,103,4,.av .ab (X.2).D0⟩,⟨false,72,3,.av .bd (X.2).B3⟩])
theorem Z4t:bn pG Z6g:=oT (.cons Qza (.cons Qyu (.cons Qs3 (.cons Qrs (.nil))))) Tryz.func103 Tryz.call103 [.row 23 1 (.ints .u32),.row 103 4 (.av .ab),.row 72 3 (.av .bd)] [] 2
def Mk(m:cy)(e:gx):Tree (Bool×cy):=
.an (Qn8 m e) (.lv (YC m e) λ(x0:Bool×cy)=>.lf (x0.1,x0.2))
def YD m e:=(Mk m e).m
abbrev Qkt m e:=(Mk m e).p
def Z5g:bc:=mT 303 [true,false] true [.ptr 0,.agg gx.sig] [.box 154 52 (cy.kS (.row 1) (.row 2) (.row 3)),.arr 23 1 (.ints .u32),.arr 103 4 (.av .ab),.arr 72 3 (.av .bd)] (λa r=>Mk (cy.rl (r.getD 0 default).cs (gk .u32 r 1) (jQ .ab r 2) (jQ .bd r 3)) (gx.of (aC a 1))) (λX=>.bool (X.1)) (λX=>[⟨true,154,52,.gen [(cy.fg (X.2) (.all 1) (.all 2) (.all 3))]⟩,⟨false,23,1,.ints .u32 (X.2).A0.Mem⟩,⟨false,103,4,.av .ab (X.2).D0⟩,⟨false,72,3,.av .bd (X.2).B3⟩])
theorem Qzw:bn pG Z5g:=oT (.cons Z4t (.nil)) Tryz.func303 Tryz.call303 [.row 23 1 (.ints .u32),.row 103 4 (.av .ab),.row 72 3 (.av .bd)] [] 2
def Ml(r:cy)(e:gx):Tree cy:=
.an (Qkt r e) (.lv (YD r e) λ(x0:Bool×cy)=>.br x0.1 (.cn (decide (40*(x0.2.D0.length+1)<=140737488355328)) (.lf ({A0:=x0.2.A0,B6:=x0.2.B6,D0:=x0.2.D0++[{At:=x0.2.A0.A4,D1:=e}],B3:=x0.2.B3}))) (.lf x0.2))
def Pb r e:=(Ml r e).m
abbrev Qiq r e:=(Ml r e).p
def Zdg:bc:=mh 1 264 [true,false] [.ptr 0,.agg gx.sig] [.box 154 52 (cy.kS (.row 1) (.row 2) (.row 3)),.arr 23 1 (.ints .u32),.arr 103 4 (.av .ab),.arr 72 3 (.av .bd)] (λa r=>Qiq (cy.rl (r.getD 0 default).cs (gk .u32 r 1) (jQ .ab r 2) (jQ .bd r 3)) (gx.of (aC a 1))) (λa r=>Pb (cy.rl (r.getD 0 default).cs (gk .u32 r 1) (jQ .ab r 2) (jQ .bd r 3)) (gx.of (aC a 1))) (λX=>.du []) (λX=>[⟨true,154,52,.gen [(cy.fg X (.all 1) (.all 2) (.all 3))]⟩,⟨false,23,1,.ints .u32 X.A0.Mem⟩,⟨false,103,4,.av .ab X.D0⟩,⟨false,72,3,.av .bd X.B3⟩])
theorem Z6i:bn pG Zdg:=EF drawn mX (.cons Qzw (.nil)) Tryz.func264 Tryz.call264 (λa r=>Ml (cy.rl (r.getD 0 default).cs (gk .u32 r 1) (jQ .ab r 2) (jQ .bd r 3)) (gx.of (aC a 1))) [.row 23 1 (.ints .u32),.row 103 4 (.av .ab),.row 72 3 (.av .bd)] [] 2 (λ_ _ _=>by kernel_rfl) (λ_ _=>rfl) (λ_ _ h=>h)
def RR(is:Bool)(n:Int):Tree Int:=
.br is (.cn (decide (0<=wrap u64 n)) (.lf (eh u32 1 (wrap u64 n)))) (.lf 0)
def Er is n:=(RR is n).m
abbrev Sy is n:=(RR is n).p
def Zlv:bc:=mT 292 [] true [.one (.bool),.one (.int .i64)] [] (λa r=>RR (wa a 0) (aq a 1)) (λX=>.int .u32 X) (λX=>[])
theorem Zee:bn pG Zlv:=oT (.nil) Tryz.func292 Tryz.call292 [] [] 2
def Qhj(t:iX):Tree Bool:=
.lf t.D6
def Yr t:=(Qhj t).m
def Qsy:bc:=mS 293 [] true [.agg iX.sig] [] (λa r=>Qhj (iX.of (aC a 0))) (λX=>.bool X) (λX=>[])
theorem Qr0:bn pG Qsy:=oS (.nil) Tryz.func293 Tryz.call293 [] [] 2
def Qeo(c:iW):Tree Bool:=
.lf (decide ((c.D5.length:Int)>(0:Int)))
def Ud c:=(Qeo c).m
def Qoj:bc:=mS 294 [] true [.agg iW.sig] [] (λa r=>Qeo (iW.of (aC a 0))) (λX=>.bool X) (λX=>[])
theorem Qnl:bn pG Qoj:=oS (.nil) Tryz.func294 Tryz.call294 [] [] 2
def Qjq(d0:fp):Tree Bool:=
.br (d0.C0==2) (.lf true) (.lf (d0.C0==3))
def Ys d0:=(Qjq d0).m
def Qw2:bc:=mS 295 [] true [.agg fp.sig] [] (λa r=>Qjq (fp.of (aC a 0))) (λX=>.bool X) (λX=>[])
theorem Qsd:bn pG Qw2:=oS (.nil) Tryz.func295 Tryz.call295 [] [] 2
def Qlb(n:ia):Tree Bool:=
.lf n.B8
def Yt n:=(Qlb n).m
def Qyd:bc:=mS 296 [] true [.agg ia.sig] [] (λa r=>Qlb (ia.of (aC a 0))) (λX=>.bool X) (λX=>[])
theorem Qvy:bn pG Qyd:=oS (.nil) Tryz.func296 Tryz.call296 [] [] 2
def Qpw(b:gv)(z:(Int)×(Int)):Prop:=0<=z.2/\z.2<=32
def Qfr(b:gv)(z:(Int)×(Int)):Nat:=(32-z.2).toNat
def Wg(b:gv):Tree Int:=
.lp inferInstance (Qfr b (0,0)+1) ((rZ/\rE (0:Int)/\rE (0:Int)/\True)/\(rE b.C9/\rE b.C5/\True)/\True) (0,0) λ(v0:Int×Int)=>.br (decide (v0.2<32)) (.cn (decide (0<=wrap u64 v0.2)) (.nx ((rZ/\rE ((wrap i64 (v0.1+wrap i64 (bg u32 (bh u32 b.C5 (wrap u64 v0.2)) 1))):Int)/\rE ((wrap i64 (v0.2+1)):Int)/\True)/\(rE b.C9/\rE b.C5/\True)/\True) (Sum.inl (wrap i64 (v0.1+wrap i64 (bg u32 (bh u32 b.C5 (wrap u64 v0.2)) 1)),wrap i64 (v0.2+1))))) (.lf (Sum.inr v0.1))
def L0 b:=(Wg b).m
theorem Z64(b:gv):(Wg b).p:=by
 unfold Tree.p Wg
 repeat'(first|refine fy (inv:=Qpw b) (μ:=Qfr b) ?_ (cO _) (λ_ _=>?_)|exact trivial|refine aa (λ_=>?_) (λ_=>?_)|refine ay ?_ ?_|refine cz ?_ ?_|refine ar (λ_ _=>?_)|refine ff ?_|refine fe ?_|refine And.intro ?_ ?_)
 all_goals((try simp only[Qpw,Qfr]at*);exact oR)
def Zao:bw:={
 α:=(Int)×(Int)
 F:=λst a=>([(1,.ptr 0 0 0),(3,.int i64 a.1),(4,.int i64 a.2)],[⟨true,39,2,.gen [[(cT st 1 0),(cT st 1 1)]]⟩])
 a0:=λst=>((lk st 3).toInt,(lk st 4).toInt)
 jo:=λst=>[]++[(rX st 1 0)]}
def Z4w:List (Nat×bw):=[(3,Zao)]
def Zie:bc:=mS 282 [] true [.agg gv.sig] [] (λa r=>Wg (gv.of (aC a 0))) (λX=>.int .i64 X) (λX=>[])
theorem Quh:bn pG Zie:=oS (.nil) Tryz.func282 Tryz.call282 [] Z4w 3 (λ_ _ _=>by kernel_rfl) (λa r=>Z64 (gv.of (aC a 0))) (λ_ X=>by kernel_rfl)
def Yk(b:gv):Tree Bool:=
.lv (L0 b) λ(x0:Int)=>.lf (wrap u64 x0 !=wrap u64 b.C9)
def O3 b:=(Yk b).m
def Qpo:bc:=mS 297 [] true [.agg gv.sig] [] (λa r=>Yk (gv.of (aC a 0))) (λX=>.bool X) (λX=>[])
theorem Qnm:bn pG Qpo:=oS (.cons Quh (.nil)) Tryz.func297 Tryz.call297 [] [] 2
def RS(m:au):Tree Int:=
.lv (Yr m.B2) λ(x0:Bool)=>.an (Sy x0 0) (.lv (Er x0 0) λ(x1:Int)=>.lv (Ud m.A7) λ(x2:Bool)=>.an (Sy x2 1) (.lv (Er x2 1) λ(x3:Int)=>.lv (Ys m.B1) λ(x4:Bool)=>.an (Sy x4 2) (.lv (Er x4 2) λ(x5:Int)=>.lv (Yt m.C6) λ(x6:Bool)=>.an (Sy x6 3) (.lv (Er x6 3) λ(x7:Int)=>.lv (O3 m.A6) λ(x8:Bool)=>.an (Sy x8 4) (.lv (Er x8 4) λ(x9:Int)=>.lf (ir u32 (ir u32 (ir u32 (ir u32 x1 x3) x5) x7) x9))))))
def O6 m:=(RS m).m
abbrev Qs9 m:=(RS m).p
def Zi7:bc:=mT 239 [] true [.agg au.sig] [] (λa r=>RS (au.of (aC a 0))) (λX=>.int .u32 X) (λX=>[])
theorem Zbb:bn pG Zi7:=oT (.cons Zee (.cons Qr0 (.cons Qnl (.cons Qsd (.cons Qvy (.cons Qnm (.nil))))))) Tryz.func239 Tryz.call239 [] [] 2
def Ma(m:au):Tree Int:=
.an (Qs9 m) (.lv (O6 m) λ(x0:Int)=>.lf (bg u32 x0 m.B4.B7.a7))
def Bx m:=(Ma m).m
abbrev Qfg m:=(Ma m).p
def Z79:bc:=mT 167 [] true [.agg au.sig] [] (λa r=>Ma (au.of (aC a 0))) (λX=>.int .u32 X) (λX=>[])
theorem Qpl:bn pG Z79:=oT (.cons Zbb (.nil)) Tryz.func167 Tryz.call167 [] [] 2
def Mb(m:au):Tree Bool:=
.br m.A9 (.an (Qfg m) (.lv (Bx m) λ(x0:Int)=>.lf (x0==0))) (.lf false)
def sZ m:=(Mb m).m
abbrev Qmn m:=(Mb m).p
def Zlh:bc:=mT 104 [] true [.agg au.sig] [] (λa r=>Mb (au.of (aC a 0))) (λX=>.bool X) (λX=>[])
theorem Qyq:bn pG Zlh:=oT (.cons Qpl (.nil)) Tryz.func104 Tryz.call104 [] [] 2
def Jy(m:au):Tree Bool:=
.lv (ra m) λ(x0:Bool)=>.br (!x0) (.lf true) (.br m.B0 (.lf true) (.an (Qmn m) (.lv (sZ m) λ(x1:Bool)=>.br x1 (.lf true) (.lf (decide (m.A4>=1152921504606846976))))))
def nm m:=(Jy m).m
abbrev V7 m:=(Jy m).p
def Zei:bc:=mT 88 [] true [.agg au.sig] [] (λa r=>Jy (au.of (aC a 0))) (λX=>.bool X) (λX=>[])
theorem Qvt:bn pG Zei:=oT (.cons Qsi (.cons Qyq (.nil))) Tryz.func88 Tryz.call88 [] [] 2
end
noncomputable section
def Z9c(b:Bool):Tree Int:=
.br b (.lf 1) (.lf 0)
def CA b:=(Z9c b).m
def Zps:bc:=mS 269 [] true [.one (.bool)] [] (λa r=>Z9c (wa a 0)) (λX=>.int .u32 X) (λX=>[])
theorem Qsp:bn pG Zps:=oS (.nil) Tryz.func269 Tryz.call269 [] [] 2
def OM(c:bj)(oU bad:Int):Tree bj:=
.lv (CA (bg u32 c.B7.a0 (1:Int) !=(0:Int))) λ(x0:Int)=>.lv (CA (bg u32 c.B7.a0 (2:Int) !=(0:Int))) λ(x1:Int)=>.lf ({X:=c.X,Pc:=c.B7.a1,B7:={a0:=ir u32 (nY u32 (ir u32 (ir u32 (nY u32 c.B7.a0 24) (wrap u32 (8*x0))) (wrap u32 (16*x1))) 2) 1,a1:=c.B7.a1,a2:=c.Pc,a3:=wrap u32 oU,a4:=bad,a5:=c.B7.a5,a6:=c.B7.a6,a7:=c.B7.a7}})
def pY c oU bad:=(OM c oU bad).m
def Zkx:bc:=mS 208 [] true [.agg bj.sig,.one (.int .i64),.one (.int .u32)] [] (λa r=>OM (bj.of (aC a 0)) (aq a 1) (aq a 2)) (λX=>.agg (bj.cells X)) (λX=>[])
theorem Wh:bn pG Zkx:=oS (.cons Qsp (.nil)) Tryz.func208 Tryz.call208 [] [] 2
def Jp(m:List Int)(addr size:Int):Tree Bool:=
let T1:Tree (Bool):=.cn (decide (wrap u32 size≠0)) (.br (dE addr (wrap u32 size)==0) (.lv (wQ m) λ(x0:Int)=>.lf (decide (addr<wrap u32 (wrap i64 (128*x0))))) (.lf false));.br (size !=1) (.br (size !=4) (.lf false) T1) T1
def r8 m addr size:=(Jp m addr size).m
abbrev Qd0 m addr size:=(Jp m addr size).p
def Zcs:bc:=mT 240 [] true [.one (.ints .u32),.one (.int .u32),.one (.int .i64)] [] (λa r=>Jp (ei .u32 a 0) (aq a 1) (aq a 2)) (λX=>.bool X) (λX=>[])
theorem Qjw:bn pG Zcs:=oT (.cons Sw (.nil)) Tryz.func240 Tryz.call240 [] [] 2
def AP(m:List Int)(addr size:Int):Tree (Int×Bool):=
.an (Qd0 m addr size) (.lv (r8 m addr size) λ(x0:Bool)=>.br (!x0) (.lf (0,false)) (.cn (bT 1 1&&bJ 0 1&&decide (0<=wrap u32 (eU addr 4)/\wrap u32 (eU addr 4)<(m.length:Int))) (.br (size==1) (.cn (decide (0<=wrap u32 (8*dE addr 4))) (.lf (bg u32 (bh u32 (m.getD (dF (wrap u32 (eU addr 4))) 0) (wrap u32 (8*dE addr 4))) 255,true))) (.lf (m.getD (dF (wrap u32 (eU addr 4))) 0,true)))))
def kP m addr size:=(AP m addr size).m
abbrev Wi m addr size:=(AP m addr size).p
def Zl4:bc:=mT 168 [] true [.one (.ints .u32),.one (.int .u32),.one (.int .i64)] [] (λa r=>AP (ei .u32 a 0) (aq a 1) (aq a 2)) (λX=>.du [.int .u32 (X.1),.bool (X.2)]) (λX=>[])
theorem Qp2:bn pG Zl4:=oT (.cons Qjw (.nil)) Tryz.func168 Tryz.call168 [] [] 2
def Ha(w:Int):Tree (gu×Bool):=
.lv (o8 (wrap i64 (bh u32 w 24))) λ(x0:Int)=>let E5:=({Op:=0,A:=0,B:=0,C:=0,bq:=0}:gu);.br (x0==0) (.lf (E5,false)) (.br (x0==2) (let E3:=({Op:=wrap i64 (bh u32 w 24),A:=wrap i64 (bg u32 (bh u32 w 20) 15),B:=wrap i64 (bg u32 (bh u32 w 16) 15),C:=wrap i64 (bg u32 w 65535),bq:=0}:gu);.lv (Eh E3) λ(x1:Bool)=>.br (!x1) (.lf (E5,false)) (.lf (E3,true))) (let T1:Tree ((gu×Bool)):=let E2:=({Op:=wrap i64 (bh u32 w 24),A:=wrap i64 (bg u32 (bh u32 w 20) 15),B:=wrap i64 (bg u32 (bh u32 w 16) 15),C:=0,bq:=wrap i32 (wrap i16 (bg u32 w 65535))}:gu);.lv (Eh E2) λ(x2:Bool)=>.br (!x2) (.lf (E5,false)) (.lf (E2,true));.br (x0==3) T1 (.br (x0==7) T1 (let E4:=({Op:=wrap i64 (bh u32 w 24),A:=wrap i64 (bg u32 (bh u32 w 20) 15),B:=wrap i64 (bg u32 (bh u32 w 16) 15),C:=0,bq:=wrap i32 (bg u32 w 65535)}:gu);.lv (Eh E4) λ(x4:Bool)=>.br (!x4) (.lf (E5,false)) (.lf (E4,true))))))
def rD w:=(Ha w).m
def Zde:bc:=mS 169 [] true [.one (.int .u32)] [] (λa r=>Ha (aq a 0)) (λX=>.du [.agg (gu.cells (X.1)),.bool (X.2)]) (λX=>[])
theorem Qrd:bn pG Zde:=oS (.cons Si (.cons Qu2 (.nil))) Tryz.func169 Tryz.call169 [] [] 2
def Qzq(access:Int):Tree Bool:=
.br (decide (access>=1)) (.lf (decide (access<=3))) (.lf false)
def LO access:=(Qzq access).m
def Zi0:bc:=mS 270 [] true [.one (.int .i64)] [] (λa r=>Qzq (aq a 0)) (λX=>.bool X) (λX=>[])
theorem Qts:bn pG Zi0:=oS (.nil) Tryz.func270 Tryz.call270 [] [] 2
def Qzg(c:bj):Tree Bool:=
.lf (bg u32 c.B7.a0 (5:Int)==(4:Int))
def TV c:=(Qzg c).m
def Zgz:bc:=mS 271 [] true [.agg bj.sig] [] (λa r=>Qzg (bj.of (aC a 0))) (λX=>.bool X) (λX=>[])
theorem Zal:bn pG Zgz:=oS (.nil) Tryz.func271 Tryz.call271 [] [] 2
def LX(access:Int):Tree Int:=
.br (access==1) (.lf 4) (.br (access==3) (.lf 6) (.lf 5))
def tQ access:=(LX access).m
def Z6u:bc:=mS 272 [] true [.one (.int .i64)] [] (λa r=>LX (aq a 0)) (λX=>.int .i64 X) (λX=>[])
theorem Qon:bn pG Z6u:=oS (.nil) Tryz.func272 Tryz.call272 [] [] 2
def Hf(m:List Int)(root va access:Int):Tree rS:=
.lv (tQ access) λ(x0:Int)=>.lv (wQ m) λ(x1:Int)=>.lv (LO access) λ(x2:Bool)=>let E4:=({Addr:=0,F6:=0,F5:=x0}:rS);.br (!x2) (.lf (E4)) (.br (decide (va>=4096)) (.lf (E4)) (.br (decide (root>=wrap u32 x1)) (.lf (E4)) (let E6:=wrap u32 (root*128)+wrap u32 (4*wrap u32 (eU va 128));let E3:=eU (wrap u32 E6) 4;.cn (bT 1 1&&bJ 0 1&&decide (0<=wrap u32 E3/\wrap u32 E3<(m.length:Int))) (let E5:=m.getD (dF (wrap u32 E3)) 0;.br (bg u32 E5 (1:Int)==(0:Int)) (.lf (E4)) (let T1:Tree (rS):=.br (decide (bg u32 (bh u32 E5 8) 255>=wrap u32 x1)) (.lf (E4)) (.lf ({Addr:=wrap u32 (wrap u32 (bg u32 (bh u32 E5 8) (255:Int)*(128:Int))+dE va 128),F6:=wrap u32 E6,F5:=0}));let T2:Tree (rS):=.br (access==1) (.br (bg u32 E5 (4:Int)==(0:Int)) (.lf (E4)) T1) T1;.br (access==3) (.br (bg u32 E5 (2:Int)==(0:Int)) (.lf (E4)) T2) T2)))))
def AQ m root va access:=(Hf m root va access).m
abbrev Qug m root va access:=(Hf m root va access).p
def Zj0:bc:=mT 273 [] true [.one (.ints .u32),.one (.int .u32),.one (.int .u32),.one (.int .i64)] [] (λa r=>Hf (ei .u32 a 0) (aq a 1) (aq a 2) (aq a 3)) (λX=>.agg (rS.cells X)) (λX=>[])
theorem Zic:bn pG Zj0:=oT (.cons Qon (.cons Sw (.cons Qts (.nil)))) Tryz.func273 Tryz.call273 [] [] 2
def LR(m:List Int)(entry access:Int):Tree (List Int):=
.an (Qd0 m entry 4) (.lv (r8 m entry 4) λ(x0:Bool)=>.br (!x0) (.lf m) (let E3:=bT 1 1&&bJ 0 1&&decide (0<=wrap u32 (eU entry 4)/\wrap u32 (eU entry 4)<(m.length:Int));.cn E3 (.cn E3 (let E4:=dF (wrap u32 (eU entry 4));let E1:=dG m E4 (ir u32 (m.getD E4 0) 8);.br (access==3) (let E2:=bT 1 1&&bJ 0 1&&decide (0<=wrap u32 (eU entry 4)/\wrap u32 (eU entry 4)<(↑(dK E1):Int));.cn E2 (.cn E2 (.lf (dG E1 E4 (ir u32 (aK E1 E4 0) 16))))) (.lf E1)))))
def TT m entry access:=(LR m entry access).m
abbrev Qty m entry access:=(LR m entry access).p
def Zl0:bc:=mT 274 [true,false,false] true [.one (.row 0),.one (.int .u32),.one (.int .i64)] [.arr 23 1 (.ints .u32)] (λa r=>LR (gk .u32 r 0) (aq a 1) (aq a 2)) (λX=>.du []) (λX=>[⟨false,23,1,.ints .u32 X⟩])
theorem Zgv:bn pG Zl0:=oT (.cons Qjw (.nil)) Tryz.func274 Tryz.call274 [] [] 2
def Hh(c:bj)(m:List Int)(va size access:Int):Tree (Int×Int×(List Int)):=
.lv (LO access) λ(x0:Bool)=>.br (!x0) (.lf (0,5,m)) (let T1:Tree ((Int×Int×(List Int))):=.cn (decide (wrap u32 size≠0)) (.br (dE va (wrap u32 size) !=0) (.lf (0,3,m)) (.lv (TV c) λ(x1:Bool)=>.br (!x1) (.an (Qd0 m va size) (.lv (r8 m va size) λ(x2:Bool)=>.br (!x2) (.lv (tQ access) λ(x3:Int)=>.lf (0,x3,m)) (.lf (va,0,m)))) (.an (Qug m c.B7.a6 va access) (.lv (AQ m c.B7.a6 va access) λ(x4:rS)=>.br (x4.F5 !=0) (.lf (0,x4.F5,m)) (.an (Qty m x4.F6 access) (.lv (TT m x4.F6 access) λ(x5:List Int)=>.lf (x4.Addr,0,x5)))))));.br (size !=1) (.br (size !=4) (.lf (0,5,m)) T1) T1)
def lM c m va size access:=(Hh c m va size access).m
abbrev Sz c m va size access:=(Hh c m va size access).p
def Zhx:bc:=mT 209 [false,true,false,false,false] true [.agg bj.sig,.one (.row 0),.one (.int .u32),.one (.int .i64),.one (.int .i64)] [.arr 23 1 (.ints .u32)] (λa r=>Hh (bj.of (aC a 0)) (gk .u32 r 0) (aq a 2) (aq a 3) (aq a 4)) (λX=>.du [.int .u32 (X.1),.int .i64 (X.2.1)]) (λX=>[⟨false,23,1,.ints .u32 (X.2.2)⟩])
theorem Qvb:bn pG Zhx:=oT (.cons Qts (.cons Zal (.cons Qjw (.cons Qon (.cons Zic (.cons Zgv (.nil))))))) Tryz.func209 Tryz.call209 [] [] 2
def Qkb(op:Int):Tree Bool:=
.br (decide (op>=57)) (.lf (decide (op<=64))) (.lf false)
def G8 op:=(Qkb op).m
def Qxc:bc:=mS 210 [] true [.one (.int .i64)] [] (λa r=>Qkb (aq a 0)) (λX=>.bool X) (λX=>[])
theorem Qur:bn pG Qxc:=oS (.nil) Tryz.func210 Tryz.call210 [] [] 2
def Qd(c:bj):Tree bj:=
.lv (CA (bg u32 c.B7.a0 (8:Int) !=(0:Int))) λ(x0:Int)=>.lv (CA (bg u32 c.B7.a0 (16:Int) !=(0:Int))) λ(x1:Int)=>.lf ({X:=c.X,Pc:=c.B7.a2,B7:={a0:=ir u32 (ir u32 (nY u32 c.B7.a0 3) (wrap u32 (1*x0))) (wrap u32 (2*x1)),a1:=c.B7.a1,a2:=c.B7.a2,a3:=c.B7.a3,a4:=c.B7.a4,a5:=c.B7.a5,a6:=c.B7.a6,a7:=c.B7.a7}})
def TU c:=(Qd c).m
def Zce:bc:=mS 275 [] true [.agg bj.sig] [] (λa r=>Qd (bj.of (aC a 0))) (λX=>.agg (bj.cells X)) (λX=>[])
theorem Z6o:bn pG Zce:=oS (.cons Qsp (.nil)) Tryz.func275 Tryz.call275 [] [] 2
def Jr(c:bj)(r v:Int):Tree bj:=
.br (decide (r>0)) (.br (decide (r<16)) (.cn (bJ 0 1&&decide (0<=r/\r<(↑16:Int))) (.lf ({X:=iV.of 0 (dG (iV.l c.X) r.toNat v),Pc:=c.Pc,B7:=c.B7}))) (.lf c)) (.lf c)
def lL c r v:=(Jr c r v).m
abbrev BM c r v:=(Jr c r v).p
def Zp4:bc:=mT 145 [] true [.agg bj.sig,.one (.int .i64),.one (.int .u32)] [] (λa r=>Jr (bj.of (aC a 0)) (aq a 1) (aq a 2)) (λX=>.agg (bj.cells X)) (λX=>[])
theorem Nd:bn pG Zp4:=oT (.nil) Tryz.func145 Tryz.call145 [] [] 2
def LY(c:bj)(jt v:Int):Tree bj:=
let E4:=bJ 0 1&&decide (0<=jt/\jt<(↑8:Int));let T2:Tree (bj):=.cn E4 (.lf ({X:=c.X,Pc:=c.Pc,B7:=A8.of 0 (dG (A8.l c.B7) jt.toNat (bg u32 v 31))}));.br (jt==0) T2 (.br (jt==7) T2 (.br (jt==6) (.cn E4 (.lf ({X:=c.X,Pc:=c.Pc,B7:=A8.of 0 (dG (A8.l c.B7) jt.toNat (bg u32 v 255))}))) (let T3:Tree (bj):=.cn E4 (.lf ({X:=c.X,Pc:=c.Pc,B7:=A8.of 0 (dG (A8.l c.B7) jt.toNat (nY u32 v 3))}));.br (jt==1) T3 (.br (jt==2) T3 (let T1:Tree (bj):=.cn E4 (.lf ({X:=c.X,Pc:=c.Pc,B7:=A8.of 0 (dG (A8.l c.B7) jt.toNat v)}));.br (jt==3) T1 (.br (jt==4) T1 (.br (jt==5) T1 (.lf c))))))))
def OR c jt v:=(LY c jt v).m
abbrev Qrm c jt v:=(LY c jt v).p
def Zh7:bc:=mT 276 [] true [.agg bj.sig,.one (.int .i64),.one (.int .u32)] [] (λa r=>LY (bj.of (aC a 0)) (aq a 1) (aq a 2)) (λX=>.agg (bj.cells X)) (λX=>[])
theorem Zbj:bn pG Zh7:=oT (.nil) Tryz.func276 Tryz.call276 [] [] 2
def JD(c:bj)(i:gu):Tree (bj×kN):=
.br (i.Op==56) (.lv (pY c 7 0) λ(x0:bj)=>.lf (x0,{C3:=0,D4:=0,F3:=0,Value:=0})) (.br (i.Op==57) (.lv (TU c) λ(x1:bj)=>.lf (x1,{C3:=0,D4:=0,F3:=0,Value:=0})) (.br (i.Op==58) (.cn (bJ 0 1&&decide (0<=i.bq/\i.bq<(↑8:Int))) (let E3:=aK (A8.l c.B7) i.bq.toNat 0;.an (BM c i.A E3) (.lv (lL c i.A E3) λ(x2:bj)=>.lf ({X:=x2.X,Pc:=wrap u32 (x2.Pc+4),B7:=x2.B7},{C3:=0,D4:=0,F3:=0,Value:=0})))) (let E2:=bJ 0 1&&decide (0<=i.A/\i.A<(↑16:Int));.br (i.Op==59) (.cn E2 (let E4:=aK (iV.l c.X) i.A.toNat 0;.an (Qrm c (wrap i64 i.bq) E4) (.lv (OR c (wrap i64 i.bq) E4) λ(x3:bj)=>.lf ({X:=x3.X,Pc:=wrap u32 (x3.Pc+4),B7:=x3.B7},{C3:=0,D4:=0,F3:=0,Value:=0})))) (let E1:=({X:=c.X,Pc:=wrap u32 (c.Pc+4),B7:=c.B7}:bj);.br (i.Op==60) (.lf (E1,{C3:=1,D4:=wrap i64 i.bq,F3:=i.A,Value:=0})) (.br (i.Op==61) (.cn E2 (.lf (E1,{C3:=2,D4:=wrap i64 i.bq,F3:=0,Value:=aK (iV.l c.X) i.A.toNat 0}))) (.br (i.Op==62) (.lf (E1,{C3:=3,D4:=0,F3:=0,Value:=0})) (.br (i.Op==63) (.lf (E1,{C3:=5,D4:=0,F3:=0,Value:=0})) (.br (i.Op==64) (.lf (E1,{C3:=4,D4:=0,F3:=0,Value:=0})) (.lf (E1,{C3:=0,D4:=0,F3:=0,Value:=0}))))))))))
def TX c i:=(JD c i).m
abbrev Qpr c i:=(JD c i).p
def Ze9:bc:=mT 211 [] true [.agg bj.sig,.agg gu.sig] [] (λa r=>JD (bj.of (aC a 0)) (gu.of (aC a 1))) (λX=>.du [.agg (bj.cells (X.1)),.agg (kN.cells (X.2))]) (λX=>[])
theorem Z62:bn pG Ze9:=oT (.cons Wh (.cons Z6o (.cons Nd (.cons Zbj (.nil))))) Tryz.func211 Tryz.call211 [] [] 2
def Qzb(op a b:Int):Tree Bool:=
.br (op==40) (.lf (a==b)) (.br (op==41) (.lf (a !=b)) (.br (op==42) (.lf (decide (wrap i32 a<wrap i32 b))) (.br (op==43) (.lf (decide (wrap i32 a>=wrap i32 b))) (.br (op==44) (.lf (decide (a<b))) (.lf (decide (a>=b)))))))
def rF op a b:=(Qzb op a b).m
def Zgh:bc:=mS 277 [] true [.one (.int .i64),.one (.int .u32),.one (.int .u32)] [] (λa r=>Qzb (aq a 0) (aq a 1) (aq a 2)) (λX=>.bool X) (λX=>[])
theorem Zd1:bn pG Zgh:=oS (.nil) Tryz.func277 Tryz.call277 [] [] 2
def RN(c:bj)(i:gu):Tree bj:=
.br (i.Op==48) (.an (BM c i.A (wrap u32 (c.Pc+4))) (.lv (lL c i.A (wrap u32 (c.Pc+4))) λ(x0:bj)=>.lf ({X:=x0.X,Pc:=wrap u32 (c.Pc+wrap u32 (4*wrap u32 i.bq)),B7:=x0.B7}))) (let E1:=bJ 0 1&&decide (0<=i.B/\i.B<(↑16:Int));.br (i.Op==49) (.cn E1 (.an (BM c i.A (wrap u32 (c.Pc+4))) (.lv (lL c i.A (wrap u32 (c.Pc+4))) λ(x1:bj)=>.lf ({X:=x1.X,Pc:=wrap u32 (aK (iV.l c.X) i.B.toNat 0+wrap u32 i.bq),B7:=x1.B7})))) (.cn (bJ 0 1&&decide (0<=i.A/\i.A<(↑16:Int))) (.cn E1 (.lv (rF i.Op (aK (iV.l c.X) i.A.toNat 0) (aK (iV.l c.X) i.B.toNat 0)) λ(x2:Bool)=>.br x2 (.lf ({X:=c.X,Pc:=wrap u32 (c.Pc+wrap u32 (4*wrap u32 i.bq)),B7:=c.B7})) (.lf ({X:=c.X,Pc:=wrap u32 (c.Pc+4),B7:=c.B7}))))))
def Z2c c i:=(RN c i).m
abbrev Qub c i:=(RN c i).p
def Zkk:bc:=mT 212 [] true [.agg bj.sig,.agg gu.sig] [] (λa r=>RN (bj.of (aC a 0)) (gu.of (aC a 1))) (λX=>.agg (bj.cells X)) (λX=>[])
theorem Zfi:bn pG Zkk:=oT (.cons Nd (.cons Zd1 (.nil))) Tryz.func212 Tryz.call212 [] [] 2
def RM(x n:Int):Tree Int:=
.br (decide (n<1)) (.lf 0) (.br (decide (n>=32)) (.lf x) (.cn (decide (0<=wrap u64 n)) (.cn (decide (0<=wrap u64 (wrap i64 (n-1)))) (let E1:=bg u32 x (wrap u32 (eh u32 1 (wrap u64 n)-1));.br (bh u32 E1 (wrap u64 (wrap i64 (n-1)))==1) (.cn (decide (0<=wrap u64 n)) (.lf (ir u32 E1 (eh u32 4294967295 (wrap u64 n))))) (.lf E1)))))
def G9 x n:=(RM x n).m
abbrev Qb7 x n:=(RM x n).p
def Qwg:bc:=mT 279 [] true [.one (.int .u32),.one (.int .i64)] [] (λa r=>RM (aq a 0) (aq a 1)) (λX=>.int .u32 X) (λX=>[])
theorem Qtw:bn pG Qwg:=oT (.nil) Tryz.func279 Tryz.call279 [] [] 2
def RO(c:bj)(m:List Int)(i:gu):Tree (bj×(List Int)):=
.cn (bJ 0 1&&decide (0<=i.B/\i.B<(↑16:Int))) (let E4:=wrap u32 (aK (iV.l c.X) i.B.toNat 0+wrap u32 i.bq);let E5:=aK (iV.l c.X) i.A.toNat 0;let E6:=bJ 0 1&&decide (0<=i.A/\i.A<(↑16:Int));let E7:=({X:=c.X,Pc:=wrap u32 (c.Pc+4),B7:=c.B7}:bj);let T1:Tree ((bj×(List Int))):=let T3:Tree ((bj×(List Int))):=.an (Sz c m E4 4 3) (.lv (lM c m E4 4 3) λ(x0:Int×Int×List Int)=>.br (x0.2.1 !=0) (.lv (pY c x0.2.1 E4) λ(x1:bj)=>.lf (x1,x0.2.2)) (.cn E6 (.an (TO x0.2.2 x0.1 4 E5) (.lv (Bv x0.2.2 x0.1 4 E5) λ(x2:List Int)=>.lf (E7,x2)))));.br (i.Op==35) T3 (.br (i.Op==36) T3 (.an (Sz c m E4 4 2) (.lv (lM c m E4 4 2) λ(x6:Int×Int×List Int)=>.br (x6.2.1 !=0) (.lv (pY c x6.2.1 E4) λ(x7:bj)=>.lf (x7,x6.2.2)) (.an (Wi x6.2.2 x6.1 4) (.lv (kP x6.2.2 x6.1 4) λ(x8:Int×Bool)=>.br (i.Op==33) (.an (Qb7 x8.1 8) (.lv (G9 x8.1 8) λ(x9:Int)=>.an (BM c i.A x9) (.lv (lL c i.A x9) λ(ki:bj)=>.lf ({X:=ki.X,Pc:=wrap u32 (ki.Pc+4),B7:=ki.B7},x6.2.2)))) (.an (BM c i.A x8.1) (.lv (lL c i.A x8.1) λ(mI:bj)=>.lf ({X:=mI.X,Pc:=wrap u32 (mI.Pc+4),B7:=mI.B7},x6.2.2))))))));.br (i.Op==32) T1 (.br (i.Op==35) T1 (let T2:Tree ((bj×(List Int))):=.an (Sz c m E4 1 3) (.lv (lM c m E4 1 3) λ(EK:Int×Int×List Int)=>.br (EK.2.1 !=0) (.lv (pY c EK.2.1 E4) λ(x25:bj)=>.lf (x25,EK.2.2)) (.cn E6 (.an (TO EK.2.2 EK.1 1 E5) (.lv (Bv EK.2.2 EK.1 1 E5) λ(x26:List Int)=>.lf (E7,x26)))));.br (i.Op==35) T2 (.br (i.Op==36) T2 (.an (Sz c m E4 1 2) (.lv (lM c m E4 1 2) λ(Gr:Int×Int×List Int)=>.br (Gr.2.1 !=0) (.lv (pY c Gr.2.1 E4) λ(x31:bj)=>.lf (x31,Gr.2.2)) (.an (Wi Gr.2.2 Gr.1 1) (.lv (kP Gr.2.2 Gr.1 1) λ(Wj:Int×Bool)=>.br (i.Op==33) (.an (Qb7 Wj.1 8) (.lv (G9 Wj.1 8) λ(x33:Int)=>.an (BM c i.A x33) (.lv (lL c i.A x33) λ(x34:bj)=>.lf ({X:=x34.X,Pc:=wrap u32 (x34.Pc+4),B7:=x34.B7},Gr.2.2)))) (.an (BM c i.A Wj.1) (.lv (lL c i.A Wj.1) λ(x35:bj)=>.lf ({X:=x35.X,Pc:=wrap u32 (x35.Pc+4),B7:=x35.B7},Gr.2.2)))))))))))
def Hi c m i:=(RO c m i).m
abbrev Qkd c m i:=(RO c m i).p
def Z4f:bc:=mT 213 [false,true,false] true [.agg bj.sig,.one (.row 0),.agg gu.sig] [.arr 23 1 (.ints .u32)] (λa r=>RO (bj.of (aC a 0)) (gk .u32 r 0) (gu.of (aC a 2))) (λX=>.agg (bj.cells (X.1))) (λX=>[⟨false,23,1,.ints .u32 (X.2)⟩])
theorem Z14:bn pG Z4f:=oT (.cons Qvb (.cons Wh (.cons Z4q (.cons Qp2 (.cons Qtw (.cons Nd (.nil))))))) Tryz.func213 Tryz.call213 [] [] 2
def Qz1(op:Int):Tree Int:=
.br (op==16) (.lf 1) (.br (op==17) (.lf 3) (.br (op==18) (.lf 4) (.br (op==19) (.lf 5) (.br (op==20) (.lf 6) (.br (op==21) (.lf 7) (.br (op==22) (.lf 8) (.br (op==23) (.lf 12) (.lf op))))))))
def Z8w op:=(Qz1 op).m
def Zf9:bc:=mS 280 [] true [.one (.int .i64)] [] (λa r=>Qz1 (aq a 0)) (λX=>.int .i64 X) (λX=>[])
theorem Zdv:bn pG Zf9:=oS (.nil) Tryz.func280 Tryz.call280 [] [] 2
def Qa(a b:Int):Tree (Int×Int):=
.br (b==0) (.lf (4294967295,a)) (.cn (decide (wrap i64 (wrap i32 b)≠0)) (.cn (decide (wrap i64 (wrap i32 b)≠0)) (.lf (wrap u32 (wrap i64 (eU (wrap i64 (wrap i32 a)) (wrap i64 (wrap i32 b)))),wrap u32 (dE (wrap i64 (wrap i32 a)) (wrap i64 (wrap i32 b)))))))
def LU a b:=(Qa a b).m
abbrev Qhp a b:=(Qa a b).p
def Zbp:bc:=mT 281 [] true [.one (.int .u32),.one (.int .u32)] [] (λa r=>Qa (aq a 0) (aq a 1)) (λX=>.du [.int .u32 (X.1),.int .u32 (X.2)]) (λX=>[])
theorem Z7t:bn pG Zbp:=oT (.nil) Tryz.func281 Tryz.call281 [] [] 2
def RL(op a b:Int):Tree (Int×Bool):=
.lv (Z8w op) λ(x0:Int)=>.br (x0==1) (.lf (wrap u32 (a+b),true)) (.br (x0==2) (.lf (wrap u32 (a-b),true)) (.br (x0==3) (.lf (bg u32 a b,true)) (.br (x0==4) (.lf (ir u32 a b,true)) (.br (x0==5) (.lf (nu u32 a b,true)) (.br (x0==6) (.lf (eh u32 a (bg u32 b 31),true)) (.br (x0==7) (.lf (bh u32 a (bg u32 b 31),true)) (.br (x0==8) (.lf (wrap u32 (bh i32 (wrap i32 a) (bg u32 b 31)),true)) (.br (x0==9) (.lf (wrap u32 (a*b),true)) (.br (x0==10) (.an (Qhp a b) (.lv (LU a b) λ(x1:Int×Int)=>.lf (x1.1,true))) (.br (x0==11) (.an (Qhp a b) (.lv (LU a b) λ(x2:Int×Int)=>.lf (x2.2,true))) (.br (x0==12) (.lv (CA (decide (wrap i32 a<wrap i32 b))) λ(x3:Int)=>.lf (x3,true)) (.br (x0==13) (.lv (CA (decide (a<b))) λ(x4:Int)=>.lf (x4,true)) (.lf (0,false))))))))))))))
def En op a b:=(RL op a b).m
abbrev Qog op a b:=(RL op a b).p
def Zpz:bc:=mT 214 [] true [.one (.int .i64),.one (.int .u32),.one (.int .u32)] [] (λa r=>RL (aq a 0) (aq a 1) (aq a 2)) (λX=>.du [.int .u32 (X.1),.bool (X.2)]) (λX=>[])
theorem Zkq:bn pG Zpz:=oT (.cons Zdv (.cons Z7t (.cons Qsp (.nil)))) Tryz.func214 Tryz.call214 [] [] 2
def RP(c:bj)(m:List Int):Tree (bj×kN×(List Int)):=
.an (Sz c m c.Pc 4 1) (.lv (lM c m c.Pc 4 1) λ(x0:Int×Int×List Int)=>.br (x0.2.1 !=0) (.lv (pY c x0.2.1 c.Pc) λ(x1:bj)=>.lf (x1,{C3:=0,D4:=0,F3:=0,Value:=0},x0.2.2)) (.an (Wi x0.2.2 x0.1 4) (.lv (kP x0.2.2 x0.1 4) λ(x2:Int×Bool)=>.lv (rD x2.1) λ(x3:gu×Bool)=>.br (!x3.2) (.lv (pY c 1 x2.1) λ(x4:bj)=>.lf (x4,{C3:=0,D4:=0,F3:=0,Value:=0},x0.2.2)) (.lv (G8 x3.1.Op) λ(x5:Bool)=>let T1:Tree ((bj×kN×(List Int))):=.br (decide (x3.1.Op>=56)) (.an (Qpr c x3.1) (.lv (TX c x3.1) λ(x7:bj×kN)=>.lf (x7.1,x7.2,x0.2.2))) (.br (decide (x3.1.Op>=40)) (.an (Qub c x3.1) (.lv (Z2c c x3.1) λ(x8:bj)=>.lf (x8,{C3:=0,D4:=0,F3:=0,Value:=0},x0.2.2))) (.br (decide (x3.1.Op>=32)) (.an (Qkd c x0.2.2 x3.1) (.lv (Hi c x0.2.2 x3.1) λ(x9:bj×List Int)=>.lf (x9.1,{C3:=0,D4:=0,F3:=0,Value:=0},x9.2))) (.br (x3.1.Op==24) (.an (BM c x3.1.A (eh u32 (wrap u32 x3.1.bq) 16)) (.lv (lL c x3.1.A (eh u32 (wrap u32 x3.1.bq) 16)) λ(ki:bj)=>.lf ({X:=ki.X,Pc:=wrap u32 (ki.Pc+4),B7:=ki.B7},{C3:=0,D4:=0,F3:=0,Value:=0},x0.2.2))) (let E2:=aK (iV.l c.X) x3.1.B.toNat 0;let E3:=bJ 0 1&&decide (0<=x3.1.B/\x3.1.B<(↑16:Int));.br (decide (x3.1.Op<=13)) (.cn (bJ 0 1&&decide (0<=x3.1.C/\x3.1.C<(↑16:Int))) (.cn E3 (let E4:=aK (iV.l c.X) x3.1.C.toNat 0;.an (Qog x3.1.Op E2 E4) (.lv (En x3.1.Op E2 E4) λ(mI:Int×Bool)=>.an (BM c x3.1.A mI.1) (.lv (lL c x3.1.A mI.1) λ(lO:bj)=>.lf ({X:=lO.X,Pc:=wrap u32 (lO.Pc+4),B7:=lO.B7},{C3:=0,D4:=0,F3:=0,Value:=0},x0.2.2)))))) (.cn E3 (.an (Qog x3.1.Op E2 (wrap u32 x3.1.bq)) (.lv (En x3.1.Op E2 (wrap u32 x3.1.bq)) λ(me:Int×Bool)=>.an (BM c x3.1.A me.1) (.lv (lL c x3.1.A me.1) λ(uM:bj)=>.lf ({X:=uM.X,Pc:=wrap u32 (uM.Pc+4),B7:=uM.B7},{C3:=0,D4:=0,F3:=0,Value:=0},x0.2.2)))))))));.br x5 (.br (bg u32 c.B7.a0 (1:Int)==(0:Int)) (.lv (pY c 2 x2.1) λ(x6:bj)=>.lf (x6,{C3:=0,D4:=0,F3:=0,Value:=0},x0.2.2)) T1) T1))))
def pZ c m:=(RP c m).m
abbrev Qth c m:=(RP c m).p
def qE:bc:=mT 143 [false,true] true [.agg bj.sig,.one (.row 0)] [.arr 23 1 (.ints .u32)] (λa r=>RP (bj.of (aC a 0)) (gk .u32 r 0)) (λX=>.du [.agg (bj.cells (X.1)),.agg (kN.cells (X.2.1))]) (λX=>[⟨false,23,1,.ints .u32 (X.2.2)⟩])
theorem Z8h:bn pG qE:=oT (.cons Qvb (.cons Wh (.cons Qp2 (.cons Qrd (.cons Qur (.cons Z62 (.cons Zfi (.cons Z14 (.cons Nd (.cons Zkq (.nil))))))))))) Tryz.func143 Tryz.call143 [] [] 2
end
noncomputable section
def Tl(steps:Int):Tree Int:=
.lf (if 4000<if 0>steps then 0 else steps then 4000 else if 0>steps then 0 else steps)
def pX steps:=(Tl steps).m
def Z2i:bc:=mS 265 [] true [.one (.int .i64)] [] (λa r=>Tl (aq a 0)) (λX=>.int .i64 X) (λX=>[])
theorem Z0g:bn pG Z2i:=oS (.nil) Tryz.func265 Tryz.call265 [] [] 2
def Z8f(t:iX)(now:Int):Tree Bool:=
.br t.D7 (.lf (decide (now>=t.C7))) (.lf false)
def JB t now:=(Z8f t now).m
def Zou:bc:=mS 266 [] true [.agg iX.sig,.one (.int .u32)] [] (λa r=>Z8f (iX.of (aC a 0)) (aq a 1)) (λX=>.bool X) (λX=>[])
theorem Zjc:bn pG Zou:=oS (.nil) Tryz.func266 Tryz.call266 [] [] 2
def Qd6(m:au)(z:(Int)):Nat:=(32-z).toNat
def Mc(m:au):Tree bj:=
.an (Qfg m) (.lv (Bx m) λ(x0:Int)=>.br (bg u32 m.B4.B7.a0 (2:Int)==(0:Int)) (.lf m.B4) (.br (x0==0) (.lf m.B4) (.lp inferInstance (Qd6 m 0+1) ((rZ/\rZ/\rE (x0:Int)/\rE (0:Int)/\True)/\(mE m (((ao.Nil (ao.ints u32 m.Mem)\/rE (1:Nat))/\rE m.Mem)) True)/\(rE (0:Int)/\rE (0:Int)/\rE (0:Int)/\rE (0:Int)/\rE (0:Int)/\rE (0:Int)/\rE (0:Int)/\rE (0:Int)/\rE (0:Int)/\rE (0:Int)/\rE (0:Int)/\rE (0:Int)/\rE (0:Int)/\rE (0:Int)/\rE (0:Int)/\rE (0:Int)/\rE (0:Int)/\rE (0:Int)/\rE (0:Int)/\rE (0:Int)/\rE (0:Int)/\rE (0:Int)/\rE (0:Int)/\rE (0:Int)/\rE (0:Int)/\True)/\True) 0 λ(v0:Int)=>.cn (decide (0<=wrap u64 v0)) (.br (bg u32 (bh u32 x0 (wrap u64 v0)) (1:Int)==(0:Int)) (.nx ((rZ/\rZ/\rE (x0:Int)/\rE ((wrap i64 (v0+1)):Int)/\True)/\(mE m (((ao.Nil (ao.ints u32 m.Mem)\/rE (1:Nat))/\rE m.Mem)) True)/\(rE (0:Int)/\rE (0:Int)/\rE (0:Int)/\rE (0:Int)/\rE (0:Int)/\rE (0:Int)/\rE (0:Int)/\rE (0:Int)/\rE (0:Int)/\rE (0:Int)/\rE (0:Int)/\rE (0:Int)/\rE (0:Int)/\rE (0:Int)/\rE (0:Int)/\rE (0:Int)/\rE (0:Int)/\rE (0:Int)/\rE (0:Int)/\rE (0:Int)/\rE (0:Int)/\rE (0:Int)/\rE (0:Int)/\rE (0:Int)/\rE (0:Int)/\True)/\True) (Sum.inl (wrap i64 (v0+1)))) (.lv (pY m.B4 (wrap i64 (16+v0)) 0) λ(x1:bj)=>.lf (Sum.inr x1))))))
def mc m:=(Mc m).m
abbrev Q6k m:=(Mc m).p
def Qsl:bw:={
 α:=(Int)
 F:=λst a=>([(1,.ptr 0 0 0),(2,.ptr 1 0 0),(3,(lk st 3)),(4,.int i64 a)],[⟨true,42,49,.gen [mB (cT st 1)]⟩,⟨true,28,25,.gen [[(cT st 2 0),(cT st 2 1),(cT st 2 2),(cT st 2 3),(cT st 2 4),(cT st 2 5),(cT st 2 6),(cT st 2 7),(cT st 2 8),(cT st 2 9),(cT st 2 10),(cT st 2 11),(cT st 2 12),(cT st 2 13),(cT st 2 14),(cT st 2 15),(cT st 2 16),(cT st 2 17),(cT st 2 18),(cT st 2 19),(cT st 2 20),(cT st 2 21),(cT st 2 22),(cT st 2 23),(cT st 2 24)]]⟩])
 a0:=λst=>(lk st 4).toInt
 jo:=λst=>[]++[(rX st 1 0),(rX st 2 1)]}
def Qpv:List (Nat×bw):=[(5,Qsl)]
def Qvm:bc:=mT 142 [] true [.agg au.sig] [] (λa r=>Mc (au.of (aC a 0))) (λX=>.agg (bj.cells X)) (λX=>[])
theorem Qbf:bn pG Qvm:=oT (.cons Qpl (.cons Wh (.nil))) Tryz.func142 Tryz.call142 [] Qpv 3
def RU(m:au):Tree Bool:=
.an (Q6k m) (.lv (mc m) λ(x0:bj)=>.br (bg u32 x0.B7.a0 (1:Int)==(0:Int)) (.lf false) (.an (Wi m.Mem x0.Pc 4) (.lv (kP m.Mem x0.Pc 4) λ(x1:Int×Bool)=>.lv (rD x1.1) λ(x2:gu×Bool)=>.br x1.2 (.br x2.2 (.br (x2.1.Op==60) (.lf (x2.1.bq==2)) (.lf false)) (.lf false)) (.lf false))))
def pf m:=(RU m).m
abbrev Qk0 m:=(RU m).p
def Zis:bc:=mT 105 [] true [.agg au.sig] [] (λa r=>RU (au.of (aC a 0))) (λX=>.bool X) (λX=>[])
theorem Qua:bn pG Zis:=oT (.cons Qbf (.cons Qp2 (.cons Qrd (.nil)))) Tryz.func105 Tryz.call105 [] [] 2
def RV(m:au):Tree Bool:=
.an (V7 m) (.lv (nm m) λ(x0:Bool)=>.br x0 (.lf false) (.an (Qk0 m) (.lv (pf m) λ(x1:Bool)=>.lf x1)))
def Q3 m:=(RV m).m
abbrev Qb8 m:=(RV m).p
def Qxq:bc:=mT 267 [] true [.agg au.sig] [] (λa r=>RV (au.of (aC a 0))) (λX=>.bool X) (λX=>[])
theorem Qvx:bn pG Qxq:=oT (.cons Qvt (.cons Qua (.nil))) Tryz.func267 Tryz.call267 [] [] 2
def Hl(c:iW)(port:Int):Tree (iW×Int):=
let T1:Tree ((iW×Int)):=.br (port==0) (.cn (decide ((0:Int)<=(1:Int)/\1<=(c.D5.length:Int)/\(c.D5.length:Int)<=(c.D5.length:Int))) (.cn (decide ((0:Int)<=(0:Int)/\0<(c.D5.length:Int))) (.lf ({D5:=dB (dF (c.D5.length:Int)-dF 1) (dC (dF 1) c.D5)},wrap u32 (↑(eW (c.D5.getD (dF 0) (0:UInt8))):Int))))) (.br (port==1) (.lf (c,wrap u32 (c.D5.length:Int))) (.lf (c,0)));.br (port==0) (.br ((c.D5.length:Int)==(0:Int)) (.lf (c,4294967295)) T1) T1
def Jt c port:=(Hl c port).m
theorem Qvf(c:iW)(port:Int):(Hl c port).p:=by
 unfold Tree.p Hl
 repeat'(first|exact trivial|refine aa (λ_=>?_) (λ_=>?_)|refine ay ?_ ?_|refine cz ?_ ?_|refine ar (λ_ _=>?_)|refine ff ?_|refine fe ?_|refine And.intro ?_ ?_)
 all_goals(exact oR)
def Z0m:bc:=mS 215 [] true [.agg iW.sig,.one (.int .i64)] [] (λa r=>Hl (iW.of (aC a 0)) (aq a 1)) (λX=>.du [.agg (iW.cells (X.1)),.int .u32 (X.2)]) (λX=>[])
theorem Qkv:bn pG Z0m:=oS (.nil) Tryz.func215 Tryz.call215 [] [] 2 (λ_ _ _=>by kernel_rfl) (λa r=>Qvf (iW.of (aC a 0)) (aq a 1)) (λ_ X=>by kernel_rfl)
def VJ(t:iX):Tree Int:=
.br t.D6 (.lf 1) (.lf 0)
def Ul t:=(VJ t).m
def Z7d:bc:=mS 216 [] true [.agg iX.sig] [] (λa r=>VJ (iX.of (aC a 0))) (λX=>.int .u32 X) (λX=>[])
theorem Qpb:bn pG Z7d:=oS (.nil) Tryz.func216 Tryz.call216 [] [] 2
def VI(d0:fp)(port:Int):Tree Int:=
.br (port==4) (.lf d0.C4) (.br (port==5) (.lf d0.Frame) (.br (port==6) (.lf (wrap u32 d0.C0)) (.lf 0)))
def Uk d0 port:=(VI d0 port).m
def Zdx:bc:=mS 217 [] true [.agg fp.sig,.one (.int .i64)] [] (λa r=>VI (fp.of (aC a 0)) (aq a 1)) (λX=>.int .u32 X) (λX=>[])
theorem Qrx:bn pG Zdx:=oS (.nil) Tryz.func217 Tryz.call217 [] [] 2
def OW(n:ia)(port:Int):Tree Int:=
.br (port==7) (.lf n.Frame) (.br (port==8) (.lf n.F4) (.br (port==9) (.br n.C8 (.br n.B8 (.lf (wrap u32 ((1:Int)+(2:Int)))) (.lf 1)) (.br n.B8 (.lf (wrap u32 ((0:Int)+(2:Int)))) (.lf 0))) (.lf 0)))
def OV n port:=(OW n port).m
def Zfa:bc:=mS 218 [] true [.agg ia.sig,.one (.int .i64)] [] (λa r=>OW (ia.of (aC a 0)) (aq a 1)) (λX=>.int .u32 X) (λX=>[])
theorem Qvu:bn pG Zfa:=oS (.nil) Tryz.func218 Tryz.call218 [] [] 2
def L4(b:gv)(port:Int):Tree Int:=
.br (port==10) (.lf b.C9) (.br (port==11) (.lv (L0 b) λ(x0:Int)=>.lf (wrap u32 x0)) (.lf 0))
def Jv b port:=(L4 b port).m
def Z0j:bc:=mS 219 [] true [.agg gv.sig,.one (.int .i64)] [] (λa r=>L4 (gv.of (aC a 0)) (aq a 1)) (λX=>.int .u32 X) (λX=>[])
theorem Qkz:bn pG Z0j:=oS (.cons Quh (.nil)) Tryz.func219 Tryz.call219 [] [] 2
def GQ(m:au)(port clock:Int):Tree (Int×au):=
.br (decide (port<=1)) (.lv (Jt m.A7 port) λ(x0:iW×Int)=>.lf (x0.2,{B4:=m.B4,Mem:=m.Mem,A7:=x0.1,B2:=m.B2,B1:=m.B1,C6:=m.C6,A6:=m.A6,A4:=m.A4,A9:=m.A9,B0:=m.B0})) (.br (port==2) (.lf (clock,m)) (.br (port==3) (.lv (Ul m.B2) λ(x1:Int)=>.lf (x1,m)) (.br (decide (port<=6)) (.lv (Uk m.B1 port) λ(x2:Int)=>.lf (x2,m)) (.br (decide (port<=9)) (.lv (OV m.C6 port) λ(x3:Int)=>.lf (x3,m)) (.lv (Jv m.A6 port) λ(x4:Int)=>.lf (x4,m))))))
def wU m port clock:=(GQ m port clock).m
def xE:bc:=mS 144 [true,false,false] true [.ptr 0,.one (.int .i64),.one (.int .u32)] [.box 42 49 (au.kS (.row 1)),.arr 23 1 (.ints .u32)] (λa r=>GQ (au.rl (r.getD 0 default).cs (gk .u32 r 1)) (aq a 1) (aq a 2)) (λX=>.int .u32 (X.1)) (λX=>[⟨true,42,49,.gen [(au.fg (X.2) (.all 1))]⟩,⟨false,23,1,.ints .u32 (X.2).Mem⟩])
theorem Zqx:bn pG xE:=oS (.cons Qkv (.cons Qpb (.cons Qrx (.cons Qvu (.cons Qkz (.nil)))))) Tryz.func144 Tryz.call144 [.row 23 1 (.ints .u32)] [] 2
def OY(deadline:Int):Tree iX:=
.br (deadline==0) (.lf ({D7:=false,C7:=0,D6:=false})) (.lf ({D7:=true,C7:=deadline,D6:=false}))
def OX deadline:=(OY deadline).m
def Zoy:bc:=mS 220 [] true [.one (.int .u32)] [] (λa r=>OY (aq a 0)) (λX=>.agg (iX.cells X)) (λX=>[])
theorem Z2y:bn pG Zoy:=oS (.nil) Tryz.func220 Tryz.call220 [] [] 2
def Qv7(x n:Int)(z:(Int)×(List Int)):Prop:=0<=z.1/\(z.2.length:Int)=z.1/\(z.1<=n\/z.1=0)
def VH(x n:Int)(z:(Int)×(List Int)):Nat:=(n-z.1).toNat
def M0(x n:Int):Tree (List UInt8):=
.lp inferInstance (VH x n (0,[])+1) ((rE (x:Int)/\rE (n:Int)/\True/\rE (0:Int)/\True)/\rE ([]:List Int)/\True) (0,[]) λ(v0:Int×List Int)=>.br (decide (v0.1<n)) (.cn (decide (0<=wrap u64 (wrap i64 (8*v0.1)))) (.cn (decide (1*(v0.2.length+1)<=140737488355328)) (.nx ((rE (x:Int)/\rE (n:Int)/\True/\rE ((wrap i64 (v0.1+1)):Int)/\True)/\rE ((v0.2++[wrap u8 (bh u32 x (wrap u64 (wrap i64 (8*v0.1))))]):List Int)/\True) (Sum.inl (wrap i64 (v0.1+1),v0.2++[wrap u8 (bh u32 x (wrap u64 (wrap i64 (8*v0.1))))]))))) (.lf (Sum.inr (bytesOf v0.2)))
def XU x n:=(M0 x n).m
def Wk(x n:Int):Prop:=
n<=1000000000000
theorem Zfj(x n:Int)(hw:Wk x n):(M0 x n).p:=by
 simp only[Wk]at hw
 unfold Tree.p M0
 repeat'(first|refine fy (inv:=Qv7 x n) (μ:=VH x n) ?_ (cO _) (λ_ _=>?_)|exact trivial|refine aa (λ_=>?_) (λ_=>?_)|refine ay ?_ ?_|refine cz ?_ ?_|refine ar (λ_ _=>?_)|refine ff ?_|refine fe ?_|refine And.intro ?_ ?_)
 all_goals((try simp only[Qv7,VH]at*);exact oR)
def Zjn:bw:={
 α:=(Int)×(List Int)
 F:=λst a=>([(0,(lk st 0)),(1,(lk st 1)),(5,.all 0),(6,.int i64 a.1)],[⟨false,5,1,.ints u8 a.2⟩])
 a0:=λst=>((lk st 6).toInt,(o4 st.rows (rN st 5)))
 jo:=λst=>[]++[(rX st 5 0)]}
def Zbv:List (Nat×bw):=[(3,Zjn)]
def Zpm:bc:=mW 304 [] true [.one (.int .u32),.one (.int .i64)] [] (λa r=>Wk (aq a 0) (aq a 1)) (λa r=>XU (aq a 0) (aq a 1)) (λX=>.str X) (λX=>[])
theorem Zjf:bn pG Zpm:=wo drawn mX (.nil) Tryz.func304 Tryz.call304 (λa r=>M0 (aq a 0) (aq a 1)) [] Zbv 3 (hp:=λa r h=>Zfj (aq a 0) (aq a 1) h)
def XV(m:List Int)(frame:Int)(z:(Int)×(List Int)):Nat:=(32-z.1).toNat
def He(m:List Int)(frame:Int):Tree ((List UInt8)×Bool):=
.br (decide (frame<0)) (.lf ([],false)) (.lv (wQ m) λ(x0:Int)=>.br (decide (frame>=x0)) (.lf ([],false)) (.lp inferInstance (XV m frame (0,[])+1) ((((ao.Nil (ao.ints u32 m)\/rE (1:Nat))/\rE (m:List Int))/\rE (frame:Int)/\True/\rE (0:Int)/\True)/\rE ([]:List Int)/\True) (0,[]) λ(v0:Int×List Int)=>.br (decide (v0.1<32)) (.cn (bT 1 1&&bJ 0 1&&decide (0<=wrap i64 (wrap i64 (frame*32)+v0.1)/\wrap i64 (wrap i64 (frame*32)+v0.1)<(m.length:Int))) (let E1:=m.getD (dF (wrap i64 (wrap i64 (frame*32)+v0.1))) 0;.an (Wk E1 4) (.lv (XU E1 4) λ(x1:List UInt8)=>.cn (decide (1*(v0.2.length+dK (Q2 x1))<=140737488355328)) (.nx ((((ao.Nil (ao.ints u32 m)\/rE (1:Nat))/\rE (m:List Int))/\rE (frame:Int)/\True/\rE ((wrap i64 (v0.1+1)):Int)/\True)/\rE ((v0.2++Q2 x1):List Int)/\True) (Sum.inl (wrap i64 (v0.1+1),v0.2++Q2 x1)))))) (.lf (Sum.inr (bytesOf v0.2,true)))))
def LH m frame:=(He m frame).m
abbrev Qgj m frame:=(He m frame).p
def Zh8:bw:={
 α:=(Int)×(List Int)
 F:=λst a=>([(0,(lk st 0)),(1,(lk st 1)),(6,.all 0),(7,.int i64 a.1)],[⟨false,5,1,.ints u8 a.2⟩])
 a0:=λst=>((lk st 7).toInt,(o4 st.rows (rN st 6)))
 jo:=λst=>[]++[(rX st 6 0)]}
def Z70:List (Nat×bw):=[(5,Zh8)]
def Zl6:bc:=mT 283 [] true [.one (.ints .u32),.one (.int .i64)] [] (λa r=>He (ei .u32 a 0) (aq a 1)) (λX=>.du [.str (X.1),.bool (X.2)]) (λX=>[])
theorem Qyo:bn pG Zl6:=oT (.cons Sw (.cons Zjf (.nil))) Tryz.func283 Tryz.call283 [] Z70 3
def Qrf(d0:fp)(dj:Int):Tree (dw×Bool):=
.br (d0.C0 !=1) (.lf ({C3:=0,At:=0,C4:=0,D2:=[]},false)) (.br (d0.D8==1) (.lf ({C3:=3,At:=dj,C4:=d0.B9,D2:=[]},true)) (.br (d0.D8==2) (.lf ({C3:=4,At:=dj,C4:=d0.B9,D2:=d0.C1},true)) (.lf ({C3:=0,At:=0,C4:=0,D2:=[]},false))))
def Ye d0 dj:=(Qrf d0 dj).m
def Z6d:bc:=mS 284 [] true [.agg fp.sig,.one (.int .u64)] [] (λa r=>Qrf (fp.of (aC a 0)) (aq a 1)) (λX=>.du [.agg (dw.cells (X.1)),.bool (X.2)]) (λX=>[])
theorem Z5j:bn pG Z6d:=oS (.nil) Tryz.func284 Tryz.call284 [] [] 2
def Hm(d0:fp)(m:List Int)(port v dj:Int):Tree (fp×(List dw)):=
.br (port==4) (.lf ({ag:=d0.ag,C4:=v,Frame:=d0.Frame,C0:=d0.C0,D8:=d0.D8,B9:=d0.B9,B5:=d0.B5,C1:=d0.C1},[])) (.br (port==5) (.lf ({ag:=d0.ag,C4:=d0.C4,Frame:=v,C0:=d0.C0,D8:=d0.D8,B9:=d0.B9,B5:=d0.B5,C1:=d0.C1},[])) (.br (port !=6) (.lf (d0,[])) (let T1:Tree ((fp×(List dw))):=.br (d0.C0==0) (let T2:Tree ((fp×(List dw))):=.lf ({ag:=d0.ag,C4:=d0.C4,Frame:=d0.Frame,C0:=3,D8:=d0.D8,B9:=d0.B9,B5:=d0.B5,C1:=d0.C1},[]);.br (decide (d0.C4>=d0.ag)) T2 (.lv (nZ m d0.Frame) λ(x0:Bool)=>.br (!x0) T2 (.br (v==2) (.an (Qgj m (wrap i64 d0.Frame)) (.lv (LH m (wrap i64 d0.Frame)) λ(x1:List UInt8×Bool)=>let E4:=({ag:=d0.ag,C4:=d0.C4,Frame:=d0.Frame,C0:=1,D8:=wrap i64 v,B9:=d0.C4,B5:=d0.Frame,C1:=x1.1}:fp);.lv (Ye E4 dj) λ(x2:dw×Bool)=>.lf (E4,[x2.1]))) (let E5:=({ag:=d0.ag,C4:=d0.C4,Frame:=d0.Frame,C0:=1,D8:=wrap i64 v,B9:=d0.C4,B5:=d0.Frame,C1:=[]}:fp);.lv (Ye E5 dj) λ(x3:dw×Bool)=>.lf (E5,[x3.1]))))) (.lf (d0,[]));.br (v==0) (let T3:Tree ((fp×(List dw))):=.lf ({ag:=d0.ag,C4:=d0.C4,Frame:=d0.Frame,C0:=0,D8:=d0.D8,B9:=d0.B9,B5:=d0.B5,C1:=d0.C1},[]);.br (d0.C0==2) T3 (.br (d0.C0==3) T3 (.br (v==1) T1 (.br (v==2) T1 (.lf (d0,[])))))) (.br (v==1) T1 (.br (v==2) T1 (.lf (d0,[])))))))
def O0 d0 m port v dj:=(Hm d0 m port v dj).m
abbrev Qfk d0 m port v dj:=(Hm d0 m port v dj).p
def Z7o:bc:=mT 221 [] true [.agg fp.sig,.one (.ints .u32),.one (.int .i64),.one (.int .u32),.one (.int .u64)] [] (λa r=>Hm (fp.of (aC a 0)) (ei .u32 a 1) (aq a 2) (aq a 3) (aq a 4)) (λX=>.du [.agg (fp.cells (X.1)),.sl 4 (.av .ba (X.2)) true]) (λX=>[])
theorem Qnw:bn pG Z7o:=oT (.cons Sx (.cons Qyo (.cons Z5j (.nil)))) Tryz.func221 Tryz.call221 [.sl (.av .ba) true] [] 2
def L1(n:ia)(m:List Int)(port v dj:Int):Tree (ia×(List dw)):=
.br (port==7) (.lf ({Frame:=v,F1:=n.F1,C8:=n.C8,C2:=n.C2,B8:=n.B8,F4:=n.F4},[])) (.br (port==8) (.lf ({Frame:=n.Frame,F1:=v,C8:=n.C8,C2:=n.C2,B8:=n.B8,F4:=n.F4},[])) (.br (port !=9) (.lf (n,[])) (.br (v==0) (.lf ({Frame:=n.Frame,F1:=n.F1,C8:=n.C8,C2:=n.C2,B8:=false,F4:=0},[])) (let T1:Tree ((ia×(List dw))):=.br (v==2) (.lv (nZ m n.Frame) λ(x2:Bool)=>.br x2 (.br (!n.C8) (.br (!n.B8) (.lf ({Frame:=n.Frame,F1:=n.F1,C8:=true,C2:=n.Frame,B8:=n.B8,F4:=n.F4},[])) (.lf (n,[]))) (.lf (n,[]))) (.lf (n,[]))) (.lf (n,[]));.br (v==1) (.br (decide (n.F1>=1)) (.br (decide (n.F1<=128)) (.lv (nZ m n.Frame) λ(x0:Bool)=>.br x0 (.an (Qgj m (wrap i64 n.Frame)) (.lv (LH m (wrap i64 n.Frame)) λ(x1:List UInt8×Bool)=>.cn (decide ((0:Int)<=(0:Int)/\0<=n.F1/\n.F1<=(x1.1.length:Int))) (.lf (n,[{C3:=2,At:=dj,C4:=0,D2:=dB (dF n.F1-dF 0) (dC (dF 0) x1.1)}])))) T1) T1) T1) T1))))
def Ue n m port v dj:=(L1 n m port v dj).m
abbrev Qib n m port v dj:=(L1 n m port v dj).p
def Ze3:bc:=mT 222 [] true [.agg ia.sig,.one (.ints .u32),.one (.int .i64),.one (.int .u32),.one (.int .u64)] [] (λa r=>L1 (ia.of (aC a 0)) (ei .u32 a 1) (aq a 2) (aq a 3) (aq a 4)) (λX=>.du [.agg (ia.cells (X.1)),.sl 4 (.av .ba (X.2)) true]) (λX=>[])
theorem Qs:bn pG Ze3:=oT (.cons Sx (.cons Qyo (.nil))) Tryz.func222 Tryz.call222 [.sl (.av .ba) true] [] 2
def Qh(b:gv)(m:List Int)(port v:Int)(z:(Int)×(List Int)):Nat:=(32-z.1).toNat
def Bw(b:gv)(m:List Int)(port v:Int):Tree (gv×(List Int)):=
let T1:Tree ((gv×(List Int))):=.br (port==11) (.br (decide (v<32)) (.cn (decide (0<=v)) (.lf ({C9:=b.C9,C5:=nY u32 b.C5 (eh u32 1 v)},m))) (.lf (b,m))) (.lf (b,m));.br (port==10) (.lv (nZ m v) λ(x0:Bool)=>.br x0 (.cn (decide (0<=v)) (.br (bg u32 (bh u32 b.C5 v) (1:Int)==(0:Int)) (.cn (decide (0<=v)) (.lp inferInstance (Qh b m port v (0,m)+1) ((True/\rE (v:Int)/\rZ/\rZ/\rE (0:Int)/\True)/\rE (m:List Int)/\(rE b.C9/\rE ((ir u32 b.C5 (eh u32 1 v)):Int)/\True)/\(rE (0:Int)/\rE (0:Int)/\True)/\True) (0,m) λ(v0:Int×List Int)=>.br (decide (v0.1<32)) (let E2:=wrap i64 (wrap i64 v*32)+v0.1;.cn (bT 1 1&&bJ 0 1&&decide (0<=wrap i64 E2/\wrap i64 E2<(v0.2.length:Int))) (.nx ((True/\rE (v:Int)/\rZ/\rZ/\rE ((wrap i64 (v0.1+1)):Int)/\True)/\rE ((dG v0.2 (dF (wrap i64 (wrap i64 (wrap i64 v*32)+v0.1))) 0):List Int)/\(rE b.C9/\rE ((ir u32 b.C5 (eh u32 1 v)):Int)/\True)/\(rE (0:Int)/\rE (0:Int)/\True)/\True) (Sum.inl (wrap i64 (v0.1+1),dG v0.2 (dF (wrap i64 E2)) 0)))) (.lf (Sum.inr ({C9:=b.C9,C5:=ir u32 b.C5 (eh u32 1 v)},v0.2))))) T1)) T1) T1
def AR b m port v:=(Bw b m port v).m
abbrev Qm4 b m port v:=(Bw b m port v).p
def Ziu:bw:={
 α:=(Int)×(List Int)
 F:=λst a=>([(1,.all 0),(3,(lk st 3)),(4,.ptr 1 0 0),(8,.ptr 2 0 0),(9,.int i64 a.1)],[⟨false,23,1,.ints u32 a.2⟩,⟨true,39,2,.gen [[(cT st 4 0),(cT st 4 1)]]⟩,⟨true,39,2,.gen [[(cT st 8 0),(cT st 8 1)]]⟩])
 a0:=λst=>((lk st 9).toInt,(o4 st.rows 0))
 jo:=λst=>[0]++[(rX st 4 1),(rX st 8 2)]}
def Z6e:List (Nat×bw):=[(4,Ziu)]
def Zk4:bc:=mT 223 [false,true,false,false] true [.agg gv.sig,.one (.row 0),.one (.int .i64),.one (.int .u32)] [.arr 23 1 (.ints .u32)] (λa r=>Bw (gv.of (aC a 0)) (gk .u32 r 0) (aq a 2) (aq a 3)) (λX=>.agg (gv.cells (X.1))) (λX=>[⟨false,23,1,.ints .u32 (X.2)⟩])
theorem Qz7:bn pG Zk4:=oT (.cons Sx (.nil)) Tryz.func223 Tryz.call223 [] Z6e 3
def Fm(m:au)(port v:Int):Tree ((List dw)×au):=
.br (port==0) (.lf ([{C3:=1,At:=m.A4,C4:=0,D2:=[(λ(n:Int)=>eX n.toNat) (wrap u8 v)]}],m)) (.br (decide (port<=2)) (.lf ([],m)) (.br (port==3) (.lv (OX v) λ(x0:iX)=>.lf ([],{B4:=m.B4,Mem:=m.Mem,A7:=m.A7,B2:=x0,B1:=m.B1,C6:=m.C6,A6:=m.A6,A4:=m.A4,A9:=m.A9,B0:=m.B0})) (.br (decide (port<=6)) (.an (Qfk m.B1 m.Mem port v m.A4) (.lv (O0 m.B1 m.Mem port v m.A4) λ(x1:fp×List dw)=>.lf (x1.2,{B4:=m.B4,Mem:=m.Mem,A7:=m.A7,B2:=m.B2,B1:=x1.1,C6:=m.C6,A6:=m.A6,A4:=m.A4,A9:=m.A9,B0:=m.B0}))) (.br (decide (port<=9)) (.an (Qib m.C6 m.Mem port v m.A4) (.lv (Ue m.C6 m.Mem port v m.A4) λ(x2:ia×List dw)=>.lf (x2.2,{B4:=m.B4,Mem:=m.Mem,A7:=m.A7,B2:=m.B2,B1:=m.B1,C6:=x2.1,A6:=m.A6,A4:=m.A4,A9:=m.A9,B0:=m.B0}))) (.an (Qm4 m.A6 m.Mem port v) (.lv (AR m.A6 m.Mem port v) λ(x3:gv×List Int)=>.lf ([],{B4:=m.B4,Mem:=x3.2,A7:=m.A7,B2:=m.B2,B1:=m.B1,C6:=m.C6,A6:=x3.1,A4:=m.A4,A9:=m.A9,B0:=m.B0})))))))
def AS m port v:=(Fm m port v).m
abbrev Qz3 m port v:=(Fm m port v).p
def Zoh:bc:=mT 146 [true,false,false] true [.ptr 0,.one (.int .i64),.one (.int .u32)] [.box 42 49 (au.kS (.row 1)),.arr 23 1 (.ints .u32)] (λa r=>Fm (au.rl (r.getD 0 default).cs (gk .u32 r 1)) (aq a 1) (aq a 2)) (λX=>.sl 4 (.av .ba (X.1)) true) (λX=>[⟨true,42,49,.gen [(au.fg (X.2) (.all 1))]⟩,⟨false,23,1,.ints .u32 (X.2).Mem⟩])
theorem Zjp:bn pG Zoh:=oT (.cons Z2y (.cons Qnw (.cons Qs (.cons Qz7 (.nil))))) Tryz.func146 Tryz.call146 [.sl (.av .ba) true,.row 23 1 (.ints .u32)] [] 2
def K1(m:au)(clock:Int):Tree ((List dw)×au):=
.an (Q6k m) (.lv (mc m) λ(x0:bj)=>.an (Qth x0 m.Mem) (.lv (pZ x0 m.Mem) λ(x1:bj×kN×List Int)=>let E1:=({B4:=x1.1,Mem:=x1.2.2,A7:=m.A7,B2:=m.B2,B1:=m.B1,C6:=m.C6,A6:=m.A6,A4:=m.A4,A9:=false,B0:=m.B0}:au);.br (x1.2.1.C3==1) (.lv (wU E1 x1.2.1.D4 clock) λ(x2:Int×au)=>.an (BM x2.2.B4 x1.2.1.F3 x2.1) (.lv (lL x2.2.B4 x1.2.1.F3 x2.1) λ(x3:bj)=>.lf ([],{B4:=x3,Mem:=x2.2.Mem,A7:=x2.2.A7,B2:=x2.2.B2,B1:=x2.2.B1,C6:=x2.2.C6,A6:=x2.2.A6,A4:=wrap u64 (x2.2.A4+1),A9:=x2.2.A9,B0:=x2.2.B0}))) (.br (x1.2.1.C3==2) (.an (Qz3 E1 x1.2.1.D4 x1.2.1.Value) (.lv (AS E1 x1.2.1.D4 x1.2.1.Value) λ(x4:List dw×au)=>.lf (x4.1,{B4:=x4.2.B4,Mem:=x4.2.Mem,A7:=x4.2.A7,B2:=x4.2.B2,B1:=x4.2.B1,C6:=x4.2.C6,A6:=x4.2.A6,A4:=wrap u64 (x4.2.A4+1),A9:=x4.2.A9,B0:=x4.2.B0}))) (.br (x1.2.1.C3==3) (.lf ([],{B4:=x1.1,Mem:=x1.2.2,A7:=m.A7,B2:=m.B2,B1:=m.B1,C6:=m.C6,A6:=m.A6,A4:=wrap u64 (m.A4+1),A9:=true,B0:=m.B0})) (.br (x1.2.1.C3==4) (.lf ([],{B4:=x1.1,Mem:=x1.2.2,A7:=m.A7,B2:=m.B2,B1:=m.B1,C6:=m.C6,A6:=m.A6,A4:=wrap u64 (m.A4+1),A9:=false,B0:=true})) (.lf ([],{B4:=x1.1,Mem:=x1.2.2,A7:=m.A7,B2:=m.B2,B1:=m.B1,C6:=m.C6,A6:=m.A6,A4:=wrap u64 (m.A4+1),A9:=false,B0:=m.B0})))))))
def gd m clock:=(K1 m clock).m
abbrev Qfm m clock:=(K1 m clock).p
def Z7b:bc:=mT 89 [true,false] true [.ptr 0,.one (.int .u32)] [.box 42 49 (au.kS (.row 1)),.arr 23 1 (.ints .u32)] (λa r=>K1 (au.rl (r.getD 0 default).cs (gk .u32 r 1)) (aq a 1)) (λX=>.sl 4 (.av .ba (X.1)) true) (λX=>[⟨true,42,49,.gen [(au.fg (X.2) (.all 1))]⟩,⟨false,23,1,.ints .u32 (X.2).Mem⟩])
theorem Z5t:bn pG Z7b:=oT (.cons Qbf (.cons Z8h (.cons Zqx (.cons Nd (.cons Zjp (.nil)))))) Tryz.func89 Tryz.call89 [.sl (.av .ba) true,.row 23 1 (.ints .u32)] [] 2
end
noncomputable section
instance SA {α β:Type} [Inhabited β]:Inhabited (α⊕β):=⟨.inr default⟩
def Pa(m:cy)(port clock:Int):Tree (Int×cy):=
.br (decide (port<=1)) (.lv (Jt m.A0.A7 port) λ(x0:iW×Int)=>.lf (x0.2,{A0:={B4:=m.A0.B4,Mem:=m.A0.Mem,A7:=x0.1,B2:=m.A0.B2,B1:=m.A0.B1,C6:=m.A0.C6,A6:=m.A0.A6,A4:=m.A0.A4,A9:=m.A0.A9,B0:=m.A0.B0},B6:=m.B6,D0:=m.D0,B3:=m.B3})) (.br (port==2) (.lf (clock,m)) (.br (port==3) (.lv (Ul m.A0.B2) λ(x1:Int)=>.lf (x1,m)) (.br (decide (port<=6)) (.lv (Uk m.A0.B1 port) λ(x2:Int)=>.lf (x2,m)) (.br (decide (port<=9)) (.lv (OV m.A0.C6 port) λ(x3:Int)=>.lf (x3,m)) (.lv (Jv m.A0.A6 port) λ(x4:Int)=>.lf (x4,m))))))
def Yz m port clock:=(Pa m port clock).m
def Zl7:bc:=mS 144 [true,false,false] true [.ptr 0,.one (.int .i64),.one (.int .u32)] [.box 154 52 (cy.kS (.row 1) (.row 2) (.row 3)),.arr 23 1 (.ints .u32),.arr 103 4 (.av .ab),.arr 72 3 (.av .bd)] (λa r=>Pa (cy.rl (r.getD 0 default).cs (gk .u32 r 1) (jQ .ab r 2) (jQ .bd r 3)) (aq a 1) (aq a 2)) (λX=>.int .u32 (X.1)) (λX=>[⟨true,154,52,.gen [(cy.fg (X.2) (.all 1) (.all 2) (.all 3))]⟩,⟨false,23,1,.ints .u32 (X.2).A0.Mem⟩,⟨false,103,4,.av .ab (X.2).D0⟩,⟨false,72,3,.av .bd (X.2).B3⟩])
theorem Zgr:bn pG Zl7:=oS (.cons Qkv (.cons Qpb (.cons Qrx (.cons Qvu (.cons Qkz (.nil)))))) Tryz.func144 Tryz.call144 [.row 23 1 (.ints .u32),.row 103 4 (.av .ab),.row 72 3 (.av .bd)] [] 2
def Mg(m:cy)(port v:Int):Tree ((List dw)×cy):=
.br (port==0) (.lf ([{C3:=1,At:=m.A0.A4,C4:=0,D2:=[(λ(n:Int)=>eX n.toNat) (wrap u8 v)]}],m)) (.br (decide (port<=2)) (.lf ([],m)) (.br (port==3) (.lv (OX v) λ(x0:iX)=>.lf ([],{A0:={B4:=m.A0.B4,Mem:=m.A0.Mem,A7:=m.A0.A7,B2:=x0,B1:=m.A0.B1,C6:=m.A0.C6,A6:=m.A0.A6,A4:=m.A0.A4,A9:=m.A0.A9,B0:=m.A0.B0},B6:=m.B6,D0:=m.D0,B3:=m.B3})) (.br (decide (port<=6)) (.an (Qfk m.A0.B1 m.A0.Mem port v m.A0.A4) (.lv (O0 m.A0.B1 m.A0.Mem port v m.A0.A4) λ(x1:fp×List dw)=>.lf (x1.2,{A0:={B4:=m.A0.B4,Mem:=m.A0.Mem,A7:=m.A0.A7,B2:=m.A0.B2,B1:=x1.1,C6:=m.A0.C6,A6:=m.A0.A6,A4:=m.A0.A4,A9:=m.A0.A9,B0:=m.A0.B0},B6:=m.B6,D0:=m.D0,B3:=m.B3}))) (.br (decide (port<=9)) (.an (Qib m.A0.C6 m.A0.Mem port v m.A0.A4) (.lv (Ue m.A0.C6 m.A0.Mem port v m.A0.A4) λ(x2:ia×List dw)=>.lf (x2.2,{A0:={B4:=m.A0.B4,Mem:=m.A0.Mem,A7:=m.A0.A7,B2:=m.A0.B2,B1:=m.A0.B1,C6:=x2.1,A6:=m.A0.A6,A4:=m.A0.A4,A9:=m.A0.A9,B0:=m.A0.B0},B6:=m.B6,D0:=m.D0,B3:=m.B3}))) (.an (Qm4 m.A0.A6 m.A0.Mem port v) (.lv (AR m.A0.A6 m.A0.Mem port v) λ(x3:gv×List Int)=>.lf ([],{A0:={B4:=m.A0.B4,Mem:=x3.2,A7:=m.A0.A7,B2:=m.A0.B2,B1:=m.A0.B1,C6:=m.A0.C6,A6:=x3.1,A4:=m.A0.A4,A9:=m.A0.A9,B0:=m.A0.B0},B6:=m.B6,D0:=m.D0,B3:=m.B3})))))))
def YA m port v:=(Mg m port v).m
abbrev Qs0 m port v:=(Mg m port v).p
def Zgn:bc:=mT 146 [true,false,false] true [.ptr 0,.one (.int .i64),.one (.int .u32)] [.box 154 52 (cy.kS (.row 1) (.row 2) (.row 3)),.arr 23 1 (.ints .u32),.arr 103 4 (.av .ab),.arr 72 3 (.av .bd)] (λa r=>Mg (cy.rl (r.getD 0 default).cs (gk .u32 r 1) (jQ .ab r 2) (jQ .bd r 3)) (aq a 1) (aq a 2)) (λX=>.sl 4 (.av .ba (X.1)) true) (λX=>[⟨true,154,52,.gen [(cy.fg (X.2) (.all 1) (.all 2) (.all 3))]⟩,⟨false,23,1,.ints .u32 (X.2).A0.Mem⟩,⟨false,103,4,.av .ab (X.2).D0⟩,⟨false,72,3,.av .bd (X.2).B3⟩])
theorem Zb9:bn pG Zgn:=oT (.cons Z2y (.cons Qnw (.cons Qs (.cons Qz7 (.nil))))) Tryz.func146 Tryz.call146 [.sl (.av .ba) true,.row 23 1 (.ints .u32),.row 103 4 (.av .ab),.row 72 3 (.av .bd)] [] 2
def Mj(m:cy)(clock:Int):Tree ((List dw)×cy):=
.an (Q6k m.A0) (.lv (mc m.A0) λ(x0:bj)=>.an (Qth x0 m.A0.Mem) (.lv (pZ x0 m.A0.Mem) λ(x1:bj×kN×List Int)=>let E1:=({B4:=x1.1,Mem:=x1.2.2,A7:=m.A0.A7,B2:=m.A0.B2,B1:=m.A0.B1,C6:=m.A0.C6,A6:=m.A0.A6,A4:=m.A0.A4,A9:=false,B0:=m.A0.B0}:au);.br (x1.2.1.C3==1) (.lv (Yz {A0:=E1,B6:=m.B6,D0:=m.D0,B3:=m.B3} x1.2.1.D4 clock) λ(x2:Int×cy)=>.an (BM x2.2.A0.B4 x1.2.1.F3 x2.1) (.lv (lL x2.2.A0.B4 x1.2.1.F3 x2.1) λ(x3:bj)=>.lf ([],{A0:={B4:=x3,Mem:=x2.2.A0.Mem,A7:=x2.2.A0.A7,B2:=x2.2.A0.B2,B1:=x2.2.A0.B1,C6:=x2.2.A0.C6,A6:=x2.2.A0.A6,A4:=wrap u64 (x2.2.A0.A4+1),A9:=x2.2.A0.A9,B0:=x2.2.A0.B0},B6:=x2.2.B6,D0:=x2.2.D0,B3:=x2.2.B3}))) (.br (x1.2.1.C3==2) (.an (Qs0 {A0:=E1,B6:=m.B6,D0:=m.D0,B3:=m.B3} x1.2.1.D4 x1.2.1.Value) (.lv (YA {A0:=E1,B6:=m.B6,D0:=m.D0,B3:=m.B3} x1.2.1.D4 x1.2.1.Value) λ(x4:List dw×cy)=>.lf (x4.1,{A0:={B4:=x4.2.A0.B4,Mem:=x4.2.A0.Mem,A7:=x4.2.A0.A7,B2:=x4.2.A0.B2,B1:=x4.2.A0.B1,C6:=x4.2.A0.C6,A6:=x4.2.A0.A6,A4:=wrap u64 (x4.2.A0.A4+1),A9:=x4.2.A0.A9,B0:=x4.2.A0.B0},B6:=x4.2.B6,D0:=x4.2.D0,B3:=x4.2.B3}))) (.br (x1.2.1.C3==3) (.lf ([],{A0:={B4:=x1.1,Mem:=x1.2.2,A7:=m.A0.A7,B2:=m.A0.B2,B1:=m.A0.B1,C6:=m.A0.C6,A6:=m.A0.A6,A4:=wrap u64 (m.A0.A4+1),A9:=true,B0:=m.A0.B0},B6:=m.B6,D0:=m.D0,B3:=m.B3})) (.br (x1.2.1.C3==4) (.lf ([],{A0:={B4:=x1.1,Mem:=x1.2.2,A7:=m.A0.A7,B2:=m.A0.B2,B1:=m.A0.B1,C6:=m.A0.C6,A6:=m.A0.A6,A4:=wrap u64 (m.A0.A4+1),A9:=false,B0:=true},B6:=m.B6,D0:=m.D0,B3:=m.B3})) (.lf ([],{A0:={B4:=x1.1,Mem:=x1.2.2,A7:=m.A0.A7,B2:=m.A0.B2,B1:=m.A0.B1,C6:=m.A0.C6,A6:=m.A0.A6,A4:=wrap u64 (m.A0.A4+1),A9:=false,B0:=m.A0.B0},B6:=m.B6,D0:=m.D0,B3:=m.B3})))))))
def Mi m clock:=(Mj m clock).m
abbrev Wl m clock:=(Mj m clock).p
def Z0:bc:=mT 89 [true,false] true [.ptr 0,.one (.int .u32)] [.box 154 52 (cy.kS (.row 1) (.row 2) (.row 3)),.arr 23 1 (.ints .u32),.arr 103 4 (.av .ab),.arr 72 3 (.av .bd)] (λa r=>Mj (cy.rl (r.getD 0 default).cs (gk .u32 r 1) (jQ .ab r 2) (jQ .bd r 3)) (aq a 1)) (λX=>.sl 4 (.av .ba (X.1)) true) (λX=>[⟨true,154,52,.gen [(cy.fg (X.2) (.all 1) (.all 2) (.all 3))]⟩,⟨false,23,1,.ints .u32 (X.2).A0.Mem⟩,⟨false,103,4,.av .ab (X.2).D0⟩,⟨false,72,3,.av .bd (X.2).B3⟩])
theorem Qxd:bn pG Z0:=oT (.cons Qbf (.cons Z8h (.cons Zgr (.cons Nd (.cons Zb9 (.nil)))))) Tryz.func89 Tryz.call89 [.sl (.av .ba) true,.row 23 1 (.ints .u32),.row 103 4 (.av .ab),.row 72 3 (.av .bd)] [] 2
def Xj(r:cy)(steps clock:Int)(z:(Int)×cy):Nat:=(z.2.B3.length-z.1).toNat
def NW(r:cy)(steps clock:Int)(v0:Int×cy)(z:(Int)×cy×(List dw)):Nat:=(4000-z.1).toNat
def I4(r:cy)(steps clock:Int):Tree (cy×(List dw)):=
.an (Qlq r) (.lv (Uq r) λ(x0:cy)=>.lv (ra x0.A0) λ(x1:Bool)=>.br (!x1) (.lf (x0,[])) (.lp inferInstance (Xj r steps clock (0,{A0:=x0.A0,B6:=if clock>x0.B6 then clock else x0.B6,D0:=x0.D0,B3:=x0.B3})+1) ((rE (steps:Int)/\rZ/\rZ/\rE (0:Int)/\True)/\(mE x0.A0 True (rE ((if clock>x0.B6 then clock else x0.B6):Int)/\True/\True/\True))/\rE x0.A0.Mem/\rE x0.D0/\rE x0.B3/\(mE zM True (rE (0:Int)/\True/\True/\True))/\True) (0,{A0:=x0.A0,B6:=if clock>x0.B6 then clock else x0.B6,D0:=x0.D0,B3:=x0.B3}) λ(v0:Int×cy)=>.br (decide (v0.1<(v0.2.B3.length:Int))) (.cn (bT 3 3&&bJ 0 3&&decide (0<=v0.1/\v0.1<(v0.2.B3.length:Int))) (let E1:=v0.2.B3.getD v0.1.toNat (RK.cu RK.bd);.an (Qiq v0.2 E1) (.lv (Pb v0.2 E1) λ(x2:cy)=>.nx ((rE (steps:Int)/\rZ/\rZ/\rE ((wrap i64 (v0.1+1)):Int)/\True)/\(mE x2.A0 True (rE x2.B6/\True/\True/\True))/\rE x2.A0.Mem/\rE x2.D0/\rE x2.B3/\(mE zM True (rE (0:Int)/\True/\True/\True))/\True) (Sum.inl (wrap i64 (v0.1+1),x2))))) (.lp inferInstance (NW r steps clock v0 (0,{A0:=v0.2.A0,B6:=v0.2.B6,D0:=v0.2.D0,B3:=[]},[])+1) ((rE (steps:Int)/\rZ/\rZ/\True/\rE (0:Int)/\True)/\(mE v0.2.A0 True (rE v0.2.B6/\True/\True/\True))/\rE v0.2.A0.Mem/\rE v0.2.D0/\rE ([]:List (RK.T RK.bd))/\(mE zM True (rE (0:Int)/\True/\True/\True))/\rE ([]:List (RK.T RK.ba))/\True) (0,{A0:=v0.2.A0,B6:=v0.2.B6,D0:=v0.2.D0,B3:=[]},[]) λ(v1:Int×cy×List dw)=>.lv (pX steps) λ(x3:Int)=>.br (decide (v1.1<x3)) (.lv (JB v1.2.1.A0.B2 v1.2.1.B6) λ(x4:Bool)=>.br x4 (.an (Qiq v1.2.1 {C3:=2,N:=0,D2:=[]}) (.lv (Pb v1.2.1 {C3:=2,N:=0,D2:=[]}) λ(x5:cy)=>.an (V7 x5.A0) (.lv (nm x5.A0) λ(x6:Bool)=>.br x6 (.lf (Sum.inr (Sum.inr (x5,v1.2.2)))) (.an (Qb8 x5.A0) (.lv (Q3 x5.A0) λ(x7:Bool)=>.br x7 (.cn (decide (40*(x5.D0.length+1)<=140737488355328)) (.an (Wl {A0:=x5.A0,B6:=x5.B6,D0:=x5.D0++[{At:=x5.A0.A4,D1:={C3:=1,N:=x5.B6,D2:=[]}}],B3:=x5.B3} x5.B6) (.lv (Mi {A0:=x5.A0,B6:=x5.B6,D0:=x5.D0++[{At:=x5.A0.A4,D1:={C3:=1,N:=x5.B6,D2:=[]}}],B3:=x5.B3} x5.B6) λ(x8:List dw×cy)=>.cn (decide (40*(v1.2.2.length+x8.1.length)<=140737488355328)) (.nx ((rE (steps:Int)/\rZ/\rZ/\True/\rE ((wrap i64 (v1.1+1)):Int)/\True)/\(mE x8.2.A0 True (rE ((wrap u32 (x8.2.B6+1)):Int)/\True/\True/\True))/\rE x8.2.A0.Mem/\rE x8.2.D0/\rE x8.2.B3/\(mE zM True (rE (0:Int)/\True/\True/\True))/\rE ((v1.2.2++x8.1):List (RK.T RK.ba))/\True) (Sum.inl (wrap i64 (v1.1+1),{A0:=x8.2.A0,B6:=wrap u32 (x8.2.B6+1),D0:=x8.2.D0,B3:=x8.2.B3},v1.2.2++x8.1)))))) (.an (Wl x5 x5.B6) (.lv (Mi x5 x5.B6) λ(x9:List dw×cy)=>.cn (decide (40*(v1.2.2.length+x9.1.length)<=140737488355328)) (.nx ((rE (steps:Int)/\rZ/\rZ/\True/\rE ((wrap i64 (v1.1+1)):Int)/\True)/\(mE x9.2.A0 True (rE ((wrap u32 (x9.2.B6+1)):Int)/\True/\True/\True))/\rE x9.2.A0.Mem/\rE x9.2.D0/\rE x9.2.B3/\(mE zM True (rE (0:Int)/\True/\True/\True))/\rE ((v1.2.2++x9.1):List (RK.T RK.ba))/\True) (Sum.inl (wrap i64 (v1.1+1),{A0:=x9.2.A0,B6:=wrap u32 (x9.2.B6+1),D0:=x9.2.D0,B3:=x9.2.B3},v1.2.2++x9.1)))))))))) (.an (V7 v1.2.1.A0) (.lv (nm v1.2.1.A0) λ(ki:Bool)=>.br ki (.lf (Sum.inr (Sum.inr (v1.2.1,v1.2.2)))) (.an (Qb8 v1.2.1.A0) (.lv (Q3 v1.2.1.A0) λ(mI:Bool)=>.br mI (.cn (decide (40*(v1.2.1.D0.length+1)<=140737488355328)) (.an (Wl {A0:=v1.2.1.A0,B6:=v1.2.1.B6,D0:=v1.2.1.D0++[{At:=v1.2.1.A0.A4,D1:={C3:=1,N:=v1.2.1.B6,D2:=[]}}],B3:=v1.2.1.B3} v1.2.1.B6) (.lv (Mi {A0:=v1.2.1.A0,B6:=v1.2.1.B6,D0:=v1.2.1.D0++[{At:=v1.2.1.A0.A4,D1:={C3:=1,N:=v1.2.1.B6,D2:=[]}}],B3:=v1.2.1.B3} v1.2.1.B6) λ(lO:List dw×cy)=>.cn (decide (40*(v1.2.2.length+lO.1.length)<=140737488355328)) (.nx ((rE (steps:Int)/\rZ/\rZ/\True/\rE ((wrap i64 (v1.1+1)):Int)/\True)/\(mE lO.2.A0 True (rE ((wrap u32 (lO.2.B6+1)):Int)/\True/\True/\True))/\rE lO.2.A0.Mem/\rE lO.2.D0/\rE lO.2.B3/\(mE zM True (rE (0:Int)/\True/\True/\True))/\rE ((v1.2.2++lO.1):List (RK.T RK.ba))/\True) (Sum.inl (wrap i64 (v1.1+1),{A0:=lO.2.A0,B6:=wrap u32 (lO.2.B6+1),D0:=lO.2.D0,B3:=lO.2.B3},v1.2.2++lO.1)))))) (.an (Wl v1.2.1 v1.2.1.B6) (.lv (Mi v1.2.1 v1.2.1.B6) λ(me:List dw×cy)=>.cn (decide (40*(v1.2.2.length+me.1.length)<=140737488355328)) (.nx ((rE (steps:Int)/\rZ/\rZ/\True/\rE ((wrap i64 (v1.1+1)):Int)/\True)/\(mE me.2.A0 True (rE ((wrap u32 (me.2.B6+1)):Int)/\True/\True/\True))/\rE me.2.A0.Mem/\rE me.2.D0/\rE me.2.B3/\(mE zM True (rE (0:Int)/\True/\True/\True))/\rE ((v1.2.2++me.1):List (RK.T RK.ba))/\True) (Sum.inl (wrap i64 (v1.1+1),{A0:=me.2.A0,B6:=wrap u32 (me.2.B6+1),D0:=me.2.D0,B3:=me.2.B3},v1.2.2++me.1)))))))))) (.lf (Sum.inr (Sum.inr (v1.2.1,v1.2.2)))))))
def Ur r steps clock:=(I4 r steps clock).m
abbrev Qkj r steps clock:=(I4 r steps clock).p
def Z08:bw:={
 α:=(Int)×cy
 F:=λst a=>([(1,(lk st 1)),(3,.ptr 0 0 0),(6,.ptr 4 0 0),(8,.int i64 a.1)],[⟨true,154,52,.gen [[.int u32 a.2.A0.B4.X.a0,.int u32 a.2.A0.B4.X.a1,.int u32 a.2.A0.B4.X.a2,.int u32 a.2.A0.B4.X.a3,.int u32 a.2.A0.B4.X.a4,.int u32 a.2.A0.B4.X.a5,.int u32 a.2.A0.B4.X.a6,.int u32 a.2.A0.B4.X.a7,.int u32 a.2.A0.B4.X.a8,.int u32 a.2.A0.B4.X.a9,.int u32 a.2.A0.B4.X.kz,.int u32 a.2.A0.B4.X.kA,.int u32 a.2.A0.B4.X.a12,.int u32 a.2.A0.B4.X.kB,.int u32 a.2.A0.B4.X.kC,.int u32 a.2.A0.B4.X.kD,.int u32 a.2.A0.B4.Pc,.int u32 a.2.A0.B4.B7.a0,.int u32 a.2.A0.B4.B7.a1,.int u32 a.2.A0.B4.B7.a2,.int u32 a.2.A0.B4.B7.a3,.int u32 a.2.A0.B4.B7.a4,.int u32 a.2.A0.B4.B7.a5,.int u32 a.2.A0.B4.B7.a6,.int u32 a.2.A0.B4.B7.a7,.all 1,.str a.2.A0.A7.D5,.bool a.2.A0.B2.D7,.int u32 a.2.A0.B2.C7,.bool a.2.A0.B2.D6,.int u32 a.2.A0.B1.ag,.int u32 a.2.A0.B1.C4,.int u32 a.2.A0.B1.Frame,.int i64 a.2.A0.B1.C0,.int i64 a.2.A0.B1.D8,.int u32 a.2.A0.B1.B9,.int u32 a.2.A0.B1.B5,.str a.2.A0.B1.C1,.int u32 a.2.A0.C6.Frame,.int u32 a.2.A0.C6.F1,.bool a.2.A0.C6.C8,.int u32 a.2.A0.C6.C2,.bool a.2.A0.C6.B8,.int u32 a.2.A0.C6.F4,.int u32 a.2.A0.A6.C9,.int u32 a.2.A0.A6.C5,.int u64 a.2.A0.A4,.bool a.2.A0.A9,.bool a.2.A0.B0,.int u32 a.2.B6,.all 2,.all 3]]⟩,⟨false,23,1,.ints u32 a.2.A0.Mem⟩,⟨false,103,4,.av RK.ab a.2.D0⟩,⟨false,72,3,.av RK.bd a.2.B3⟩,⟨true,154,52,.gen [[(cT st 6 0),(cT st 6 1),(cT st 6 2),(cT st 6 3),(cT st 6 4),(cT st 6 5),(cT st 6 6),(cT st 6 7),(cT st 6 8),(cT st 6 9),(cT st 6 10),(cT st 6 11),(cT st 6 12),(cT st 6 13),(cT st 6 14),(cT st 6 15),(cT st 6 16),(cT st 6 17),(cT st 6 18),(cT st 6 19),(cT st 6 20),(cT st 6 21),(cT st 6 22),(cT st 6 23),(cT st 6 24),(cT st 6 25),(cT st 6 26),(cT st 6 27),(cT st 6 28),(cT st 6 29),(cT st 6 30),(cT st 6 31),(cT st 6 32),(cT st 6 33),(cT st 6 34),(cT st 6 35),(cT st 6 36),(cT st 6 37),(cT st 6 38),(cT st 6 39),(cT st 6 40),(cT st 6 41),(cT st 6 42),(cT st 6 43),(cT st 6 44),(cT st 6 45),(cT st 6 46),(cT st 6 47),(cT st 6 48),(cT st 6 49),(cT st 6 50),(cT st 6 51)]]⟩])
 a0:=λst=>((lk st 8).toInt,(⟨(mR (cT st 3) (o4 st.rows (kU (cT st 3 25) 1000000))),(cT st 3 49).toInt,(sM RK.ab st.rows (kU (cT st 3 50) 1000000)),(sM RK.bd st.rows (kU (cT st 3 51) 1000000))⟩:cy))
 jo:=λst=>[]++[(rX st 3 0),(kU (cT st 3 25) (st.rows.length+1)),(kU (cT st 3 50) (st.rows.length+2)),(kU (cT st 3 51) (st.rows.length+3)),(rX st 6 4)]}
def Z0q:bw:={
 α:=(Int)×cy×(List dw)
 F:=λst a=>([(1,(lk st 1)),(3,.ptr 0 0 0),(6,.ptr 4 0 0),(9,.all 5),(10,.int i64 a.1)],[⟨true,154,52,.gen [[.int u32 a.2.1.A0.B4.X.a0,.int u32 a.2.1.A0.B4.X.a1,.int u32 a.2.1.A0.B4.X.a2,.int u32 a.2.1.A0.B4.X.a3,.int u32 a.2.1.A0.B4.X.a4,.int u32 a.2.1.A0.B4.X.a5,.int u32 a.2.1.A0.B4.X.a6,.int u32 a.2.1.A0.B4.X.a7,.int u32 a.2.1.A0.B4.X.a8,.int u32 a.2.1.A0.B4.X.a9,.int u32 a.2.1.A0.B4.X.kz,.int u32 a.2.1.A0.B4.X.kA,.int u32 a.2.1.A0.B4.X.a12,.int u32 a.2.1.A0.B4.X.kB,.int u32 a.2.1.A0.B4.X.kC,.int u32 a.2.1.A0.B4.X.kD,.int u32 a.2.1.A0.B4.Pc,.int u32 a.2.1.A0.B4.B7.a0,.int u32 a.2.1.A0.B4.B7.a1,.int u32 a.2.1.A0.B4.B7.a2,.int u32 a.2.1.A0.B4.B7.a3,.int u32 a.2.1.A0.B4.B7.a4,.int u32 a.2.1.A0.B4.B7.a5,.int u32 a.2.1.A0.B4.B7.a6,.int u32 a.2.1.A0.B4.B7.a7,.all 1,.str a.2.1.A0.A7.D5,.bool a.2.1.A0.B2.D7,.int u32 a.2.1.A0.B2.C7,.bool a.2.1.A0.B2.D6,.int u32 a.2.1.A0.B1.ag,.int u32 a.2.1.A0.B1.C4,.int u32 a.2.1.A0.B1.Frame,.int i64 a.2.1.A0.B1.C0,.int i64 a.2.1.A0.B1.D8,.int u32 a.2.1.A0.B1.B9,.int u32 a.2.1.A0.B1.B5,.str a.2.1.A0.B1.C1,.int u32 a.2.1.A0.C6.Frame,.int u32 a.2.1.A0.C6.F1,.bool a.2.1.A0.C6.C8,.int u32 a.2.1.A0.C6.C2,.bool a.2.1.A0.C6.B8,.int u32 a.2.1.A0.C6.F4,.int u32 a.2.1.A0.A6.C9,.int u32 a.2.1.A0.A6.C5,.int u64 a.2.1.A0.A4,.bool a.2.1.A0.A9,.bool a.2.1.A0.B0,.int u32 a.2.1.B6,.all 2,.all 3]]⟩,⟨false,23,1,.ints u32 a.2.1.A0.Mem⟩,⟨false,103,4,.av RK.ab a.2.1.D0⟩,⟨false,72,3,.av RK.bd a.2.1.B3⟩,⟨true,154,52,.gen [[(cT st 6 0),(cT st 6 1),(cT st 6 2),(cT st 6 3),(cT st 6 4),(cT st 6 5),(cT st 6 6),(cT st 6 7),(cT st 6 8),(cT st 6 9),(cT st 6 10),(cT st 6 11),(cT st 6 12),(cT st 6 13),(cT st 6 14),(cT st 6 15),(cT st 6 16),(cT st 6 17),(cT st 6 18),(cT st 6 19),(cT st 6 20),(cT st 6 21),(cT st 6 22),(cT st 6 23),(cT st 6 24),(cT st 6 25),(cT st 6 26),(cT st 6 27),(cT st 6 28),(cT st 6 29),(cT st 6 30),(cT st 6 31),(cT st 6 32),(cT st 6 33),(cT st 6 34),(cT st 6 35),(cT st 6 36),(cT st 6 37),(cT st 6 38),(cT st 6 39),(cT st 6 40),(cT st 6 41),(cT st 6 42),(cT st 6 43),(cT st 6 44),(cT st 6 45),(cT st 6 46),(cT st 6 47),(cT st 6 48),(cT st 6 49),(cT st 6 50),(cT st 6 51)]]⟩,⟨false,137,4,.av RK.ba a.2.2⟩])
 a0:=λst=>((lk st 10).toInt,(⟨(mR (cT st 3) (o4 st.rows (kU (cT st 3 25) 1000000))),(cT st 3 49).toInt,(sM RK.ab st.rows (kU (cT st 3 50) 1000000)),(sM RK.bd st.rows (kU (cT st 3 51) 1000000))⟩:cy),(sM RK.ba st.rows (rN st 9)))
 jo:=λst=>[]++[(rX st 3 0),(kU (cT st 3 25) (st.rows.length+1)),(kU (cT st 3 50) (st.rows.length+2)),(kU (cT st 3 51) (st.rows.length+3)),(rX st 6 4),(rX st 9 5)]}
def Quj:List (Nat×bw):=[(6,Z08),(12,Z0q)]
def Z4c:bc:=mT 201 [] true [.agg cy.sig,.one (.int .i64),.one (.int .u32)] [] (λa r=>I4 (cy.of (aC a 0)) (aq a 1) (aq a 2)) (λX=>.du [.agg (cy.fg (X.1) (.all 0) (.all 1) (.all 2)),.all 3]) (λX=>[⟨false,23,1,.ints .u32 (X.1).A0.Mem⟩,⟨false,103,4,.av .ab (X.1).D0⟩,⟨false,72,3,.av .bd (X.1).B3⟩,⟨false,137,4,.av .ba (X.2)⟩])
theorem Qzx:bn pG Z4c:=oT (.cons Qyi (.cons Qsi (.cons Z6i (.cons Z0g (.cons Zjc (.cons Qvt (.cons Qvx (.cons Qxd (.nil))))))))) Tryz.func201 Tryz.call201 [.row 23 1 (.ints .u32),.row 103 4 (.av .ab),.row 72 3 (.av .bd),.row 137 4 (.av .ba)] Quj 3
