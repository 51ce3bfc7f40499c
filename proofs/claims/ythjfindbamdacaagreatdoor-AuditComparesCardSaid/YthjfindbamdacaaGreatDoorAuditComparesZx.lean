import Derived.Test.YthjfindbamdacaaGreatDoorAuditComparesYz
open Nat renaming blt->bJ,beq->bT,lt_succ_self->cO
open List renaming length->dK,replicate->cP,take->cZ,drop->dA,set->dG,getD->aK
open Int renaming toNat->dF,tmod->dE,tdiv->eU
open UInt8 renaming ofNat->eX,toNat->eW
set_option maxRecDepth 100000
set_option linter.all false
namespace Go.Proofs.YthjfindbamdacaaGreatDoor
open Go Go.GD Go.IntKind
noncomputable section
def Lm(m:List Int):Tree (List Int):=
.cn (bJ (0:Nat) (1:Nat)&&bT (1:Nat) (1:Nat)&&List.all [D.int u32 (0:Int)] D.plain&&decide ((0:Int)<=(m.length:Int)/\(m.length:Int)<=(m.length:Int)/\(m.length:Int)<=(9223372036854775807:Int)/\(↑(4:Nat):Int)*(m.length:Int)<=(140737488355328:Int))) (let E1:=dK (cP (dF (m.length:Int)) (0:Int));.lf (cZ (Min.min (m.length) E1) m++dA (Min.min (m.length) E1) (cP (dF (m.length:Int)) (0:Int))))
def Xj m:=(Lm m).m
abbrev Quc m:=(Lm m).p
def Zgz:ba:=mT 141 [] true [.one (.ints .u32)] [] (λa r=>Lm (du .u32 a 0)) (λX=>.all 0) (λX=>[⟨false,23,1,.ints .u32 X⟩])
theorem Zdx:bj pG Zgz:=oT (.nil) Tryz.func141 Tryz.call141 [.row 23 1 (.ints .u32)] [] 2
def FX(m:au):Tree au:=
.an (Quc m.Mem) (.lv (Xj m.Mem) λ(x0:List Int)=>.lf ({A9:=m.A9,Mem:=x0,A2:=m.A2,A7:=m.A7,A6:=m.A6,C1:=m.C1,A1:=m.A1,A0:=m.A0,A3:=m.A3,A4:=m.A4}))
def N9 m:=(FX m).m
abbrev Qin m:=(FX m).p
def Zm1:ba:=mT 87 [] true [.agg au.sig] [] (λa r=>FX (au.of (aC a 0))) (λX=>.agg (au.gy X (.all 0))) (λX=>[⟨false,23,1,.ints .u32 X.Mem⟩])
theorem Z2q:bj pG Zm1:=oT (.cons Zdx (.nil)) Tryz.func87 Tryz.call87 [.row 23 1 (.ints .u32)] [] 2
def Y2(m:List Int):Tree Int:=
.br (dE (m.length:Int) (32:Int) !=(0:Int)) (.lf 0) (.br (decide ((m.length:Int)>(1024:Int))) (.lf 0) (.lf (wrap i64 (eU (m.length:Int) 32))))
def wc m:=(Y2 m).m
def Zck:ba:=mS 157 [] true [.one (.ints .u32)] [] (λa r=>Y2 (du .u32 a 0)) (λX=>.int .i64 X) (λX=>[])
theorem Rl:bj pG Zck:=oS (.nil) Tryz.func157 Tryz.call157 [] [] 2
def Qkf(c:iO):Tree Bool:=
.lf (decide ((c.C5.length:Int)<=(16:Int)))
def Qhy c:=(Qkf c).m
def Quv:ba:=mS 158 [] true [.agg iO.sig] [] (λa r=>Qkf (iO.of (aC a 0))) (λX=>.bool X) (λX=>[])
theorem Qtc:bj pG Quv:=oS (.nil) Tryz.func158 Tryz.call158 [] [] 2
def WQ(t:iS):Tree Bool:=
.br t.C9 (.br t.C8 (.lf false) (.br t.C9 (.lf (t.B8 !=0)) (.br t.C8 (.lf true) (.lf (t.B8==0))))) (.br t.C9 (.lf (t.B8 !=0)) (.br t.C8 (.lf true) (.lf (t.B8==0))))
def SO t:=(WQ t).m
def Z3s:ba:=mS 159 [] true [.agg iS.sig] [] (λa r=>WQ (iS.of (aC a 0))) (λX=>.bool X) (λX=>[])
theorem Qyc:bj pG Z3s:=oS (.nil) Tryz.func159 Tryz.call159 [] [] 2
def WS(d0:fe)(cw:Int):Tree Bool:=
.br (decide (d0.ab>64)) (.lf false) (.br (decide (d0.B5<0)) (.lf false) (.br (decide (d0.B5>3)) (.lf false) (.br (d0.B5 !=1) (.br (d0.D1==0) (.br (d0.B4==0) (.br (d0.B0==0) (.lf (decide (d0.B6=[]))) (.lf false)) (.lf false)) (.lf false)) (.br (decide (d0.B4>=d0.ab)) (.lf false) (.br (decide (wrap i64 d0.B0>=cw)) (.lf false) (.br (d0.D1==1) (.br (decide (d0.B6=[])) (.lf true) (.br (d0.D1==2) (.lf ((d0.B6.length:Int)==(128:Int))) (.lf false))) (.br (d0.D1==2) (.lf ((d0.B6.length:Int)==(128:Int))) (.lf false))))))))
def SQ d0 cw:=(WS d0 cw).m
def Z58:ba:=mS 160 [] true [.agg fe.sig,.one (.int .i64)] [] (λa r=>WS (fe.of (aC a 0)) (ar a 1)) (λX=>.bool X) (λX=>[])
theorem Z0o:bj pG Z58:=oS (.nil) Tryz.func160 Tryz.call160 [] [] 2
def WR(n:gq)(cw:Int):Tree Bool:=
let T1:Tree (Bool):=.br n.B3 (.br (decide (n.D8>=1)) (.lf (decide (n.D8<=128))) (.lf false)) (.lf (n.D8==0));.br n.C2 (.br n.B3 (.lf false) (.br (decide (wrap i64 n.B7>=cw)) (.lf false) (.br (!n.C2) (.br (n.B7 !=0) (.lf false) T1) T1))) (.br (!n.C2) (.br (n.B7 !=0) (.lf false) T1) T1)
def SP n cw:=(WR n cw).m
def Z98:ba:=mS 161 [] true [.agg gq.sig,.one (.int .i64)] [] (λa r=>WR (gq.of (aC a 0)) (ar a 1)) (λX=>.bool X) (λX=>[])
theorem Z59:bj pG Z98:=oS (.nil) Tryz.func161 Tryz.call161 [] [] 2
def Qf8(b:gh)(cw:Int)(z:(Int)):Prop:=0<=z/\z<=32
def SX(b:gh)(cw:Int)(z:(Int)):Nat:=(32-z).toNat
def Lf(b:gh)(cw:Int):Tree Bool:=
.lp inferInstance (SX b cw 0+1) ((rE (cw:Int)/\rZ/\rE (0:Int)/\True)/\(rE b.C3/\rE b.C0/\True)/\True) 0 λ(v0:Int)=>.br (decide (v0<32)) (.cn (decide (0<=wrap u64 v0)) (let T1:Tree ((Int)⊕(Bool)):=.nx ((rE (cw:Int)/\rZ/\rE ((wrap i64 (v0+1)):Int)/\True)/\(rE b.C3/\rE b.C0/\True)/\True) (Sum.inl (wrap i64 (v0+1)));.br (bb u32 (bf u32 b.C0 (wrap u64 v0)) (1:Int)==(1:Int)) (.br (decide (v0>=cw)) (.lf (Sum.inr false)) T1) T1)) (.lf (Sum.inr true))
def SY b cw:=(Lf b cw).m
theorem Qr(b:gh)(cw:Int):(Lf b cw).p:=by
 unfold Tree.p Lf
 repeat'(first|refine fg (inv:=Qf8 b cw) (μ:=SX b cw) ?_ (cO _) (λ_ _=>?_)|exact trivial|refine aa (λ_=>?_) (λ_=>?_)|refine ax ?_ ?_|refine cr ?_ ?_|refine aq (λ_ _=>?_)|refine ek ?_|refine bu ?_|refine And.intro ?_ ?_)
 all_goals((try simp only[Qf8,SX]at*);exact ou)
def Qtz:bw:={
 α:=(Int)
 F:=λst a=>([(1,(lk st 1)),(2,.ptr 0 0 0),(5,.int i64 a)],[⟨true,39,2,.gen [[(cT st 2 0),(cT st 2 1)]]⟩])
 a0:=λst=>(lk st 5).toInt
 ji:=λst=>[]++[(rX st 2 0)]}
def Qpr:List (Nat×bw):=[(2,Qtz)]
def Qv9:ba:=mS 162 [] true [.agg gh.sig,.one (.int .i64)] [] (λa r=>Lf (gh.of (aC a 0)) (ar a 1)) (λX=>.bool X) (λX=>[])
theorem Qsy:bj pG Qv9:=oS (.nil) Tryz.func162 Tryz.call162 [] Qpr 3 (λ_ _ _=>by kernel_rfl) (λa r=>Qr (gh.of (aC a 0)) (ar a 1)) (λ_ X=>by kernel_rfl)
def Xa(m:au):Tree Bool:=
.lv (wc m.Mem) λ(x0:Int)=>.br (decide (x0<1)) (.lf false) (.br (m.A9.X.a0 !=0) (.lf false) (.br (decide (m.A9.B2.a0>31)) (.lf false) (.br (decide (m.A9.B2.a7>31)) (.lf false) (.br (decide (m.A9.B2.a6>255)) (.lf false) (.br (dE m.A9.B2.a1 (4:Int) !=(0:Int)) (.lf false) (.lv (Qhy m.A2) λ(x1:Bool)=>.br (!x1) (.lf false) (.lv (SO m.A7) λ(x2:Bool)=>.br (!x2) (.lf false) (.lv (SQ m.A6 x0) λ(x3:Bool)=>.br (!x3) (.lf false) (.lv (SP m.C1 x0) λ(x4:Bool)=>.br (!x4) (.lf false) (.lv (SY m.A1 x0) λ(x5:Bool)=>.br (!x5) (.lf false) (.br (decide (m.A0<=1152921504606846976)) (.br m.A3 (.lf (!m.A4)) (.lf true)) (.lf false))))))))))))
def tj m:=(Xa m).m
def Zo4:ba:=mS 101 [] true [.agg au.sig] [] (λa r=>Xa (au.of (aC a 0))) (λX=>.bool X) (λX=>[])
theorem Z0b:bj pG Zo4:=oS (.cons Rl (.cons Qtc (.cons Qyc (.cons Z0o (.cons Z59 (.cons Qsy (.nil))))))) Tryz.func101 Tryz.call101 [] [] 2
def Ta(t:iS):Tree (iS×Bool):=
.br (!t.C9) (.lf (t,false)) (.lf ({C9:=false,B8:=t.B8,C8:=true},true))
def Xm t:=(Ta t).m
def Zij:ba:=mS 163 [] true [.agg iS.sig] [] (λa r=>Ta (iS.of (aC a 0))) (λX=>.dt [.agg (iS.cells (X.1)),.bool (X.2)]) (λX=>[])
theorem Zdr:bj pG Zij:=oS (.nil) Tryz.func163 Tryz.call163 [] [] 2
def QL(c:iO)(b:Int):Tree (iO×Bool):=
.br (decide ((c.C5.length:Int)>=(16:Int))) (.lf (c,false)) (.cn (decide (c.C5.length+1<=maxLen)) (.lf ({C5:=c.C5++[(λ(n:Int)=>eX n.toNat) b]},true)))
def Z2t c b:=(QL c b).m
abbrev Qtu c b:=(QL c b).p
def Ziu:ba:=mT 164 [] true [.agg iO.sig,.one (.int .u8)] [] (λa r=>QL (iO.of (aC a 0)) (ar a 1)) (λX=>.dt [.agg (iO.cells (X.1)),.bool (X.2)]) (λX=>[])
theorem Zde:bj pG Ziu:=oT (.nil) Tryz.func164 Tryz.call164 [] [] 2
def N0(m:List Int)(frame:Int):Tree Bool:=
.lv (wc m) λ(x0:Int)=>.lf (decide (wrap u64 frame<wrap u64 x0))
def nD m frame:=(N0 m frame).m
def Zgs:ba:=mS 237 [] true [.one (.ints .u32),.one (.int .u32)] [] (λa r=>N0 (du .u32 a 0) (ar a 1)) (λX=>.bool X) (λX=>[])
theorem Rm:bj pG Zgs:=oS (.cons Rl (.nil)) Tryz.func237 Tryz.call237 [] [] 2
def Qd(m:List Int)(addr size v:Int):Tree (List Int):=
let E1:=bT 1 1&&bJ 0 1&&decide (0<=wrap u32 (eU addr 4)/\wrap u32 (eU addr 4)<(m.length:Int));let E2:=dF (wrap u32 (eU addr 4));.br (size==4) (.cn E1 (.lf (dG m E2 v))) (.cn E1 (let E3:=decide (0<=wrap u32 (8*dE addr 4));.cn E3 (.cn E3 (.cn E1 (.lf (dG m E2 (ie u32 (nC u32 (m.getD E2 0) (ea u32 255 (wrap u32 (8*dE addr 4)))) (ea u32 (bb u32 v 255) (wrap u32 (8*dE addr 4))))))))))
def AO m addr size v:=(Qd m addr size v).m
abbrev Sy m addr size v:=(Qd m addr size v).p
def Zmr:ba:=mT 278 [true,false,false,false] true [.one (.row 0),.one (.int .u32),.one (.int .i64),.one (.int .u32)] [.arr 23 1 (.ints .u32)] (λa r=>Qd (gx .u32 r 0) (ar a 1) (ar a 2) (ar a 3)) (λX=>.dt []) (λX=>[⟨false,23,1,.ints .u32 X⟩])
theorem Z06:bj pG Zmr:=oT (.nil) Tryz.func278 Tryz.call278 [] [] 2
def Ww(m:List Int)(frame:Int)(s:List UInt8)(z:(Int)×(List Int)):Nat:=(128-z.1).toNat
def Gi(m:List Int)(frame:Int)(s:List UInt8):Tree (List Int):=
.lp inferInstance (Ww m frame s (0,m)+1) ((True/\rE (frame:Int)/\rE (s:List UInt8)/\rE (0:Int)/\True)/\rE (m:List Int)/\True) (0,m) λ(v0:Int×List Int)=>.br (decide (v0.1<(s.length:Int))) (.br (decide (v0.1<128)) (.cn (decide (0<=v0.1/\v0.1<(s.length:Int))) (let E1:=wrap u32 (↑(eW (s.getD v0.1.toNat (0:UInt8))):Int);let E2:=wrap u32 (wrap i64 (wrap i64 (frame*128)+v0.1));.an (Sy v0.2 E2 1 E1) (.lv (AO v0.2 E2 1 E1) λ(x0:List Int)=>.nx ((True/\rE (frame:Int)/\rE (s:List UInt8)/\rE ((wrap i64 (v0.1+1)):Int)/\True)/\rE (x0:List Int)/\True) (Sum.inl (wrap i64 (v0.1+1),x0))))) (.lf (Sum.inr v0.2))) (.lf (Sum.inr v0.2))
def NJ m frame s:=(Gi m frame s).m
abbrev Qko m frame s:=(Gi m frame s).p
def Zcv:bw:={
 α:=(Int)×(List Int)
 F:=λst a=>([(0,.all 0),(1,(lk st 1)),(2,(lk st 2)),(6,.int i64 a.1)],[⟨false,23,1,.ints u32 a.2⟩])
 a0:=λst=>((lk st 6).toInt,(rY st.rows 0))
 ji:=λst=>[0]++[]}
def Z40:List (Nat×bw):=[(1,Zcv)]
def Zge:ba:=mT 238 [true,false,false] true [.one (.row 0),.one (.int .i64),.one (.str)] [.arr 23 1 (.ints .u32)] (λa r=>Gi (gx .u32 r 0) (ar a 1) (gw a 2)) (λX=>.dt []) (λX=>[⟨false,23,1,.ints .u32 X⟩])
theorem Qxr:bj pG Zge:=oT (.cons Z06 (.nil)) Tryz.func238 Tryz.call238 [] Z40 3
def Gu(d0:fe)(m:List Int)(e:jX):Tree (fe×Bool×(List Int)):=
.br (d0.B5 !=1) (.lf (d0,false,m)) (.br (e.C4 !=4) (.lf (d0,false,m)) (.br (decide (e.N>1)) (.lf (d0,false,m)) (let E4:=({ab:=d0.ab,B9:=d0.B9,Frame:=d0.Frame,B5:=2,D1:=0,B4:=0,B0:=0,B6:=[]}:fe);let E5:=({ab:=d0.ab,B9:=d0.B9,Frame:=d0.Frame,B5:=3,D1:=0,B4:=0,B0:=0,B6:=[]}:fe);let T2:Tree ((fe×Bool×(List Int))):=.br (e.N==1) (.lf (E4,true,m)) (.lf (E5,true,m));let E6:=decide ((e.D2.length:Int)>(0:Int));.br (e.N==1) (let T1:Tree ((fe×Bool×(List Int))):=.br (d0.D1==1) (.an (Qko m (wrap i64 d0.B0) e.D2) (.lv (NJ m (wrap i64 d0.B0) e.D2) λ(x1:List Int)=>.br (e.N==1) (.lf (E4,true,x1)) (.lf (E5,true,x1)))) T2;let T3:Tree ((fe×Bool×(List Int))):=.br (!d0.D1==1) (.br E6 (.lf (d0,false,m)) T1) T1;.br (d0.D1==1) (.br ((e.D2.length:Int) !=(128:Int)) (.lf (d0,false,m)) (.lv (nD m d0.B0) λ(x0:Bool)=>.br (!x0) (.lf (d0,false,m)) T3)) T3) (.br E6 (.lf (d0,false,m)) T2))))
def La d0 m e:=(Gu d0 m e).m
abbrev Qoh d0 m e:=(Gu d0 m e).p
def Za7:ba:=mT 165 [false,true,false] true [.agg fe.sig,.one (.row 0),.agg jX.sig] [.arr 23 1 (.ints .u32)] (λa r=>Gu (fe.of (aC a 0)) (gx .u32 r 0) (jX.of (aC a 2))) (λX=>.dt [.agg (fe.cells (X.1)),.bool (X.2.1)]) (λX=>[⟨false,23,1,.ints .u32 (X.2.2)⟩])
theorem Z5n:bj pG Za7:=oT (.cons Rm (.cons Qxr (.nil))) Tryz.func165 Tryz.call165 [] [] 2
def Lb(n:gq)(m:List Int)(frame:List UInt8):Tree (gq×Bool×(List Int)):=
.br (!n.C2) (.lf (n,false,m)) (.br (decide ((frame.length:Int)<(1:Int))) (.lf (n,false,m)) (.br (decide ((frame.length:Int)>(128:Int))) (.lf (n,false,m)) (.lv (nD m n.B7) λ(x0:Bool)=>.br (!x0) (.lf (n,false,m)) (.an (Qko m (wrap i64 n.B7) frame) (.lv (NJ m (wrap i64 n.B7) frame) λ(x1:List Int)=>.lf ({Frame:=n.Frame,D6:=n.D6,C2:=false,B7:=0,B3:=true,D8:=wrap u32 (frame.length:Int)},true,x1))))))
def N1 n m frame:=(Lb n m frame).m
abbrev Qok n m frame:=(Lb n m frame).p
def Zb2:ba:=mT 166 [false,true,false] true [.agg gq.sig,.one (.row 0),.one (.str)] [.arr 23 1 (.ints .u32)] (λa r=>Lb (gq.of (aC a 0)) (gx .u32 r 0) (gw a 2)) (λX=>.dt [.agg (gq.cells (X.1)),.bool (X.2.1)]) (λX=>[⟨false,23,1,.ints .u32 (X.2.2)⟩])
theorem Z44:bj pG Zb2:=oT (.cons Rm (.cons Qxr (.nil))) Tryz.func166 Tryz.call166 [] [] 2
def Gz(m:au)(e:jX):Tree (Bool×au):=
.br m.A4 (.lf (false,m)) (let T1:Tree ((Bool×au)):=.br (e.C4==4) (.an (Qoh m.A6 m.Mem e) (.lv (La m.A6 m.Mem e) λ(x2:fe×Bool×List Int)=>.lf (x2.2.1,{A9:=m.A9,Mem:=x2.2.2,A2:=m.A2,A7:=m.A7,A6:=x2.1,C1:=m.C1,A1:=m.A1,A0:=m.A0,A3:=m.A3,A4:=m.A4}))) (let T3:Tree ((Bool×au)):=.br (e.C4==6) (.br (decide (e.D2=[])) (.lf (true,{A9:=m.A9,Mem:=m.Mem,A2:=m.A2,A7:=m.A7,A6:=m.A6,C1:=m.C1,A1:={C3:=e.N,C0:=m.A1.C0},A0:=m.A0,A3:=m.A3,A4:=m.A4})) (.lf (false,m))) (.lf (false,m));.br (e.C4==5) (.br (e.N==0) (.an (Qok m.C1 m.Mem e.D2) (.lv (N1 m.C1 m.Mem e.D2) λ(x3:gq×Bool×List Int)=>.lf (x3.2.1,{A9:=m.A9,Mem:=x3.2.2,A2:=m.A2,A7:=m.A7,A6:=m.A6,C1:=x3.1,A1:=m.A1,A0:=m.A0,A3:=m.A3,A4:=m.A4}))) T3) T3);let T2:Tree ((Bool×au)):=.br (e.C4==3) (.br (decide (e.N<=255)) (.br (decide (e.D2=[])) (.an (Qtu m.A2 (wrap u8 e.N)) (.lv (Z2t m.A2 (wrap u8 e.N)) λ(x1:iO×Bool)=>.lf (x1.2,{A9:=m.A9,Mem:=m.Mem,A2:=x1.1,A7:=m.A7,A6:=m.A6,C1:=m.C1,A1:=m.A1,A0:=m.A0,A3:=m.A3,A4:=m.A4}))) T1) T1) T1;.br (e.C4==2) (.br (e.N==0) (.br (decide (e.D2=[])) (.lv (Xm m.A7) λ(x0:iS×Bool)=>.lf (x0.2,{A9:=m.A9,Mem:=m.Mem,A2:=m.A2,A7:=x0.1,A6:=m.A6,C1:=m.C1,A1:=m.A1,A0:=m.A0,A3:=m.A3,A4:=m.A4})) T2) T2) T2)
def tn m e:=(Gz m e).m
abbrev Qqj m e:=(Gz m e).p
def Zg0:ba:=mT 103 [true,false] true [.ptr 0,.agg jX.sig] [.box 42 49 (au.nN (.row 1)),.arr 23 1 (.ints .u32)] (λa r=>Gz (au.Bl (r.getD 0 default).cs (gx .u32 r 1)) (jX.of (aC a 1))) (λX=>.bool (X.1)) (λX=>[⟨true,42,49,.gen [(au.gy (X.2) (.all 1))]⟩,⟨false,23,1,.ints .u32 (X.2).Mem⟩])
theorem Z9v:bj pG Zg0:=oT (.cons Zdr (.cons Zde (.cons Z5n (.cons Z44 (.nil))))) Tryz.func103 Tryz.call103 [.row 23 1 (.ints .u32)] [] 2
def QH(is:Bool)(n:Int):Tree Int:=
.br is (.cn (decide (0<=wrap u64 n)) (.lf (ea u32 1 (wrap u64 n)))) (.lf 0)
def DD is n:=(QH is n).m
abbrev Rn is n:=(QH is n).p
def Ziy:ba:=mT 292 [] true [.one (.bool),.one (.int .i64)] [] (λa r=>QH (uB a 0) (ar a 1)) (λX=>.int .u32 X) (λX=>[])
theorem Zcw:bj pG Ziy:=oT (.nil) Tryz.func292 Tryz.call292 [] [] 2
def Qfy(t:iS):Tree Bool:=
.lf t.C8
def Xd t:=(Qfy t).m
def Qrj:ba:=mS 293 [] true [.agg iS.sig] [] (λa r=>Qfy (iS.of (aC a 0))) (λX=>.bool X) (λX=>[])
theorem Qpv:bj pG Qrj:=oS (.nil) Tryz.func293 Tryz.call293 [] [] 2
def Qe7(c:iO):Tree Bool:=
.lf (decide ((c.C5.length:Int)>(0:Int)))
def SS c:=(Qe7 c).m
def Qmo:ba:=mS 294 [] true [.agg iO.sig] [] (λa r=>Qe7 (iO.of (aC a 0))) (λX=>.bool X) (λX=>[])
theorem Qm9:bj pG Qmo:=oS (.nil) Tryz.func294 Tryz.call294 [] [] 2
def Qib(d0:fe):Tree Bool:=
.br (d0.B5==2) (.lf true) (.lf (d0.B5==3))
def Xe d0:=(Qib d0).m
def Qsu:ba:=mS 295 [] true [.agg fe.sig] [] (λa r=>Qib (fe.of (aC a 0))) (λX=>.bool X) (λX=>[])
theorem Qri:bj pG Qsu:=oS (.nil) Tryz.func295 Tryz.call295 [] [] 2
def Qjv(n:gq):Tree Bool:=
.lf n.B3
def Xf n:=(Qjv n).m
def Qup:ba:=mS 296 [] true [.agg gq.sig] [] (λa r=>Qjv (gq.of (aC a 0))) (λX=>.bool X) (λX=>[])
theorem Qtv:bj pG Qup:=oS (.nil) Tryz.func296 Tryz.call296 [] [] 2
def Qn9(b:gh)(z:(Int)×(Int)):Prop:=0<=z.2/\z.2<=32
def Qep(b:gh)(z:(Int)×(Int)):Nat:=(32-z.2).toNat
def UY(b:gh):Tree Int:=
.lp inferInstance (Qep b (0,0)+1) ((rZ/\rE (0:Int)/\rE (0:Int)/\True)/\(rE b.C3/\rE b.C0/\True)/\True) (0,0) λ(v0:Int×Int)=>.br (decide (v0.2<32)) (.cn (decide (0<=wrap u64 v0.2)) (.nx ((rZ/\rE ((wrap i64 (v0.1+wrap i64 (bb u32 (bf u32 b.C0 (wrap u64 v0.2)) 1))):Int)/\rE ((wrap i64 (v0.2+1)):Int)/\True)/\(rE b.C3/\rE b.C0/\True)/\True) (Sum.inl (wrap i64 (v0.1+wrap i64 (bb u32 (bf u32 b.C0 (wrap u64 v0.2)) 1)),wrap i64 (v0.2+1))))) (.lf (Sum.inr v0.1))
def K7 b:=(UY b).m
theorem Z4b(b:gh):(UY b).p:=by
 unfold Tree.p UY
 repeat'(first|refine fg (inv:=Qn9 b) (μ:=Qep b) ?_ (cO _) (λ_ _=>?_)|exact trivial|refine aa (λ_=>?_) (λ_=>?_)|refine ax ?_ ?_|refine cr ?_ ?_|refine aq (λ_ _=>?_)|refine ek ?_|refine bu ?_|refine And.intro ?_ ?_)
 all_goals((try simp only[Qn9,Qep]at*);exact ou)
def Z96:bw:={
 α:=(Int)×(Int)
 F:=λst a=>([(1,.ptr 0 0 0),(3,.int i64 a.1),(4,.int i64 a.2)],[⟨true,39,2,.gen [[(cT st 1 0),(cT st 1 1)]]⟩])
 a0:=λst=>((lk st 3).toInt,(lk st 4).toInt)
 ji:=λst=>[]++[(rX st 1 0)]}
def Z3u:List (Nat×bw):=[(3,Z96)]
def Zem:ba:=mS 282 [] true [.agg gh.sig] [] (λa r=>UY (gh.of (aC a 0))) (λX=>.int .i64 X) (λX=>[])
theorem Qt6:bj pG Zem:=oS (.nil) Tryz.func282 Tryz.call282 [] Z3u 3 (λ_ _ _=>by kernel_rfl) (λa r=>Z4b (gh.of (aC a 0))) (λ_ X=>by kernel_rfl)
def W5(b:gh):Tree Bool:=
.lv (K7 b) λ(x0:Int)=>.lf (wrap u64 x0 !=wrap u64 b.C3)
def N4 b:=(W5 b).m
def Qnw:ba:=mS 297 [] true [.agg gh.sig] [] (λa r=>W5 (gh.of (aC a 0))) (λX=>.bool X) (λX=>[])
theorem Qma:bj pG Qnw:=oS (.cons Qt6 (.nil)) Tryz.func297 Tryz.call297 [] [] 2
def QI(m:au):Tree Int:=
.lv (Xd m.A7) λ(x0:Bool)=>.an (Rn x0 0) (.lv (DD x0 0) λ(x1:Int)=>.lv (SS m.A2) λ(x2:Bool)=>.an (Rn x2 1) (.lv (DD x2 1) λ(x3:Int)=>.lv (Xe m.A6) λ(x4:Bool)=>.an (Rn x4 2) (.lv (DD x4 2) λ(x5:Int)=>.lv (Xf m.C1) λ(x6:Bool)=>.an (Rn x6 3) (.lv (DD x6 3) λ(x7:Int)=>.lv (N4 m.A1) λ(x8:Bool)=>.an (Rn x8 4) (.lv (DD x8 4) λ(x9:Int)=>.lf (ie u32 (ie u32 (ie u32 (ie u32 x1 x3) x5) x7) x9))))))
def N7 m:=(QI m).m
abbrev Qqk m:=(QI m).p
def Zfd:ba:=mT 239 [] true [.agg au.sig] [] (λa r=>QI (au.of (aC a 0))) (λX=>.int .u32 X) (λX=>[])
theorem Zao:bj pG Zfd:=oT (.cons Zcw (.cons Qpv (.cons Qm9 (.cons Qri (.cons Qtv (.cons Qma (.nil))))))) Tryz.func239 Tryz.call239 [] [] 2
def Lj(m:au):Tree Int:=
.an (Qqk m) (.lv (N7 m) λ(x0:Int)=>.lf (bb u32 x0 m.A9.B2.a7))
def AR m:=(Lj m).m
abbrev Qel m:=(Lj m).p
def Z4d:ba:=mT 167 [] true [.agg au.sig] [] (λa r=>Lj (au.of (aC a 0))) (λX=>.int .u32 X) (λX=>[])
theorem Qom:bj pG Z4d:=oT (.cons Zao (.nil)) Tryz.func167 Tryz.call167 [] [] 2
def Lk(m:au):Tree Bool:=
.br m.A3 (.an (Qel m) (.lv (AR m) λ(x0:Int)=>.lf (x0==0))) (.lf false)
def tl m:=(Lk m).m
abbrev Qkr m:=(Lk m).p
def Zii:ba:=mT 104 [] true [.agg au.sig] [] (λa r=>Lk (au.of (aC a 0))) (λX=>.bool X) (λX=>[])
theorem Qx4:bj pG Zii:=oT (.cons Qom (.nil)) Tryz.func104 Tryz.call104 [] [] 2
def IE(m:au):Tree Bool:=
.lv (tj m) λ(x0:Bool)=>.br (!x0) (.lf true) (.br m.A4 (.lf true) (.an (Qkr m) (.lv (tl m) λ(x1:Bool)=>.br x1 (.lf true) (.lf (decide (m.A0>=1152921504606846976))))))
def sr m:=(IE m).m
abbrev Qiy m:=(IE m).p
def Zd8:ba:=mT 88 [] true [.agg au.sig] [] (λa r=>IE (au.of (aC a 0))) (λX=>.bool X) (λX=>[])
theorem Zax:bj pG Zd8:=oT (.cons Z0b (.cons Qx4 (.nil))) Tryz.func88 Tryz.call88 [] [] 2
end
noncomputable section
def Z6h(b:Bool):Tree Int:=
.br b (.lf 1) (.lf 0)
def BT b:=(Z6h b).m
def Zo6:ba:=mS 269 [] true [.one (.bool)] [] (λa r=>Z6h (uB a 0)) (λX=>.int .u32 X) (λX=>[])
theorem Qrn:bj pG Zo6:=oS (.nil) Tryz.func269 Tryz.call269 [] [] 2
def NO(c:bg)(ov bad:Int):Tree bg:=
.lv (BT (bb u32 c.B2.a0 (1:Int) !=(0:Int))) λ(x0:Int)=>.lv (BT (bb u32 c.B2.a0 (2:Int) !=(0:Int))) λ(x1:Int)=>.lf ({X:=c.X,Pc:=c.B2.a1,B2:={a0:=ie u32 (nC u32 (ie u32 (ie u32 (nC u32 c.B2.a0 24) (wrap u32 (8*x0))) (wrap u32 (16*x1))) 2) 1,a1:=c.B2.a1,a2:=c.Pc,a3:=wrap u32 ov,a4:=bad,a5:=c.B2.a5,a6:=c.B2.a6,a7:=c.B2.a7}})
def px c ov bad:=(NO c ov bad).m
def Zim:ba:=mS 208 [] true [.agg bg.sig,.one (.int .i64),.one (.int .u32)] [] (λa r=>NO (bg.of (aC a 0)) (ar a 1) (ar a 2)) (λX=>.agg (bg.cells X)) (λX=>[])
theorem UZ:bj pG Zim:=oS (.cons Qrn (.nil)) Tryz.func208 Tryz.call208 [] [] 2
def Iz(m:List Int)(addr size:Int):Tree Bool:=
let T1:Tree (Bool):=.cn (decide (wrap u32 size≠0)) (.br (dE addr (wrap u32 size)==0) (.lv (wc m) λ(x0:Int)=>.lf (decide (addr<wrap u32 (wrap i64 (128*x0))))) (.lf false));.br (size !=1) (.br (size !=4) (.lf false) T1) T1
def rp m addr size:=(Iz m addr size).m
abbrev Qc0 m addr size:=(Iz m addr size).p
def Zbj:ba:=mT 240 [] true [.one (.ints .u32),.one (.int .u32),.one (.int .i64)] [] (λa r=>Iz (du .u32 a 0) (ar a 1) (ar a 2)) (λX=>.bool X) (λX=>[])
theorem Qj5:bj pG Zbj:=oT (.cons Rl (.nil)) Tryz.func240 Tryz.call240 [] [] 2
def Ak(m:List Int)(addr size:Int):Tree (Int×Bool):=
.an (Qc0 m addr size) (.lv (rp m addr size) λ(x0:Bool)=>.br (!x0) (.lf (0,false)) (.cn (bT 1 1&&bJ 0 1&&decide (0<=wrap u32 (eU addr 4)/\wrap u32 (eU addr 4)<(m.length:Int))) (.br (size==1) (.cn (decide (0<=wrap u32 (8*dE addr 4))) (.lf (bb u32 (bf u32 (m.getD (dF (wrap u32 (eU addr 4))) 0) (wrap u32 (8*dE addr 4))) 255,true))) (.lf (m.getD (dF (wrap u32 (eU addr 4))) 0,true)))))
def kB m addr size:=(Ak m addr size).m
abbrev U0 m addr size:=(Ak m addr size).p
def Zix:ba:=mT 168 [] true [.one (.ints .u32),.one (.int .u32),.one (.int .i64)] [] (λa r=>Ak (du .u32 a 0) (ar a 1) (ar a 2)) (λX=>.dt [.int .u32 (X.1),.bool (X.2)]) (λX=>[])
theorem Qno:bj pG Zix:=oT (.cons Qj5 (.nil)) Tryz.func168 Tryz.call168 [] [] 2
def Gh(w:Int):Tree (gj×Bool):=
.lv (oC (wrap i64 (bf u32 w 24))) λ(x0:Int)=>let E5:=({Op:=0,A:=0,B:=0,C:=0,bh:=0}:gj);.br (x0==0) (.lf (E5,false)) (.br (x0==2) (let E3:=({Op:=wrap i64 (bf u32 w 24),A:=wrap i64 (bb u32 (bf u32 w 20) 15),B:=wrap i64 (bb u32 (bf u32 w 16) 15),C:=wrap i64 (bb u32 w 65535),bh:=0}:gj);.lv (Du E3) λ(x1:Bool)=>.br (!x1) (.lf (E5,false)) (.lf (E3,true))) (let T1:Tree ((gj×Bool)):=let E2:=({Op:=wrap i64 (bf u32 w 24),A:=wrap i64 (bb u32 (bf u32 w 20) 15),B:=wrap i64 (bb u32 (bf u32 w 16) 15),C:=0,bh:=wrap i32 (wrap i16 (bb u32 w 65535))}:gj);.lv (Du E2) λ(x2:Bool)=>.br (!x2) (.lf (E5,false)) (.lf (E2,true));.br (x0==3) T1 (.br (x0==7) T1 (let E4:=({Op:=wrap i64 (bf u32 w 24),A:=wrap i64 (bb u32 (bf u32 w 20) 15),B:=wrap i64 (bb u32 (bf u32 w 16) 15),C:=0,bh:=wrap i32 (bb u32 w 65535)}:gj);.lv (Du E4) λ(x4:Bool)=>.br (!x4) (.lf (E5,false)) (.lf (E4,true))))))
def pP w:=(Gh w).m
def Z9h:ba:=mS 169 [] true [.one (.int .u32)] [] (λa r=>Gh (ar a 0)) (λX=>.dt [.agg (gj.cells (X.1)),.bool (X.2)]) (λX=>[])
theorem Qq9:bj pG Z9h:=oS (.cons Rb (.cons Qu2 (.nil))) Tryz.func169 Tryz.call169 [] [] 2
def Qxf(access:Int):Tree Bool:=
.br (decide (access>=1)) (.lf (decide (access<=3))) (.lf false)
def KU access:=(Qxf access).m
def Zdg:ba:=mS 270 [] true [.one (.int .i64)] [] (λa r=>Qxf (ar a 0)) (λX=>.bool X) (λX=>[])
theorem Qs6:bj pG Zdg:=oS (.nil) Tryz.func270 Tryz.call270 [] [] 2
def Qx0(c:bg):Tree Bool:=
.lf (bb u32 c.B2.a0 (5:Int)==(4:Int))
def SG c:=(Qx0 c).m
def Zdi:ba:=mS 271 [] true [.agg bg.sig] [] (λa r=>Qx0 (bg.of (aC a 0))) (λX=>.bool X) (λX=>[])
theorem Zby:bj pG Zdi:=oS (.nil) Tryz.func271 Tryz.call271 [] [] 2
def K4(access:Int):Tree Int:=
.br (access==1) (.lf 4) (.br (access==3) (.lf 6) (.lf 5))
def tg access:=(K4 access).m
def Z3z:ba:=mS 272 [] true [.one (.int .i64)] [] (λa r=>K4 (ar a 0)) (λX=>.int .i64 X) (λX=>[])
theorem Qon:bj pG Z3z:=oS (.nil) Tryz.func272 Tryz.call272 [] [] 2
def Gl(m:List Int)(root va access:Int):Tree re:=
.lv (tg access) λ(x0:Int)=>.lv (wc m) λ(x1:Int)=>.lv (KU access) λ(x2:Bool)=>let E4:=({Addr:=0,E0:=0,D9:=x0}:re);.br (!x2) (.lf (E4)) (.br (decide (va>=4096)) (.lf (E4)) (.br (decide (root>=wrap u32 x1)) (.lf (E4)) (let E6:=wrap u32 (root*128)+wrap u32 (4*wrap u32 (eU va 128));let E3:=eU (wrap u32 E6) 4;.cn (bT 1 1&&bJ 0 1&&decide (0<=wrap u32 E3/\wrap u32 E3<(m.length:Int))) (let E5:=m.getD (dF (wrap u32 E3)) 0;.br (bb u32 E5 (1:Int)==(0:Int)) (.lf (E4)) (let T1:Tree (re):=.br (decide (bb u32 (bf u32 E5 8) 255>=wrap u32 x1)) (.lf (E4)) (.lf ({Addr:=wrap u32 (wrap u32 (bb u32 (bf u32 E5 8) (255:Int)*(128:Int))+dE va 128),E0:=wrap u32 E6,D9:=0}));let T2:Tree (re):=.br (access==1) (.br (bb u32 E5 (4:Int)==(0:Int)) (.lf (E4)) T1) T1;.br (access==3) (.br (bb u32 E5 (2:Int)==(0:Int)) (.lf (E4)) T2) T2)))))
def Al m root va access:=(Gl m root va access).m
abbrev Qt m root va access:=(Gl m root va access).p
def Zhz:ba:=mT 273 [] true [.one (.ints .u32),.one (.int .u32),.one (.int .u32),.one (.int .i64)] [] (λa r=>Gl (du .u32 a 0) (ar a 1) (ar a 2) (ar a 3)) (λX=>.agg (re.cells X)) (λX=>[])
theorem Zfy:bj pG Zhz:=oT (.cons Qon (.cons Rl (.cons Qs6 (.nil)))) Tryz.func273 Tryz.call273 [] [] 2
def KX(m:List Int)(entry access:Int):Tree (List Int):=
.an (Qc0 m entry 4) (.lv (rp m entry 4) λ(x0:Bool)=>.br (!x0) (.lf m) (let E3:=bT 1 1&&bJ 0 1&&decide (0<=wrap u32 (eU entry 4)/\wrap u32 (eU entry 4)<(m.length:Int));.cn E3 (.cn E3 (let E4:=dF (wrap u32 (eU entry 4));let E1:=dG m E4 (ie u32 (m.getD E4 0) 8);.br (access==3) (let E2:=bT 1 1&&bJ 0 1&&decide (0<=wrap u32 (eU entry 4)/\wrap u32 (eU entry 4)<(↑(dK E1):Int));.cn E2 (.cn E2 (.lf (dG E1 E4 (ie u32 (aK E1 E4 0) 16))))) (.lf E1)))))
def SE m entry access:=(KX m entry access).m
abbrev Quf m entry access:=(KX m entry access).p
def Zha:ba:=mT 274 [true,false,false] true [.one (.row 0),.one (.int .u32),.one (.int .i64)] [.arr 23 1 (.ints .u32)] (λa r=>KX (gx .u32 r 0) (ar a 1) (ar a 2)) (λX=>.dt []) (λX=>[⟨false,23,1,.ints .u32 X⟩])
theorem Zdf:bj pG Zha:=oT (.cons Qj5 (.nil)) Tryz.func274 Tryz.call274 [] [] 2
def Gn(c:bg)(m:List Int)(va size access:Int):Tree (Int×Int×(List Int)):=
.lv (KU access) λ(x0:Bool)=>.br (!x0) (.lf (0,5,m)) (let T1:Tree ((Int×Int×(List Int))):=.cn (decide (wrap u32 size≠0)) (.br (dE va (wrap u32 size) !=0) (.lf (0,3,m)) (.lv (SG c) λ(x1:Bool)=>.br (!x1) (.an (Qc0 m va size) (.lv (rp m va size) λ(x2:Bool)=>.br (!x2) (.lv (tg access) λ(x3:Int)=>.lf (0,x3,m)) (.lf (va,0,m)))) (.an (Qt m c.B2.a6 va access) (.lv (Al m c.B2.a6 va access) λ(x4:re)=>.br (x4.D9 !=0) (.lf (0,x4.D9,m)) (.an (Quf m x4.E0 access) (.lv (SE m x4.E0 access) λ(x5:List Int)=>.lf (x4.Addr,0,x5)))))));.br (size !=1) (.br (size !=4) (.lf (0,5,m)) T1) T1)
def Q1 c m va size access:=(Gn c m va size access).m
abbrev Ro c m va size access:=(Gn c m va size access).p
def Ze1:ba:=mT 209 [false,true,false,false,false] true [.agg bg.sig,.one (.row 0),.one (.int .u32),.one (.int .i64),.one (.int .i64)] [.arr 23 1 (.ints .u32)] (λa r=>Gn (bg.of (aC a 0)) (gx .u32 r 0) (ar a 2) (ar a 3) (ar a 4)) (λX=>.dt [.int .u32 (X.1),.int .i64 (X.2.1)]) (λX=>[⟨false,23,1,.ints .u32 (X.2.2)⟩])
theorem Qt5:bj pG Ze1:=oT (.cons Qs6 (.cons Zby (.cons Qj5 (.cons Qon (.cons Zfy (.cons Zdf (.nil))))))) Tryz.func209 Tryz.call209 [] [] 2
def Qjg(op:Int):Tree Bool:=
.br (decide (op>=57)) (.lf (decide (op<=64))) (.lf false)
def Gf op:=(Qjg op).m
def Qvs:ba:=mS 210 [] true [.one (.int .i64)] [] (λa r=>Qjg (ar a 0)) (λX=>.bool X) (λX=>[])
theorem Qsv:bj pG Qvs:=oS (.nil) Tryz.func210 Tryz.call210 [] [] 2
def NQ(c:bg):Tree bg:=
.lv (BT (bb u32 c.B2.a0 (8:Int) !=(0:Int))) λ(x0:Int)=>.lv (BT (bb u32 c.B2.a0 (16:Int) !=(0:Int))) λ(x1:Int)=>.lf ({X:=c.X,Pc:=c.B2.a2,B2:={a0:=ie u32 (ie u32 (nC u32 c.B2.a0 3) (wrap u32 (1*x0))) (wrap u32 (2*x1)),a1:=c.B2.a1,a2:=c.B2.a2,a3:=c.B2.a3,a4:=c.B2.a4,a5:=c.B2.a5,a6:=c.B2.a6,a7:=c.B2.a7}})
def SF c:=(NQ c).m
def Z8e:ba:=mS 275 [] true [.agg bg.sig] [] (λa r=>NQ (bg.of (aC a 0))) (λX=>.agg (bg.cells X)) (λX=>[])
theorem Z45:bj pG Z8e:=oS (.cons Qrn (.nil)) Tryz.func275 Tryz.call275 [] [] 2
def IB(c:bg)(r v:Int):Tree bg:=
.br (decide (r>0)) (.br (decide (r<16)) (.cn (bJ 0 1&&decide (0<=r/\r<(↑16:Int))) (.lf ({X:=fv.of 0 (dG (fv.l c.X) r.toNat v),Pc:=c.Pc,B2:=c.B2}))) (.lf c)) (.lf c)
def ll c r v:=(IB c r v).m
abbrev Dd c r v:=(IB c r v).p
def Zn5:ba:=mT 145 [] true [.agg bg.sig,.one (.int .i64),.one (.int .u32)] [] (λa r=>IB (bg.of (aC a 0)) (ar a 1) (ar a 2)) (λX=>.agg (bg.cells X)) (λX=>[])
theorem Rp:bj pG Zn5:=oT (.nil) Tryz.func145 Tryz.call145 [] [] 2
def K5(c:bg)(jj v:Int):Tree bg:=
let E4:=bJ 0 1&&decide (0<=jj/\jj<(↑8:Int));let T2:Tree (bg):=.cn E4 (.lf ({X:=c.X,Pc:=c.Pc,B2:=A8.of 0 (dG (A8.l c.B2) jj.toNat (bb u32 v 31))}));.br (jj==0) T2 (.br (jj==7) T2 (.br (jj==6) (.cn E4 (.lf ({X:=c.X,Pc:=c.Pc,B2:=A8.of 0 (dG (A8.l c.B2) jj.toNat (bb u32 v 255))}))) (let T3:Tree (bg):=.cn E4 (.lf ({X:=c.X,Pc:=c.Pc,B2:=A8.of 0 (dG (A8.l c.B2) jj.toNat (nC u32 v 3))}));.br (jj==1) T3 (.br (jj==2) T3 (let T1:Tree (bg):=.cn E4 (.lf ({X:=c.X,Pc:=c.Pc,B2:=A8.of 0 (dG (A8.l c.B2) jj.toNat v)}));.br (jj==3) T1 (.br (jj==4) T1 (.br (jj==5) T1 (.lf c))))))))
def NU c jj v:=(K5 c jj v).m
abbrev Qql c jj v:=(K5 c jj v).p
def Zf3:ba:=mT 276 [] true [.agg bg.sig,.one (.int .i64),.one (.int .u32)] [] (λa r=>K5 (bg.of (aC a 0)) (ar a 1) (ar a 2)) (λX=>.agg (bg.cells X)) (λX=>[])
theorem Zbh:bj pG Zf3:=oT (.nil) Tryz.func276 Tryz.call276 [] [] 2
def II(c:bg)(i:gj):Tree (bg×kD):=
.br (i.Op==56) (.lv (px c 7 0) λ(x0:bg)=>.lf (x0,{C4:=0,C6:=0,D7:=0,Value:=0})) (.br (i.Op==57) (.lv (SF c) λ(x1:bg)=>.lf (x1,{C4:=0,C6:=0,D7:=0,Value:=0})) (.br (i.Op==58) (.cn (bJ 0 1&&decide (0<=i.bh/\i.bh<(↑8:Int))) (let E3:=aK (A8.l c.B2) i.bh.toNat 0;.an (Dd c i.A E3) (.lv (ll c i.A E3) λ(x2:bg)=>.lf ({X:=x2.X,Pc:=wrap u32 (x2.Pc+4),B2:=x2.B2},{C4:=0,C6:=0,D7:=0,Value:=0})))) (let E2:=bJ 0 1&&decide (0<=i.A/\i.A<(↑16:Int));.br (i.Op==59) (.cn E2 (let E4:=aK (fv.l c.X) i.A.toNat 0;.an (Qql c (wrap i64 i.bh) E4) (.lv (NU c (wrap i64 i.bh) E4) λ(x3:bg)=>.lf ({X:=x3.X,Pc:=wrap u32 (x3.Pc+4),B2:=x3.B2},{C4:=0,C6:=0,D7:=0,Value:=0})))) (let E1:=({X:=c.X,Pc:=wrap u32 (c.Pc+4),B2:=c.B2}:bg);.br (i.Op==60) (.lf (E1,{C4:=1,C6:=wrap i64 i.bh,D7:=i.A,Value:=0})) (.br (i.Op==61) (.cn E2 (.lf (E1,{C4:=2,C6:=wrap i64 i.bh,D7:=0,Value:=aK (fv.l c.X) i.A.toNat 0}))) (.br (i.Op==62) (.lf (E1,{C4:=3,C6:=0,D7:=0,Value:=0})) (.br (i.Op==63) (.lf (E1,{C4:=5,C6:=0,D7:=0,Value:=0})) (.br (i.Op==64) (.lf (E1,{C4:=4,C6:=0,D7:=0,Value:=0})) (.lf (E1,{C4:=0,C6:=0,D7:=0,Value:=0}))))))))))
def SI c i:=(II c i).m
abbrev Qml c i:=(II c i).p
def Zau:ba:=mT 211 [] true [.agg bg.sig,.agg gj.sig] [] (λa r=>II (bg.of (aC a 0)) (gj.of (aC a 1))) (λX=>.dt [.agg (bg.cells (X.1)),.agg (kD.cells (X.2))]) (λX=>[])
theorem Z4u:bj pG Zau:=oT (.cons UZ (.cons Z45 (.cons Rp (.cons Zbh (.nil))))) Tryz.func211 Tryz.call211 [] [] 2
def Qxz(op a b:Int):Tree Bool:=
.br (op==40) (.lf (a==b)) (.br (op==41) (.lf (a !=b)) (.br (op==42) (.lf (decide (wrap i32 a<wrap i32 b))) (.br (op==43) (.lf (decide (wrap i32 a>=wrap i32 b))) (.br (op==44) (.lf (decide (a<b))) (.lf (decide (a>=b)))))))
def pQ op a b:=(Qxz op a b).m
def Zdt:ba:=mS 277 [] true [.one (.int .i64),.one (.int .u32),.one (.int .u32)] [] (λa r=>Qxz (ar a 0) (ar a 1) (ar a 2)) (λX=>.bool X) (λX=>[])
theorem Zas:bj pG Zdt:=oS (.nil) Tryz.func277 Tryz.call277 [] [] 2
def QD(c:bg)(i:gj):Tree bg:=
.br (i.Op==48) (.an (Dd c i.A (wrap u32 (c.Pc+4))) (.lv (ll c i.A (wrap u32 (c.Pc+4))) λ(x0:bg)=>.lf ({X:=x0.X,Pc:=wrap u32 (c.Pc+wrap u32 (4*wrap u32 i.bh)),B2:=x0.B2}))) (let E1:=bJ 0 1&&decide (0<=i.B/\i.B<(↑16:Int));.br (i.Op==49) (.cn E1 (.an (Dd c i.A (wrap u32 (c.Pc+4))) (.lv (ll c i.A (wrap u32 (c.Pc+4))) λ(x1:bg)=>.lf ({X:=x1.X,Pc:=wrap u32 (aK (fv.l c.X) i.B.toNat 0+wrap u32 i.bh),B2:=x1.B2})))) (.cn (bJ 0 1&&decide (0<=i.A/\i.A<(↑16:Int))) (.cn E1 (.lv (pQ i.Op (aK (fv.l c.X) i.A.toNat 0) (aK (fv.l c.X) i.B.toNat 0)) λ(x2:Bool)=>.br x2 (.lf ({X:=c.X,Pc:=wrap u32 (c.Pc+wrap u32 (4*wrap u32 i.bh)),B2:=c.B2})) (.lf ({X:=c.X,Pc:=wrap u32 (c.Pc+4),B2:=c.B2}))))))
def Z1u c i:=(QD c i).m
abbrev Qs4 c i:=(QD c i).p
def Zgw:ba:=mT 212 [] true [.agg bg.sig,.agg gj.sig] [] (λa r=>QD (bg.of (aC a 0)) (gj.of (aC a 1))) (λX=>.agg (bg.cells X)) (λX=>[])
theorem Zd2:bj pG Zgw:=oT (.cons Rp (.cons Zas (.nil))) Tryz.func212 Tryz.call212 [] [] 2
def QC(x n:Int):Tree Int:=
.br (decide (n<1)) (.lf 0) (.br (decide (n>=32)) (.lf x) (.cn (decide (0<=wrap u64 n)) (.cn (decide (0<=wrap u64 (wrap i64 (n-1)))) (let E1:=bb u32 x (wrap u32 (ea u32 1 (wrap u64 n)-1));.br (bf u32 E1 (wrap u64 (wrap i64 (n-1)))==1) (.cn (decide (0<=wrap u64 n)) (.lf (ie u32 E1 (ea u32 4294967295 (wrap u64 n))))) (.lf E1)))))
def Gg x n:=(QC x n).m
abbrev Qao x n:=(QC x n).p
def Qw5:ba:=mT 279 [] true [.one (.int .u32),.one (.int .i64)] [] (λa r=>QC (ar a 0) (ar a 1)) (λX=>.int .u32 X) (λX=>[])
theorem Qrx:bj pG Qw5:=oT (.nil) Tryz.func279 Tryz.call279 [] [] 2
def QE(c:bg)(m:List Int)(i:gj):Tree (bg×(List Int)):=
.cn (bJ 0 1&&decide (0<=i.B/\i.B<(↑16:Int))) (let E4:=wrap u32 (aK (fv.l c.X) i.B.toNat 0+wrap u32 i.bh);let E5:=aK (fv.l c.X) i.A.toNat 0;let E6:=bJ 0 1&&decide (0<=i.A/\i.A<(↑16:Int));let E7:=({X:=c.X,Pc:=wrap u32 (c.Pc+4),B2:=c.B2}:bg);let T1:Tree ((bg×(List Int))):=let T3:Tree ((bg×(List Int))):=.an (Ro c m E4 4 3) (.lv (Q1 c m E4 4 3) λ(x0:Int×Int×List Int)=>.br (x0.2.1 !=0) (.lv (px c x0.2.1 E4) λ(x1:bg)=>.lf (x1,x0.2.2)) (.cn E6 (.an (Sy x0.2.2 x0.1 4 E5) (.lv (AO x0.2.2 x0.1 4 E5) λ(x2:List Int)=>.lf (E7,x2)))));.br (i.Op==35) T3 (.br (i.Op==36) T3 (.an (Ro c m E4 4 2) (.lv (Q1 c m E4 4 2) λ(x6:Int×Int×List Int)=>.br (x6.2.1 !=0) (.lv (px c x6.2.1 E4) λ(x7:bg)=>.lf (x7,x6.2.2)) (.an (U0 x6.2.2 x6.1 4) (.lv (kB x6.2.2 x6.1 4) λ(x8:Int×Bool)=>.br (i.Op==33) (.an (Qao x8.1 8) (.lv (Gg x8.1 8) λ(x9:Int)=>.an (Dd c i.A x9) (.lv (ll c i.A x9) λ(kZ:bg)=>.lf ({X:=kZ.X,Pc:=wrap u32 (kZ.Pc+4),B2:=kZ.B2},x6.2.2)))) (.an (Dd c i.A x8.1) (.lv (ll c i.A x8.1) λ(nq:bg)=>.lf ({X:=nq.X,Pc:=wrap u32 (nq.Pc+4),B2:=nq.B2},x6.2.2))))))));.br (i.Op==32) T1 (.br (i.Op==35) T1 (let T2:Tree ((bg×(List Int))):=.an (Ro c m E4 1 3) (.lv (Q1 c m E4 1 3) λ(DT:Int×Int×List Int)=>.br (DT.2.1 !=0) (.lv (px c DT.2.1 E4) λ(x25:bg)=>.lf (x25,DT.2.2)) (.cn E6 (.an (Sy DT.2.2 DT.1 1 E5) (.lv (AO DT.2.2 DT.1 1 E5) λ(x26:List Int)=>.lf (E7,x26)))));.br (i.Op==35) T2 (.br (i.Op==36) T2 (.an (Ro c m E4 1 2) (.lv (Q1 c m E4 1 2) λ(Fy:Int×Int×List Int)=>.br (Fy.2.1 !=0) (.lv (px c Fy.2.1 E4) λ(x31:bg)=>.lf (x31,Fy.2.2)) (.an (U0 Fy.2.2 Fy.1 1) (.lv (kB Fy.2.2 Fy.1 1) λ(U1:Int×Bool)=>.br (i.Op==33) (.an (Qao U1.1 8) (.lv (Gg U1.1 8) λ(x33:Int)=>.an (Dd c i.A x33) (.lv (ll c i.A x33) λ(x34:bg)=>.lf ({X:=x34.X,Pc:=wrap u32 (x34.Pc+4),B2:=x34.B2},Fy.2.2)))) (.an (Dd c i.A U1.1) (.lv (ll c i.A U1.1) λ(x35:bg)=>.lf ({X:=x35.X,Pc:=wrap u32 (x35.Pc+4),B2:=x35.B2},Fy.2.2)))))))))))
def Gp c m i:=(QE c m i).m
abbrev Qji c m i:=(QE c m i).p
def Z2o:ba:=mT 213 [false,true,false] true [.agg bg.sig,.one (.row 0),.agg gj.sig] [.arr 23 1 (.ints .u32)] (λa r=>QE (bg.of (aC a 0)) (gx .u32 r 0) (gj.of (aC a 2))) (λX=>.agg (bg.cells (X.1))) (λX=>[⟨false,23,1,.ints .u32 (X.2)⟩])
theorem Qya:bj pG Z2o:=oT (.cons Qt5 (.cons UZ (.cons Z06 (.cons Qno (.cons Qrx (.cons Rp (.nil))))))) Tryz.func213 Tryz.call213 [] [] 2
def Qxe(op:Int):Tree Int:=
.br (op==16) (.lf 1) (.br (op==17) (.lf 3) (.br (op==18) (.lf 4) (.br (op==19) (.lf 5) (.br (op==20) (.lf 6) (.br (op==21) (.lf 7) (.br (op==22) (.lf 8) (.br (op==23) (.lf 12) (.lf op))))))))
def Z6e op:=(Qxe op).m
def Zfh:ba:=mS 280 [] true [.one (.int .i64)] [] (λa r=>Qxe (ar a 0)) (λX=>.int .i64 X) (λX=>[])
theorem Zbf:bj pG Zfh:=oS (.nil) Tryz.func280 Tryz.call280 [] [] 2
def K1(a b:Int):Tree (Int×Int):=
.br (b==0) (.lf (4294967295,a)) (.cn (decide (wrap i64 (wrap i32 b)≠0)) (.cn (decide (wrap i64 (wrap i32 b)≠0)) (.lf (wrap u32 (wrap i64 (eU (wrap i64 (wrap i32 a)) (wrap i64 (wrap i32 b)))),wrap u32 (dE (wrap i64 (wrap i32 a)) (wrap i64 (wrap i32 b)))))))
def KZ a b:=(K1 a b).m
abbrev Qh4 a b:=(K1 a b).p
def Zat:ba:=mT 281 [] true [.one (.int .u32),.one (.int .u32)] [] (λa r=>K1 (ar a 0) (ar a 1)) (λX=>.dt [.int .u32 (X.1),.int .u32 (X.2)]) (λX=>[])
theorem Z5d:bj pG Zat:=oT (.nil) Tryz.func281 Tryz.call281 [] [] 2
def QB(op a b:Int):Tree (Int×Bool):=
.lv (Z6e op) λ(x0:Int)=>.br (x0==1) (.lf (wrap u32 (a+b),true)) (.br (x0==2) (.lf (wrap u32 (a-b),true)) (.br (x0==3) (.lf (bb u32 a b,true)) (.br (x0==4) (.lf (ie u32 a b,true)) (.br (x0==5) (.lf (mK u32 a b,true)) (.br (x0==6) (.lf (ea u32 a (bb u32 b 31),true)) (.br (x0==7) (.lf (bf u32 a (bb u32 b 31),true)) (.br (x0==8) (.lf (wrap u32 (bf i32 (wrap i32 a) (bb u32 b 31)),true)) (.br (x0==9) (.lf (wrap u32 (a*b),true)) (.br (x0==10) (.an (Qh4 a b) (.lv (KZ a b) λ(x1:Int×Int)=>.lf (x1.1,true))) (.br (x0==11) (.an (Qh4 a b) (.lv (KZ a b) λ(x2:Int×Int)=>.lf (x2.2,true))) (.br (x0==12) (.lv (BT (decide (wrap i32 a<wrap i32 b))) λ(x3:Int)=>.lf (x3,true)) (.br (x0==13) (.lv (BT (decide (a<b))) λ(x4:Int)=>.lf (x4,true)) (.lf (0,false))))))))))))))
def DA op a b:=(QB op a b).m
abbrev Qoj op a b:=(QB op a b).p
def Zo7:ba:=mT 214 [] true [.one (.int .i64),.one (.int .u32),.one (.int .u32)] [] (λa r=>QB (ar a 0) (ar a 1) (ar a 2)) (λX=>.dt [.int .u32 (X.1),.bool (X.2)]) (λX=>[])
theorem Zgv:bj pG Zo7:=oT (.cons Zbf (.cons Z5d (.cons Qrn (.nil)))) Tryz.func214 Tryz.call214 [] [] 2
def QF(c:bg)(m:List Int):Tree (bg×kD×(List Int)):=
.an (Ro c m c.Pc 4 1) (.lv (Q1 c m c.Pc 4 1) λ(x0:Int×Int×List Int)=>.br (x0.2.1 !=0) (.lv (px c x0.2.1 c.Pc) λ(x1:bg)=>.lf (x1,{C4:=0,C6:=0,D7:=0,Value:=0},x0.2.2)) (.an (U0 x0.2.2 x0.1 4) (.lv (kB x0.2.2 x0.1 4) λ(x2:Int×Bool)=>.lv (pP x2.1) λ(x3:gj×Bool)=>.br (!x3.2) (.lv (px c 1 x2.1) λ(x4:bg)=>.lf (x4,{C4:=0,C6:=0,D7:=0,Value:=0},x0.2.2)) (.lv (Gf x3.1.Op) λ(x5:Bool)=>let T1:Tree ((bg×kD×(List Int))):=.br (decide (x3.1.Op>=56)) (.an (Qml c x3.1) (.lv (SI c x3.1) λ(x7:bg×kD)=>.lf (x7.1,x7.2,x0.2.2))) (.br (decide (x3.1.Op>=40)) (.an (Qs4 c x3.1) (.lv (Z1u c x3.1) λ(x8:bg)=>.lf (x8,{C4:=0,C6:=0,D7:=0,Value:=0},x0.2.2))) (.br (decide (x3.1.Op>=32)) (.an (Qji c x0.2.2 x3.1) (.lv (Gp c x0.2.2 x3.1) λ(x9:bg×List Int)=>.lf (x9.1,{C4:=0,C6:=0,D7:=0,Value:=0},x9.2))) (.br (x3.1.Op==24) (.an (Dd c x3.1.A (ea u32 (wrap u32 x3.1.bh) 16)) (.lv (ll c x3.1.A (ea u32 (wrap u32 x3.1.bh) 16)) λ(kZ:bg)=>.lf ({X:=kZ.X,Pc:=wrap u32 (kZ.Pc+4),B2:=kZ.B2},{C4:=0,C6:=0,D7:=0,Value:=0},x0.2.2))) (let E2:=aK (fv.l c.X) x3.1.B.toNat 0;let E3:=bJ 0 1&&decide (0<=x3.1.B/\x3.1.B<(↑16:Int));.br (decide (x3.1.Op<=13)) (.cn (bJ 0 1&&decide (0<=x3.1.C/\x3.1.C<(↑16:Int))) (.cn E3 (let E4:=aK (fv.l c.X) x3.1.C.toNat 0;.an (Qoj x3.1.Op E2 E4) (.lv (DA x3.1.Op E2 E4) λ(nq:Int×Bool)=>.an (Dd c x3.1.A nq.1) (.lv (ll c x3.1.A nq.1) λ(pz:bg)=>.lf ({X:=pz.X,Pc:=wrap u32 (pz.Pc+4),B2:=pz.B2},{C4:=0,C6:=0,D7:=0,Value:=0},x0.2.2)))))) (.cn E3 (.an (Qoj x3.1.Op E2 (wrap u32 x3.1.bh)) (.lv (DA x3.1.Op E2 (wrap u32 x3.1.bh)) λ(ry:Int×Bool)=>.an (Dd c x3.1.A ry.1) (.lv (ll c x3.1.A ry.1) λ(uf:bg)=>.lf ({X:=uf.X,Pc:=wrap u32 (uf.Pc+4),B2:=uf.B2},{C4:=0,C6:=0,D7:=0,Value:=0},x0.2.2)))))))));.br x5 (.br (bb u32 c.B2.a0 (1:Int)==(0:Int)) (.lv (px c 2 x2.1) λ(x6:bg)=>.lf (x6,{C4:=0,C6:=0,D7:=0,Value:=0},x0.2.2)) T1) T1))))
def ua c m:=(QF c m).m
abbrev Z2i c m:=(QF c m).p
def qC:ba:=mT 143 [false,true] true [.agg bg.sig,.one (.row 0)] [.arr 23 1 (.ints .u32)] (λa r=>QF (bg.of (aC a 0)) (gx .u32 r 0)) (λX=>.dt [.agg (bg.cells (X.1)),.agg (kD.cells (X.2.1))]) (λX=>[⟨false,23,1,.ints .u32 (X.2.2)⟩])
theorem Zmq:bj pG qC:=oT (.cons Qt5 (.cons UZ (.cons Qno (.cons Qq9 (.cons Qsv (.cons Z4u (.cons Zd2 (.cons Qya (.cons Rp (.cons Zgv (.nil))))))))))) Tryz.func143 Tryz.call143 [] [] 2
end
noncomputable section
def Qch(m:au)(z:(Int)):Nat:=(32-z).toNat
def Ll(m:au):Tree bg:=
.an (Qel m) (.lv (AR m) λ(x0:Int)=>.br (bb u32 m.A9.B2.a0 (2:Int)==(0:Int)) (.lf m.A9) (.br (x0==0) (.lf m.A9) (.lp inferInstance (Qch m 0+1) ((rZ/\rZ/\rE (x0:Int)/\rE (0:Int)/\True)/\(mE m (((ak.Nil (ak.ints u32 m.Mem)\/rE (1:Nat))/\rE m.Mem)) True)/\(rE (0:Int)/\rE (0:Int)/\rE (0:Int)/\rE (0:Int)/\rE (0:Int)/\rE (0:Int)/\rE (0:Int)/\rE (0:Int)/\rE (0:Int)/\rE (0:Int)/\rE (0:Int)/\rE (0:Int)/\rE (0:Int)/\rE (0:Int)/\rE (0:Int)/\rE (0:Int)/\rE (0:Int)/\rE (0:Int)/\rE (0:Int)/\rE (0:Int)/\rE (0:Int)/\rE (0:Int)/\rE (0:Int)/\rE (0:Int)/\rE (0:Int)/\True)/\True) 0 λ(v0:Int)=>.cn (decide (0<=wrap u64 v0)) (.br (bb u32 (bf u32 x0 (wrap u64 v0)) (1:Int)==(0:Int)) (.nx ((rZ/\rZ/\rE (x0:Int)/\rE ((wrap i64 (v0+1)):Int)/\True)/\(mE m (((ak.Nil (ak.ints u32 m.Mem)\/rE (1:Nat))/\rE m.Mem)) True)/\(rE (0:Int)/\rE (0:Int)/\rE (0:Int)/\rE (0:Int)/\rE (0:Int)/\rE (0:Int)/\rE (0:Int)/\rE (0:Int)/\rE (0:Int)/\rE (0:Int)/\rE (0:Int)/\rE (0:Int)/\rE (0:Int)/\rE (0:Int)/\rE (0:Int)/\rE (0:Int)/\rE (0:Int)/\rE (0:Int)/\rE (0:Int)/\rE (0:Int)/\rE (0:Int)/\rE (0:Int)/\rE (0:Int)/\rE (0:Int)/\rE (0:Int)/\True)/\True) (Sum.inl (wrap i64 (v0+1)))) (.lv (px m.A9 (wrap i64 (16+v0)) 0) λ(x1:bg)=>.lf (Sum.inr x1))))))
def mV m:=(Ll m).m
abbrev Q9p m:=(Ll m).p
def Qrk:bw:={
 α:=(Int)
 F:=λst a=>([(1,.ptr 0 0 0),(2,.ptr 1 0 0),(3,(lk st 3)),(4,.int i64 a)],[⟨true,42,49,.gen [mB (cT st 1)]⟩,⟨true,28,25,.gen [[(cT st 2 0),(cT st 2 1),(cT st 2 2),(cT st 2 3),(cT st 2 4),(cT st 2 5),(cT st 2 6),(cT st 2 7),(cT st 2 8),(cT st 2 9),(cT st 2 10),(cT st 2 11),(cT st 2 12),(cT st 2 13),(cT st 2 14),(cT st 2 15),(cT st 2 16),(cT st 2 17),(cT st 2 18),(cT st 2 19),(cT st 2 20),(cT st 2 21),(cT st 2 22),(cT st 2 23),(cT st 2 24)]]⟩])
 a0:=λst=>(lk st 4).toInt
 ji:=λst=>[]++[(rX st 1 0),(rX st 2 1)]}
def Qn2:List (Nat×bw):=[(5,Qrk)]
def Que:ba:=mT 142 [] true [.agg au.sig] [] (λa r=>Ll (au.of (aC a 0))) (λX=>.agg (bg.cells X)) (λX=>[])
theorem Qhw:bj pG Que:=oT (.cons Qom (.cons UZ (.nil))) Tryz.func142 Tryz.call142 [] Qn2 3
def QJ(m:au):Tree Bool:=
.an (Q9p m) (.lv (mV m) λ(x0:bg)=>.br (bb u32 x0.B2.a0 (1:Int)==(0:Int)) (.lf false) (.an (U0 m.Mem x0.Pc 4) (.lv (kB m.Mem x0.Pc 4) λ(x1:Int×Bool)=>.lv (pP x1.1) λ(x2:gj×Bool)=>.br x1.2 (.br x2.2 (.br (x2.1.Op==60) (.lf (x2.1.bh==2)) (.lf false)) (.lf false)) (.lf false))))
def py m:=(QJ m).m
abbrev Qiv m:=(QJ m).p
def Zd9:ba:=mT 105 [] true [.agg au.sig] [] (λa r=>QJ (au.of (aC a 0))) (λX=>.bool X) (λX=>[])
theorem Zbk:bj pG Zd9:=oT (.cons Qhw (.cons Qno (.cons Qq9 (.nil)))) Tryz.func105 Tryz.call105 [] [] 2
def Qum(m:au):Tree Bool:=
.an (Qiy m) (.lv (sr m) λ(x0:Bool)=>.br x0 (.lf false) (.an (Qiv m) (.lv (py m) λ(x1:Bool)=>.lf x1)))
def Xo m:=(Qum m).m
def Gs(c:iO)(port:Int):Tree (iO×Int):=
let T1:Tree ((iO×Int)):=.br (port==0) (.cn (decide ((0:Int)<=(1:Int)/\1<=(c.C5.length:Int)/\(c.C5.length:Int)<=(c.C5.length:Int))) (.cn (decide ((0:Int)<=(0:Int)/\0<(c.C5.length:Int))) (.lf ({C5:=cZ (dF (c.C5.length:Int)-dF 1) (dA (dF 1) c.C5)},wrap u32 (↑(eW (c.C5.getD (dF 0) (0:UInt8))):Int))))) (.br (port==1) (.lf (c,wrap u32 (c.C5.length:Int))) (.lf (c,0)));.br (port==0) (.br ((c.C5.length:Int)==(0:Int)) (.lf (c,4294967295)) T1) T1
def K8 c port:=(Gs c port).m
theorem Qrw(c:iO)(port:Int):(Gs c port).p:=by
 unfold Tree.p Gs
 repeat'(first|exact trivial|refine aa (λ_=>?_) (λ_=>?_)|refine ax ?_ ?_|refine cr ?_ ?_|refine aq (λ_ _=>?_)|refine ek ?_|refine bu ?_|refine And.intro ?_ ?_)
 all_goals(exact ou)
def Qy3:ba:=mS 215 [] true [.agg iO.sig,.one (.int .i64)] [] (λa r=>Gs (iO.of (aC a 0)) (ar a 1)) (λX=>.dt [.agg (iO.cells (X.1)),.int .u32 (X.2)]) (λX=>[])
theorem Qvn:bj pG Qy3:=oS (.nil) Tryz.func215 Tryz.call215 [] [] 2 (λ_ _ _=>by kernel_rfl) (λa r=>Qrw (iO.of (aC a 0)) (ar a 1)) (λ_ X=>by kernel_rfl)
def Us(t:iS):Tree Int:=
.br t.C8 (.lf 1) (.lf 0)
def Xi t:=(Us t).m
def Z46:ba:=mS 216 [] true [.agg iS.sig] [] (λa r=>Us (iS.of (aC a 0))) (λX=>.int .u32 X) (λX=>[])
theorem Z2c:bj pG Z46:=oS (.nil) Tryz.func216 Tryz.call216 [] [] 2
def Ur(d0:fe)(port:Int):Tree Int:=
.br (port==4) (.lf d0.B9) (.br (port==5) (.lf d0.Frame) (.br (port==6) (.lf (wrap u32 d0.B5)) (.lf 0)))
def Xh d0 port:=(Ur d0 port).m
def Zap:ba:=mS 217 [] true [.agg fe.sig,.one (.int .i64)] [] (λa r=>Ur (fe.of (aC a 0)) (ar a 1)) (λX=>.int .u32 X) (λX=>[])
theorem Z3w:bj pG Zap:=oS (.nil) Tryz.func217 Tryz.call217 [] [] 2
def NY(n:gq)(port:Int):Tree Int:=
.br (port==7) (.lf n.Frame) (.br (port==8) (.lf n.D8) (.br (port==9) (.br n.C2 (.br n.B3 (.lf (wrap u32 ((1:Int)+(2:Int)))) (.lf 1)) (.br n.B3 (.lf (wrap u32 ((0:Int)+(2:Int)))) (.lf 0))) (.lf 0)))
def SN n port:=(NY n port).m
def Zg8:ba:=mS 218 [] true [.agg gq.sig,.one (.int .i64)] [] (λa r=>NY (gq.of (aC a 0)) (ar a 1)) (λX=>.int .u32 X) (λX=>[])
theorem Z9e:bj pG Zg8:=oS (.nil) Tryz.func218 Tryz.call218 [] [] 2
def Le(b:gh)(port:Int):Tree Int:=
.br (port==10) (.lf b.C3) (.br (port==11) (.lv (K7 b) λ(x0:Int)=>.lf (wrap u32 x0)) (.lf 0))
def Ld b port:=(Le b port).m
def Qyp:ba:=mS 219 [] true [.agg gh.sig,.one (.int .i64)] [] (λa r=>Le (gh.of (aC a 0)) (ar a 1)) (λX=>.int .u32 X) (λX=>[])
theorem Qur:bj pG Qyp:=oS (.cons Qt6 (.nil)) Tryz.func219 Tryz.call219 [] [] 2
def H8(m:au)(port clock:Int):Tree (Int×au):=
.br (decide (port<=1)) (.lv (K8 m.A2 port) λ(x0:iO×Int)=>.lf (x0.2,{A9:=m.A9,Mem:=m.Mem,A2:=x0.1,A7:=m.A7,A6:=m.A6,C1:=m.C1,A1:=m.A1,A0:=m.A0,A3:=m.A3,A4:=m.A4})) (.br (port==2) (.lf (clock,m)) (.br (port==3) (.lv (Xi m.A7) λ(x1:Int)=>.lf (x1,m)) (.br (decide (port<=6)) (.lv (Xh m.A6 port) λ(x2:Int)=>.lf (x2,m)) (.br (decide (port<=9)) (.lv (SN m.C1 port) λ(x3:Int)=>.lf (x3,m)) (.lv (Ld m.A1 port) λ(x4:Int)=>.lf (x4,m))))))
def BX m port clock:=(H8 m port clock).m
def xC:ba:=mS 144 [true,false,false] true [.ptr 0,.one (.int .i64),.one (.int .u32)] [.box 42 49 (au.nN (.row 1)),.arr 23 1 (.ints .u32)] (λa r=>H8 (au.Bl (r.getD 0 default).cs (gx .u32 r 1)) (ar a 1) (ar a 2)) (λX=>.int .u32 (X.1)) (λX=>[⟨true,42,49,.gen [(au.gy (X.2) (.all 1))]⟩,⟨false,23,1,.ints .u32 (X.2).Mem⟩])
theorem Zmf:bj pG xC:=oS (.cons Qvn (.cons Z2c (.cons Z3w (.cons Z9e (.cons Qur (.nil)))))) Tryz.func144 Tryz.call144 [.row 23 1 (.ints .u32)] [] 2
def NZ(deadline:Int):Tree iS:=
.br (deadline==0) (.lf ({C9:=false,B8:=0,C8:=false})) (.lf ({C9:=true,B8:=deadline,C8:=false}))
def SU deadline:=(NZ deadline).m
def Zn7:ba:=mS 220 [] true [.one (.int .u32)] [] (λa r=>NZ (ar a 0)) (λX=>.agg (iS.cells X)) (λX=>[])
theorem Zhw:bj pG Zn7:=oS (.nil) Tryz.func220 Tryz.call220 [] [] 2
def Qto(x n:Int)(z:(Int)×(List Int)):Prop:=0<=z.1/\(z.2.length:Int)=z.1/\(z.1<=n\/z.1=0)
def Uq(x n:Int)(z:(Int)×(List Int)):Nat:=(n-z.1).toNat
def L6(x n:Int):Tree (List UInt8):=
.lp inferInstance (Uq x n (0,[])+1) ((rE (x:Int)/\rE (n:Int)/\True/\rE (0:Int)/\True)/\rE ([]:List Int)/\True) (0,[]) λ(v0:Int×List Int)=>.br (decide (v0.1<n)) (.cn (decide (0<=wrap u64 (wrap i64 (8*v0.1)))) (.cn (decide (1*(v0.2.length+1)<=140737488355328)) (.nx ((rE (x:Int)/\rE (n:Int)/\True/\rE ((wrap i64 (v0.1+1)):Int)/\True)/\rE ((v0.2++[wrap u8 (bf u32 x (wrap u64 (wrap i64 (8*v0.1))))]):List Int)/\True) (Sum.inl (wrap i64 (v0.1+1),v0.2++[wrap u8 (bf u32 x (wrap u64 (wrap i64 (8*v0.1))))]))))) (.lf (Sum.inr (bytesOf v0.2)))
def WA x n:=(L6 x n).m
def U4(x n:Int):Prop:=
n<=1000000000000
theorem Zet(x n:Int)(hw:U4 x n):(L6 x n).p:=by
 simp only[U4]at hw
 unfold Tree.p L6
 repeat'(first|refine fg (inv:=Qto x n) (μ:=Uq x n) ?_ (cO _) (λ_ _=>?_)|exact trivial|refine aa (λ_=>?_) (λ_=>?_)|refine ax ?_ ?_|refine cr ?_ ?_|refine aq (λ_ _=>?_)|refine ek ?_|refine bu ?_|refine And.intro ?_ ?_)
 all_goals((try simp only[Qto,Uq]at*);exact ou)
def Zhk:bw:={
 α:=(Int)×(List Int)
 F:=λst a=>([(0,(lk st 0)),(1,(lk st 1)),(5,.all 0),(6,.int i64 a.1)],[⟨false,5,1,.ints u8 a.2⟩])
 a0:=λst=>((lk st 6).toInt,(rY st.rows (rN st 5)))
 ji:=λst=>[]++[(rX st 5 0)]}
def Zay:List (Nat×bw):=[(3,Zhk)]
def Znz:ba:=mo 304 [] true [.one (.int .u32),.one (.int .i64)] [] (λa r=>U4 (ar a 0) (ar a 1)) (λa r=>WA (ar a 0) (ar a 1)) (λX=>.str X) (λX=>[])
theorem Zhv:bj pG Znz:=uK drawn mM (.nil) Tryz.func304 Tryz.call304 (λa r=>L6 (ar a 0) (ar a 1)) [] Zay 3 (hp:=λa r h=>Zet (ar a 0) (ar a 1) h)
def WB(m:List Int)(frame:Int)(z:(Int)×(List Int)):Nat:=(32-z.1).toNat
def Q9(m:List Int)(frame:Int):Tree ((List UInt8)×Bool):=
.br (decide (frame<0)) (.lf ([],false)) (.lv (wc m) λ(x0:Int)=>.br (decide (frame>=x0)) (.lf ([],false)) (.lp inferInstance (WB m frame (0,[])+1) ((((ak.Nil (ak.ints u32 m)\/rE (1:Nat))/\rE (m:List Int))/\rE (frame:Int)/\True/\rE (0:Int)/\True)/\rE ([]:List Int)/\True) (0,[]) λ(v0:Int×List Int)=>.br (decide (v0.1<32)) (.cn (bT 1 1&&bJ 0 1&&decide (0<=wrap i64 (wrap i64 (frame*32)+v0.1)/\wrap i64 (wrap i64 (frame*32)+v0.1)<(m.length:Int))) (let E1:=m.getD (dF (wrap i64 (wrap i64 (frame*32)+v0.1))) 0;.an (U4 E1 4) (.lv (WA E1 4) λ(x1:List UInt8)=>.cn (decide (1*(v0.2.length+dK (jq x1))<=140737488355328)) (.nx ((((ak.Nil (ak.ints u32 m)\/rE (1:Nat))/\rE (m:List Int))/\rE (frame:Int)/\True/\rE ((wrap i64 (v0.1+1)):Int)/\True)/\rE ((v0.2++jq x1):List Int)/\True) (Sum.inl (wrap i64 (v0.1+1),v0.2++jq x1)))))) (.lf (Sum.inr (bytesOf v0.2,true)))))
def KO m frame:=(Q9 m frame).m
abbrev Y4 m frame:=(Q9 m frame).p
def Zf2:bw:={
 α:=(Int)×(List Int)
 F:=λst a=>([(0,(lk st 0)),(1,(lk st 1)),(6,.all 0),(7,.int i64 a.1)],[⟨false,5,1,.ints u8 a.2⟩])
 a0:=λst=>((lk st 7).toInt,(rY st.rows (rN st 6)))
 ji:=λst=>[]++[(rX st 6 0)]}
def Z4y:List (Nat×bw):=[(5,Zf2)]
def Zi1:ba:=mT 283 [] true [.one (.ints .u32),.one (.int .i64)] [] (λa r=>Q9 (du .u32 a 0) (ar a 1)) (λX=>.dt [.str (X.1),.bool (X.2)]) (λX=>[])
theorem Qx7:bj pG Zi1:=oT (.cons Rl (.cons Zhv (.nil))) Tryz.func283 Tryz.call283 [] Z4y 3
def Qqp(d0:fe)(dk:Int):Tree (fm×Bool):=
.br (d0.B5 !=1) (.lf ({C4:=0,At:=0,B9:=0,D2:=[]},false)) (.br (d0.D1==1) (.lf ({C4:=3,At:=dk,B9:=d0.B4,D2:=[]},true)) (.br (d0.D1==2) (.lf ({C4:=4,At:=dk,B9:=d0.B4,D2:=d0.B6},true)) (.lf ({C4:=0,At:=0,B9:=0,D2:=[]},false))))
def WW d0 dk:=(Qqp d0 dk).m
def Z5:ba:=mS 284 [] true [.agg fe.sig,.one (.int .u64)] [] (λa r=>Qqp (fe.of (aC a 0)) (ar a 1)) (λX=>.dt [.agg (fm.cells (X.1)),.bool (X.2)]) (λX=>[])
theorem Z0r:bj pG Z5:=oS (.nil) Tryz.func284 Tryz.call284 [] [] 2
def Gt(d0:fe)(m:List Int)(port v dk:Int):Tree (fe×(List fm)):=
.br (port==4) (.lf ({ab:=d0.ab,B9:=v,Frame:=d0.Frame,B5:=d0.B5,D1:=d0.D1,B4:=d0.B4,B0:=d0.B0,B6:=d0.B6},[])) (.br (port==5) (.lf ({ab:=d0.ab,B9:=d0.B9,Frame:=v,B5:=d0.B5,D1:=d0.D1,B4:=d0.B4,B0:=d0.B0,B6:=d0.B6},[])) (.br (port !=6) (.lf (d0,[])) (let T1:Tree ((fe×(List fm))):=.br (d0.B5==0) (let T2:Tree ((fe×(List fm))):=.lf ({ab:=d0.ab,B9:=d0.B9,Frame:=d0.Frame,B5:=3,D1:=d0.D1,B4:=d0.B4,B0:=d0.B0,B6:=d0.B6},[]);.br (decide (d0.B9>=d0.ab)) T2 (.lv (nD m d0.Frame) λ(x0:Bool)=>.br (!x0) T2 (.br (v==2) (.an (Y4 m (wrap i64 d0.Frame)) (.lv (KO m (wrap i64 d0.Frame)) λ(x1:List UInt8×Bool)=>let E4:=({ab:=d0.ab,B9:=d0.B9,Frame:=d0.Frame,B5:=1,D1:=wrap i64 v,B4:=d0.B9,B0:=d0.Frame,B6:=x1.1}:fe);.lv (WW E4 dk) λ(x2:fm×Bool)=>.lf (E4,[x2.1]))) (let E5:=({ab:=d0.ab,B9:=d0.B9,Frame:=d0.Frame,B5:=1,D1:=wrap i64 v,B4:=d0.B9,B0:=d0.Frame,B6:=[]}:fe);.lv (WW E5 dk) λ(x3:fm×Bool)=>.lf (E5,[x3.1]))))) (.lf (d0,[]));.br (v==0) (let T3:Tree ((fe×(List fm))):=.lf ({ab:=d0.ab,B9:=d0.B9,Frame:=d0.Frame,B5:=0,D1:=d0.D1,B4:=d0.B4,B0:=d0.B0,B6:=d0.B6},[]);.br (d0.B5==2) T3 (.br (d0.B5==3) T3 (.br (v==1) T1 (.br (v==2) T1 (.lf (d0,[])))))) (.br (v==1) T1 (.br (v==2) T1 (.lf (d0,[])))))))
def SV d0 m port v dk:=(Gt d0 m port v dk).m
abbrev Qm7 d0 m port v dk:=(Gt d0 m port v dk).p
def Z4v:ba:=mT 221 [] true [.agg fe.sig,.one (.ints .u32),.one (.int .i64),.one (.int .u32),.one (.int .u64)] [] (λa r=>Gt (fe.of (aC a 0)) (du .u32 a 1) (ar a 2) (ar a 3) (ar a 4)) (λX=>.dt [.agg (fe.cells (X.1)),.sl 4 (.bc .bd (X.2)) true]) (λX=>[])
theorem Z2z:bj pG Z4v:=oT (.cons Rm (.cons Qx7 (.cons Z0r (.nil)))) Tryz.func221 Tryz.call221 [.sl (.bc .bd) true] [] 2
def K9(n:gq)(m:List Int)(port v dk:Int):Tree (gq×(List fm)):=
.br (port==7) (.lf ({Frame:=v,D6:=n.D6,C2:=n.C2,B7:=n.B7,B3:=n.B3,D8:=n.D8},[])) (.br (port==8) (.lf ({Frame:=n.Frame,D6:=v,C2:=n.C2,B7:=n.B7,B3:=n.B3,D8:=n.D8},[])) (.br (port !=9) (.lf (n,[])) (.br (v==0) (.lf ({Frame:=n.Frame,D6:=n.D6,C2:=n.C2,B7:=n.B7,B3:=false,D8:=0},[])) (let T1:Tree ((gq×(List fm))):=.br (v==2) (.lv (nD m n.Frame) λ(x2:Bool)=>.br x2 (.br (!n.C2) (.br (!n.B3) (.lf ({Frame:=n.Frame,D6:=n.D6,C2:=true,B7:=n.Frame,B3:=n.B3,D8:=n.D8},[])) (.lf (n,[]))) (.lf (n,[]))) (.lf (n,[]))) (.lf (n,[]));.br (v==1) (.br (decide (n.D6>=1)) (.br (decide (n.D6<=128)) (.lv (nD m n.Frame) λ(x0:Bool)=>.br x0 (.an (Y4 m (wrap i64 n.Frame)) (.lv (KO m (wrap i64 n.Frame)) λ(x1:List UInt8×Bool)=>.cn (decide ((0:Int)<=(0:Int)/\0<=n.D6/\n.D6<=(x1.1.length:Int))) (.lf (n,[{C4:=2,At:=dk,B9:=0,D2:=cZ (dF n.D6-dF 0) (dA (dF 0) x1.1)}])))) T1) T1) T1) T1))))
def WY n m port v dk:=(K9 n m port v dk).m
abbrev Qmx n m port v dk:=(K9 n m port v dk).p
def Zak:ba:=mT 222 [] true [.agg gq.sig,.one (.ints .u32),.one (.int .i64),.one (.int .u32),.one (.int .u64)] [] (λa r=>K9 (gq.of (aC a 0)) (du .u32 a 1) (ar a 2) (ar a 3) (ar a 4)) (λX=>.dt [.agg (gq.cells (X.1)),.sl 4 (.bc .bd (X.2)) true]) (λX=>[])
theorem Z52:bj pG Zak:=oT (.cons Rm (.cons Qx7 (.nil))) Tryz.func222 Tryz.call222 [.sl (.bc .bd) true] [] 2
def W7(b:gh)(m:List Int)(port v:Int)(z:(Int)×(List Int)):Nat:=(32-z.1).toNat
def AP(b:gh)(m:List Int)(port v:Int):Tree (gh×(List Int)):=
let T1:Tree ((gh×(List Int))):=.br (port==11) (.br (decide (v<32)) (.cn (decide (0<=v)) (.lf ({C3:=b.C3,C0:=nC u32 b.C0 (ea u32 1 v)},m))) (.lf (b,m))) (.lf (b,m));.br (port==10) (.lv (nD m v) λ(x0:Bool)=>.br x0 (.cn (decide (0<=v)) (.br (bb u32 (bf u32 b.C0 v) (1:Int)==(0:Int)) (.cn (decide (0<=v)) (.lp inferInstance (W7 b m port v (0,m)+1) ((True/\rE (v:Int)/\rZ/\rZ/\rE (0:Int)/\True)/\rE (m:List Int)/\(rE b.C3/\rE ((ie u32 b.C0 (ea u32 1 v)):Int)/\True)/\(rE (0:Int)/\rE (0:Int)/\True)/\True) (0,m) λ(v0:Int×List Int)=>.br (decide (v0.1<32)) (let E2:=wrap i64 (wrap i64 v*32)+v0.1;.cn (bT 1 1&&bJ 0 1&&decide (0<=wrap i64 E2/\wrap i64 E2<(v0.2.length:Int))) (.nx ((True/\rE (v:Int)/\rZ/\rZ/\rE ((wrap i64 (v0.1+1)):Int)/\True)/\rE ((dG v0.2 (dF (wrap i64 (wrap i64 (wrap i64 v*32)+v0.1))) 0):List Int)/\(rE b.C3/\rE ((ie u32 b.C0 (ea u32 1 v)):Int)/\True)/\(rE (0:Int)/\rE (0:Int)/\True)/\True) (Sum.inl (wrap i64 (v0.1+1),dG v0.2 (dF (wrap i64 E2)) 0)))) (.lf (Sum.inr ({C3:=b.C3,C0:=ie u32 b.C0 (ea u32 1 v)},v0.2))))) T1)) T1) T1
def AQ b m port v:=(AP b m port v).m
abbrev Qsz b m port v:=(AP b m port v).p
def Zfm:bw:={
 α:=(Int)×(List Int)
 F:=λst a=>([(1,.all 0),(3,(lk st 3)),(4,.ptr 1 0 0),(8,.ptr 2 0 0),(9,.int i64 a.1)],[⟨false,23,1,.ints u32 a.2⟩,⟨true,39,2,.gen [[(cT st 4 0),(cT st 4 1)]]⟩,⟨true,39,2,.gen [[(cT st 8 0),(cT st 8 1)]]⟩])
 a0:=λst=>((lk st 9).toInt,(rY st.rows 0))
 ji:=λst=>[0]++[(rX st 4 1),(rX st 8 2)]}
def Z5y:List (Nat×bw):=[(4,Zfm)]
def Zig:ba:=mT 223 [false,true,false,false] true [.agg gh.sig,.one (.row 0),.one (.int .i64),.one (.int .u32)] [.arr 23 1 (.ints .u32)] (λa r=>AP (gh.of (aC a 0)) (gx .u32 r 0) (ar a 2) (ar a 3)) (λX=>.agg (gh.cells (X.1))) (λX=>[⟨false,23,1,.ints .u32 (X.2)⟩])
theorem Zcp:bj pG Zig:=oT (.cons Rm (.nil)) Tryz.func223 Tryz.call223 [] Z5y 3
def FW(m:au)(port v:Int):Tree ((List fm)×au):=
.br (port==0) (.lf ([{C4:=1,At:=m.A0,B9:=0,D2:=[(λ(n:Int)=>eX n.toNat) (wrap u8 v)]}],m)) (.br (decide (port<=2)) (.lf ([],m)) (.br (port==3) (.lv (SU v) λ(x0:iS)=>.lf ([],{A9:=m.A9,Mem:=m.Mem,A2:=m.A2,A7:=x0,A6:=m.A6,C1:=m.C1,A1:=m.A1,A0:=m.A0,A3:=m.A3,A4:=m.A4})) (.br (decide (port<=6)) (.an (Qm7 m.A6 m.Mem port v m.A0) (.lv (SV m.A6 m.Mem port v m.A0) λ(x1:fe×List fm)=>.lf (x1.2,{A9:=m.A9,Mem:=m.Mem,A2:=m.A2,A7:=m.A7,A6:=x1.1,C1:=m.C1,A1:=m.A1,A0:=m.A0,A3:=m.A3,A4:=m.A4}))) (.br (decide (port<=9)) (.an (Qmx m.C1 m.Mem port v m.A0) (.lv (WY m.C1 m.Mem port v m.A0) λ(x2:gq×List fm)=>.lf (x2.2,{A9:=m.A9,Mem:=m.Mem,A2:=m.A2,A7:=m.A7,A6:=m.A6,C1:=x2.1,A1:=m.A1,A0:=m.A0,A3:=m.A3,A4:=m.A4}))) (.an (Qsz m.A1 m.Mem port v) (.lv (AQ m.A1 m.Mem port v) λ(x3:gh×List Int)=>.lf ([],{A9:=m.A9,Mem:=x3.2,A2:=m.A2,A7:=m.A7,A6:=m.A6,C1:=m.C1,A1:=x3.1,A0:=m.A0,A3:=m.A3,A4:=m.A4})))))))
def DE m port v:=(FW m port v).m
abbrev Qws m port v:=(FW m port v).p
def Znw:ba:=mT 146 [true,false,false] true [.ptr 0,.one (.int .i64),.one (.int .u32)] [.box 42 49 (au.nN (.row 1)),.arr 23 1 (.ints .u32)] (λa r=>FW (au.Bl (r.getD 0 default).cs (gx .u32 r 1)) (ar a 1) (ar a 2)) (λX=>.sl 4 (.bc .bd (X.1)) true) (λX=>[⟨true,42,49,.gen [(au.gy (X.2) (.all 1))]⟩,⟨false,23,1,.ints .u32 (X.2).Mem⟩])
theorem Zis:bj pG Znw:=oT (.cons Zhw (.cons Z2z (.cons Z52 (.cons Zcp (.nil))))) Tryz.func146 Tryz.call146 [.sl (.bc .bd) true,.row 23 1 (.ints .u32)] [] 2
def MX(m:au)(clock:Int):Tree ((List fm)×au):=
.an (Q9p m) (.lv (mV m) λ(x0:bg)=>.an (Z2i x0 m.Mem) (.lv (ua x0 m.Mem) λ(x1:bg×kD×List Int)=>let E1:=({A9:=x1.1,Mem:=x1.2.2,A2:=m.A2,A7:=m.A7,A6:=m.A6,C1:=m.C1,A1:=m.A1,A0:=m.A0,A3:=false,A4:=m.A4}:au);.br (x1.2.1.C4==1) (.lv (BX E1 x1.2.1.C6 clock) λ(x2:Int×au)=>.an (Dd x2.2.A9 x1.2.1.D7 x2.1) (.lv (ll x2.2.A9 x1.2.1.D7 x2.1) λ(x3:bg)=>.lf ([],{A9:=x3,Mem:=x2.2.Mem,A2:=x2.2.A2,A7:=x2.2.A7,A6:=x2.2.A6,C1:=x2.2.C1,A1:=x2.2.A1,A0:=wrap u64 (x2.2.A0+1),A3:=x2.2.A3,A4:=x2.2.A4}))) (.br (x1.2.1.C4==2) (.an (Qws E1 x1.2.1.C6 x1.2.1.Value) (.lv (DE E1 x1.2.1.C6 x1.2.1.Value) λ(x4:List fm×au)=>.lf (x4.1,{A9:=x4.2.A9,Mem:=x4.2.Mem,A2:=x4.2.A2,A7:=x4.2.A7,A6:=x4.2.A6,C1:=x4.2.C1,A1:=x4.2.A1,A0:=wrap u64 (x4.2.A0+1),A3:=x4.2.A3,A4:=x4.2.A4}))) (.br (x1.2.1.C4==3) (.lf ([],{A9:=x1.1,Mem:=x1.2.2,A2:=m.A2,A7:=m.A7,A6:=m.A6,C1:=m.C1,A1:=m.A1,A0:=wrap u64 (m.A0+1),A3:=true,A4:=m.A4})) (.br (x1.2.1.C4==4) (.lf ([],{A9:=x1.1,Mem:=x1.2.2,A2:=m.A2,A7:=m.A7,A6:=m.A6,C1:=m.C1,A1:=m.A1,A0:=wrap u64 (m.A0+1),A3:=false,A4:=true})) (.lf ([],{A9:=x1.1,Mem:=x1.2.2,A2:=m.A2,A7:=m.A7,A6:=m.A6,C1:=m.C1,A1:=m.A1,A0:=wrap u64 (m.A0+1),A3:=false,A4:=m.A4})))))))
def ga m clock:=(MX m clock).m
abbrev Qer m clock:=(MX m clock).p
def Z5q:ba:=mT 89 [true,false] true [.ptr 0,.one (.int .u32)] [.box 42 49 (au.nN (.row 1)),.arr 23 1 (.ints .u32)] (λa r=>MX (au.Bl (r.getD 0 default).cs (gx .u32 r 1)) (ar a 1)) (λX=>.sl 4 (.bc .bd (X.1)) true) (λX=>[⟨true,42,49,.gen [(au.gy (X.2) (.all 1))]⟩,⟨false,23,1,.ints .u32 (X.2).Mem⟩])
theorem Qn4:bj pG Z5q:=oT (.cons Qhw (.cons Zmq (.cons Zmf (.cons Rp (.cons Zis (.nil)))))) Tryz.func89 Tryz.call89 [.sl (.bc .bd) true,.row 23 1 (.ints .u32)] [] 2
end
noncomputable section
instance Rq {α β:Type} [Inhabited β]:Inhabited (α⊕β):=⟨.inr default⟩
