import Derived.Test.YthjfindbamdacaaGreatDoorAuditTellsYz
open Nat renaming blt->bJ,beq->bT,lt_succ_self->cO
open List renaming length->dJ,replicate->cP,take->cZ,drop->dA,set->dF,getD->aK
open Int renaming toNat->dE,tmod->dD,tdiv->eT
open UInt8 renaming ofNat->eW,toNat->eV
set_option maxRecDepth 100000
set_option linter.all false
namespace Go.Proofs.YthjfindbamdacaaGreatDoor
open Go Go.GD Go.IntKind
noncomputable section
def Ma(m:List Int):Tree (List Int):=
.cn (bJ (0:Nat) (1:Nat)&&bT (1:Nat) (1:Nat)&&List.all [D.int u32 (0:Int)] D.plain&&decide ((0:Int)<=(m.length:Int)/\(m.length:Int)<=(m.length:Int)/\(m.length:Int)<=(9223372036854775807:Int)/\(↑(4:Nat):Int)*(m.length:Int)<=(140737488355328:Int))) (let E1:=dJ (cP (dE (m.length:Int)) (0:Int));.lf (cZ (Min.min (m.length) E1) m++dA (Min.min (m.length) E1) (cP (dE (m.length:Int)) (0:Int))))
def Ye m:=(Ma m).m
abbrev Quf m:=(Ma m).p
def Zlc:bb:=mT 141 [] true [.one (.ints .u32)] [] (λa r=>Ma (ek .u32 a 0)) (λX=>.all 0) (λX=>[⟨false,23,1,.ints .u32 X⟩])
theorem Ziy:bj pG Zlc:=oT (.nil) Tryz.func141 Tryz.call141 [.row 23 1 (.ints .u32)] [] 2
def KS(m:ao):Tree ao:=
.an (Quf m.Mem) (.lv (Ye m.Mem) λ(x0:List Int)=>.lf ({A7:=m.A7,Mem:=x0,A2:=m.A2,A9:=m.A9,A4:=m.A4,C1:=m.C1,A1:=m.A1,A0:=m.A0,A3:=m.A3,A6:=m.A6}))
def Mb m:=(KS m).m
abbrev VI m:=(KS m).p
def Zqx:bb:=mT 87 [] true [.agg ao.sig] [] (λa r=>KS (ao.of (aC a 0))) (λX=>.agg (ao.ia X (.all 0))) (λX=>[⟨false,23,1,.ints .u32 X.Mem⟩])
theorem Z20:bj pG Zqx:=oT (.cons Ziy (.nil)) Tryz.func87 Tryz.call87 [.row 23 1 (.ints .u32)] [] 2
def Qon(m:List Int):Tree Int:=
.br (dD (m.length:Int) (32:Int) !=(0:Int)) (.lf 0) (.br (decide ((m.length:Int)>(1024:Int))) (.lf 0) (.lf (wrap i64 (eT (m.length:Int) 32))))
def wT m:=(Qon m).m
def Zhd:bb:=mS 157 [] true [.one (.ints .u32)] [] (λa r=>Qon (ek .u32 a 0)) (λX=>.int .i64 X) (λX=>[])
theorem Qc:bj pG Zhd:=oS (.nil) Tryz.func157 Tryz.call157 [] [] 2
def Qkn(c:je):Tree Bool:=
.lf (decide ((c.C6.length:Int)<=(16:Int)))
def Qim c:=(Qkn c).m
def Qy1:bb:=mS 158 [] true [.agg je.sig] [] (λa r=>Qkn (je.of (aC a 0))) (λX=>.bool X) (λX=>[])
theorem Qvl:bj pG Qy1:=oS (.nil) Tryz.func158 Tryz.call158 [] [] 2
def XO(t:jk):Tree Bool:=
.br t.D0 (.br t.C9 (.lf false) (.br t.D0 (.lf (t.B8 !=0)) (.br t.C9 (.lf true) (.lf (t.B8==0))))) (.br t.D0 (.lf (t.B8 !=0)) (.br t.C9 (.lf true) (.lf (t.B8==0))))
def TN t:=(XO t).m
def Z3n:bb:=mS 159 [] true [.agg jk.sig] [] (λa r=>XO (jk.of (aC a 0))) (λX=>.bool X) (λX=>[])
theorem Z11:bj pG Z3n:=oS (.nil) Tryz.func159 Tryz.call159 [] [] 2
def XQ(d0:fm)(c7:Int):Tree Bool:=
.br (decide (d0.ag>64)) (.lf false) (.br (decide (d0.B6<0)) (.lf false) (.br (decide (d0.B6>3)) (.lf false) (.br (d0.B6 !=1) (.br (d0.D1==0) (.br (d0.B4==0) (.br (d0.B0==0) (.lf (decide (d0.B5=[]))) (.lf false)) (.lf false)) (.lf false)) (.br (decide (d0.B4>=d0.ag)) (.lf false) (.br (decide (wrap i64 d0.B0>=c7)) (.lf false) (.br (d0.D1==1) (.br (decide (d0.B5=[])) (.lf true) (.br (d0.D1==2) (.lf ((d0.B5.length:Int)==(128:Int))) (.lf false))) (.br (d0.D1==2) (.lf ((d0.B5.length:Int)==(128:Int))) (.lf false))))))))
def TP d0 c7:=(XQ d0 c7).m
def Z80:bb:=mS 160 [] true [.agg fm.sig,.one (.int .i64)] [] (λa r=>XQ (fm.of (aC a 0)) (av a 1)) (λX=>.bool X) (λX=>[])
theorem Z44:bj pG Z80:=oS (.nil) Tryz.func160 Tryz.call160 [] [] 2
def XP(n:ij)(c7:Int):Tree Bool:=
let T1:Tree (Bool):=.br n.B3 (.br (decide (n.D8>=1)) (.lf (decide (n.D8<=128))) (.lf false)) (.lf (n.D8==0));.br n.C2 (.br n.B3 (.lf false) (.br (decide (wrap i64 n.B7>=c7)) (.lf false) (.br (!n.C2) (.br (n.B7 !=0) (.lf false) T1) T1))) (.br (!n.C2) (.br (n.B7 !=0) (.lf false) T1) T1)
def TO n c7:=(XP n c7).m
def Zaq:bb:=mS 161 [] true [.agg ij.sig,.one (.int .i64)] [] (λa r=>XP (ij.of (aC a 0)) (av a 1)) (λX=>.bool X) (λX=>[])
theorem Z7e:bj pG Zaq:=oS (.nil) Tryz.func161 Tryz.call161 [] [] 2
def Qfm(b:gr)(c7:Int)(z:(Int)):Prop:=0<=z/\z<=32
def TV(b:gr)(c7:Int)(z:(Int)):Nat:=(32-z).toNat
def L3(b:gr)(c7:Int):Tree Bool:=
.lp inferInstance (TV b c7 0+1) ((rE (c7:Int)/\rZ/\rE (0:Int)/\True)/\(rE b.C4/\rE b.C0/\True)/\True) 0 λ(v0:Int)=>.br (decide (v0<32)) (.cn (decide (0<=wrap u64 v0)) (let T1:Tree ((Int)⊕(Bool)):=.nx ((rE (c7:Int)/\rZ/\rE ((wrap i64 (v0+1)):Int)/\True)/\(rE b.C4/\rE b.C0/\True)/\True) (Sum.inl (wrap i64 (v0+1)));.br (bc u32 (bf u32 b.C0 (wrap u64 v0)) (1:Int)==(1:Int)) (.br (decide (v0>=c7)) (.lf (Sum.inr false)) T1) T1)) (.lf (Sum.inr true))
def TW b c7:=(L3 b c7).m
theorem Qse(b:gr)(c7:Int):(L3 b c7).p:=by
 unfold Tree.p L3
 repeat'(first|refine ej (inv:=Qfm b c7) (μ:=TV b c7) ?_ (cO _) (λ_ _=>?_)|exact trivial|refine ab (λ_=>?_) (λ_=>?_)|refine ar ?_ ?_|refine cu ?_ ?_|refine au (λ_ _=>?_)|refine dm ?_|refine bq ?_|refine And.intro ?_ ?_)
 all_goals((try simp only[Qfm,TV]at*);exact oM)
def Qvv:bm:={
 α:=(Int)
 F:=λst a=>([(1,(lk st 1)),(2,.ptr 0 0 0),(5,.int i64 a)],[⟨true,39,2,.gen [[(cT st 2 0),(cT st 2 1)]]⟩])
 a0:=λst=>(lk st 5).toInt
 iy:=λst=>[]++[(rX st 2 0)]}
def Qra:List (Nat×bm):=[(2,Qvv)]
def Qx2:bb:=mS 162 [] true [.agg gr.sig,.one (.int .i64)] [] (λa r=>L3 (gr.of (aC a 0)) (av a 1)) (λX=>.bool X) (λX=>[])
theorem Qvu:bj pG Qx2:=oS (.nil) Tryz.func162 Tryz.call162 [] Qra 3 (λ_ _ _=>by kernel_rfl) (λa r=>Qse (gr.of (aC a 0)) (av a 1)) (λ_ X=>by kernel_rfl)
def X5(m:ao):Tree Bool:=
.lv (wT m.Mem) λ(x0:Int)=>.br (decide (x0<1)) (.lf false) (.br (m.A7.X.a0 !=0) (.lf false) (.br (decide (m.A7.B1.a0>31)) (.lf false) (.br (decide (m.A7.B1.a7>31)) (.lf false) (.br (decide (m.A7.B1.a6>255)) (.lf false) (.br (dD m.A7.B1.a1 (4:Int) !=(0:Int)) (.lf false) (.lv (Qim m.A2) λ(x1:Bool)=>.br (!x1) (.lf false) (.lv (TN m.A9) λ(x2:Bool)=>.br (!x2) (.lf false) (.lv (TP m.A4 x0) λ(x3:Bool)=>.br (!x3) (.lf false) (.lv (TO m.C1 x0) λ(x4:Bool)=>.br (!x4) (.lf false) (.lv (TW m.A1 x0) λ(x5:Bool)=>.br (!x5) (.lf false) (.br (decide (m.A0<=1152921504606846976)) (.br m.A3 (.lf (!m.A6)) (.lf true)) (.lf false))))))))))))
def sd m:=(X5 m).m
def Zpk:bb:=mS 101 [] true [.agg ao.sig] [] (λa r=>X5 (ao.of (aC a 0))) (λX=>.bool X) (λX=>[])
theorem Z5s:bj pG Zpk:=oS (.cons Qc (.cons Qvl (.cons Z11 (.cons Z44 (.cons Z7e (.cons Qvu (.nil))))))) Tryz.func101 Tryz.call101 [] [] 2
def Uh(t:jk):Tree (jk×Bool):=
.br (!t.D0) (.lf (t,false)) (.lf ({D0:=false,B8:=t.B8,C9:=true},true))
def Yi t:=(Uh t).m
def Zjy:bb:=mS 163 [] true [.agg jk.sig] [] (λa r=>Uh (jk.of (aC a 0))) (λX=>.dt [.agg (jk.cells (X.1)),.bool (X.2)]) (λX=>[])
theorem Zf9:bj pG Zjy:=oS (.nil) Tryz.func163 Tryz.call163 [] [] 2
def RO(c:je)(b:Int):Tree (je×Bool):=
.br (decide ((c.C6.length:Int)>=(16:Int))) (.lf (c,false)) (.cn (decide (c.C6.length+1<=maxLen)) (.lf ({C6:=c.C6++[(λ(n:Int)=>eW n.toNat) b]},true)))
def Z3w c b:=(RO c b).m
abbrev Qto c b:=(RO c b).p
def Zko:bb:=mT 164 [] true [.agg je.sig,.one (.int .u8)] [] (λa r=>RO (je.of (aC a 0)) (av a 1)) (λX=>.dt [.agg (je.cells (X.1)),.bool (X.2)]) (λX=>[])
theorem Zhj:bj pG Zko:=oT (.nil) Tryz.func164 Tryz.call164 [] [] 2
def OQ(m:List Int)(frame:Int):Tree Bool:=
.lv (wT m) λ(x0:Int)=>.lf (decide (wrap u64 frame<wrap u64 x0))
def nV m frame:=(OQ m frame).m
def Zjz:bb:=mS 237 [] true [.one (.ints .u32),.one (.int .u32)] [] (λa r=>OQ (ek .u32 a 0) (av a 1)) (λX=>.bool X) (λX=>[])
theorem Sg:bj pG Zjz:=oS (.cons Qc (.nil)) Tryz.func237 Tryz.call237 [] [] 2
def Jc(m:List Int)(addr size v:Int):Tree (List Int):=
let E1:=bT 1 1&&bJ 0 1&&decide (0<=wrap u32 (eT addr 4)/\wrap u32 (eT addr 4)<(m.length:Int));let E2:=dE (wrap u32 (eT addr 4));.br (size==4) (.cn E1 (.lf (dF m E2 v))) (.cn E1 (let E3:=decide (0<=wrap u32 (8*dD addr 4));.cn E3 (.cn E3 (.cn E1 (.lf (dF m E2 (il u32 (nU u32 (m.getD E2 0) (eg u32 255 (wrap u32 (8*dD addr 4)))) (eg u32 (bc u32 v 255) (wrap u32 (8*dD addr 4))))))))))
def Bu m addr size v:=(Jc m addr size v).m
abbrev Tu m addr size v:=(Jc m addr size v).p
def Zpz:bb:=mT 278 [true,false,false,false] true [.one (.row 0),.one (.int .u32),.one (.int .i64),.one (.int .u32)] [.arr 23 1 (.ints .u32)] (λa r=>Jc (ir .u32 r 0) (av a 1) (av a 2) (av a 3)) (λX=>.dt []) (λX=>[⟨false,23,1,.ints .u32 X⟩])
theorem Z58:bj pG Zpz:=oT (.nil) Tryz.func278 Tryz.call278 [] [] 2
def Xw(m:List Int)(frame:Int)(s:List UInt8)(z:(Int)×(List Int)):Nat:=(128-z.1).toNat
def GY(m:List Int)(frame:Int)(s:List UInt8):Tree (List Int):=
.lp inferInstance (Xw m frame s (0,m)+1) ((True/\rE (frame:Int)/\rE (s:List UInt8)/\rE (0:Int)/\True)/\rE (m:List Int)/\True) (0,m) λ(v0:Int×List Int)=>.br (decide (v0.1<(s.length:Int))) (.br (decide (v0.1<128)) (.cn (decide (0<=v0.1/\v0.1<(s.length:Int))) (let E1:=wrap u32 (↑(eV (s.getD v0.1.toNat (0:UInt8))):Int);let E2:=wrap u32 (wrap i64 (wrap i64 (frame*128)+v0.1));.an (Tu v0.2 E2 1 E1) (.lv (Bu v0.2 E2 1 E1) λ(x0:List Int)=>.nx ((True/\rE (frame:Int)/\rE (s:List UInt8)/\rE ((wrap i64 (v0.1+1)):Int)/\True)/\rE (x0:List Int)/\True) (Sum.inl (wrap i64 (v0.1+1),x0))))) (.lf (Sum.inr v0.2))) (.lf (Sum.inr v0.2))
def Oy m frame s:=(GY m frame s).m
abbrev Qlw m frame s:=(GY m frame s).p
def Zi4:bm:={
 α:=(Int)×(List Int)
 F:=λst a=>([(0,.all 0),(1,(lk st 1)),(2,(lk st 2)),(6,.int i64 a.1)],[⟨false,23,1,.ints u32 a.2⟩])
 a0:=λst=>((lk st 6).toInt,(nI st.rows 0))
 iy:=λst=>[0]++[]}
def Z6q:List (Nat×bm):=[(1,Zi4)]
def Zkj:bb:=mT 238 [true,false,false] true [.one (.row 0),.one (.int .i64),.one (.str)] [.arr 23 1 (.ints .u32)] (λa r=>GY (ir .u32 r 0) (av a 1) (gh a 2)) (λX=>.dt []) (λX=>[⟨false,23,1,.ints .u32 X⟩])
theorem Qyv:bj pG Zkj:=oT (.cons Z58 (.nil)) Tryz.func238 Tryz.call238 [] Z6q 3
def Ha(d0:fm)(m:List Int)(e:j9):Tree (fm×Bool×(List Int)):=
.br (d0.B6 !=1) (.lf (d0,false,m)) (.br (e.C3 !=4) (.lf (d0,false,m)) (.br (decide (e.N>1)) (.lf (d0,false,m)) (let E4:=({ag:=d0.ag,B9:=d0.B9,Frame:=d0.Frame,B6:=2,D1:=0,B4:=0,B0:=0,B5:=[]}:fm);let E5:=({ag:=d0.ag,B9:=d0.B9,Frame:=d0.Frame,B6:=3,D1:=0,B4:=0,B0:=0,B5:=[]}:fm);let T2:Tree ((fm×Bool×(List Int))):=.br (e.N==1) (.lf (E4,true,m)) (.lf (E5,true,m));let E6:=decide ((e.D2.length:Int)>(0:Int));.br (e.N==1) (let T1:Tree ((fm×Bool×(List Int))):=.br (d0.D1==1) (.an (Qlw m (wrap i64 d0.B0) e.D2) (.lv (Oy m (wrap i64 d0.B0) e.D2) λ(x1:List Int)=>.br (e.N==1) (.lf (E4,true,x1)) (.lf (E5,true,x1)))) T2;let T3:Tree ((fm×Bool×(List Int))):=.br (!d0.D1==1) (.br E6 (.lf (d0,false,m)) T1) T1;.br (d0.D1==1) (.br ((e.D2.length:Int) !=(128:Int)) (.lf (d0,false,m)) (.lv (nV m d0.B0) λ(x0:Bool)=>.br (!x0) (.lf (d0,false,m)) T3)) T3) (.br E6 (.lf (d0,false,m)) T2))))
def LZ d0 m e:=(Ha d0 m e).m
abbrev Qph d0 m e:=(Ha d0 m e).p
def Zcp:bb:=mT 165 [false,true,false] true [.agg fm.sig,.one (.row 0),.agg j9.sig] [.arr 23 1 (.ints .u32)] (λa r=>Ha (fm.of (aC a 0)) (ir .u32 r 0) (j9.of (aC a 2))) (λX=>.dt [.agg (fm.cells (X.1)),.bool (X.2.1)]) (λX=>[⟨false,23,1,.ints .u32 (X.2.2)⟩])
theorem Z6s:bj pG Zcp:=oT (.cons Sg (.cons Qyv (.nil))) Tryz.func165 Tryz.call165 [] [] 2
def L0(n:ij)(m:List Int)(frame:List UInt8):Tree (ij×Bool×(List Int)):=
.br (!n.C2) (.lf (n,false,m)) (.br (decide ((frame.length:Int)<(1:Int))) (.lf (n,false,m)) (.br (decide ((frame.length:Int)>(128:Int))) (.lf (n,false,m)) (.lv (nV m n.B7) λ(x0:Bool)=>.br (!x0) (.lf (n,false,m)) (.an (Qlw m (wrap i64 n.B7) frame) (.lv (Oy m (wrap i64 n.B7) frame) λ(x1:List Int)=>.lf ({Frame:=n.Frame,D6:=n.D6,C2:=false,B7:=0,B3:=true,D8:=wrap u32 (frame.length:Int)},true,x1))))))
def OR n m frame:=(L0 n m frame).m
abbrev Qoy n m frame:=(L0 n m frame).p
def Zbu:bb:=mT 166 [false,true,false] true [.agg ij.sig,.one (.row 0),.one (.str)] [.arr 23 1 (.ints .u32)] (λa r=>L0 (ij.of (aC a 0)) (ir .u32 r 0) (gh a 2)) (λX=>.dt [.agg (ij.cells (X.1)),.bool (X.2.1)]) (λX=>[⟨false,23,1,.ints .u32 (X.2.2)⟩])
theorem Z7j:bj pG Zbu:=oT (.cons Sg (.cons Qyv (.nil))) Tryz.func166 Tryz.call166 [] [] 2
def Hf(m:ao)(e:j9):Tree (Bool×ao):=
.br m.A6 (.lf (false,m)) (let T1:Tree ((Bool×ao)):=.br (e.C3==4) (.an (Qph m.A4 m.Mem e) (.lv (LZ m.A4 m.Mem e) λ(x2:fm×Bool×List Int)=>.lf (x2.2.1,{A7:=m.A7,Mem:=x2.2.2,A2:=m.A2,A9:=m.A9,A4:=x2.1,C1:=m.C1,A1:=m.A1,A0:=m.A0,A3:=m.A3,A6:=m.A6}))) (let T3:Tree ((Bool×ao)):=.br (e.C3==6) (.br (decide (e.D2=[])) (.lf (true,{A7:=m.A7,Mem:=m.Mem,A2:=m.A2,A9:=m.A9,A4:=m.A4,C1:=m.C1,A1:={C4:=e.N,C0:=m.A1.C0},A0:=m.A0,A3:=m.A3,A6:=m.A6})) (.lf (false,m))) (.lf (false,m));.br (e.C3==5) (.br (e.N==0) (.an (Qoy m.C1 m.Mem e.D2) (.lv (OR m.C1 m.Mem e.D2) λ(x3:ij×Bool×List Int)=>.lf (x3.2.1,{A7:=m.A7,Mem:=x3.2.2,A2:=m.A2,A9:=m.A9,A4:=m.A4,C1:=x3.1,A1:=m.A1,A0:=m.A0,A3:=m.A3,A6:=m.A6}))) T3) T3);let T2:Tree ((Bool×ao)):=.br (e.C3==3) (.br (decide (e.N<=255)) (.br (decide (e.D2=[])) (.an (Qto m.A2 (wrap u8 e.N)) (.lv (Z3w m.A2 (wrap u8 e.N)) λ(x1:je×Bool)=>.lf (x1.2,{A7:=m.A7,Mem:=m.Mem,A2:=x1.1,A9:=m.A9,A4:=m.A4,C1:=m.C1,A1:=m.A1,A0:=m.A0,A3:=m.A3,A6:=m.A6}))) T1) T1) T1;.br (e.C3==2) (.br (e.N==0) (.br (decide (e.D2=[])) (.lv (Yi m.A9) λ(x0:jk×Bool)=>.lf (x0.2,{A7:=m.A7,Mem:=m.Mem,A2:=m.A2,A9:=x0.1,A4:=m.A4,C1:=m.C1,A1:=m.A1,A0:=m.A0,A3:=m.A3,A6:=m.A6})) T2) T2) T2)
def pX m e:=(Hf m e).m
abbrev Qjv m e:=(Hf m e).p
def Zgk:bb:=mT 103 [true,false] true [.ptr 0,.agg j9.sig] [.box 42 49 (ao.oe (.row 1)),.arr 23 1 (.ints .u32)] (λa r=>Hf (ao.BR (r.getD 0 default).cs (ir .u32 r 1)) (j9.of (aC a 1))) (λX=>.bool (X.1)) (λX=>[⟨true,42,49,.gen [(ao.ia (X.2) (.all 1))]⟩,⟨false,23,1,.ints .u32 (X.2).Mem⟩])
theorem Qvx:bj pG Zgk:=oT (.cons Zf9 (.cons Zhj (.cons Z6s (.cons Z7j (.nil))))) Tryz.func103 Tryz.call103 [.row 23 1 (.ints .u32)] [] 2
def Qi(is:Bool)(n:Int):Tree Int:=
.br is (.cn (decide (0<=wrap u64 n)) (.lf (eg u32 1 (wrap u64 n)))) (.lf 0)
def Eu is n:=(Qi is n).m
abbrev Sh is n:=(Qi is n).p
def Zlr:bb:=mT 292 [] true [.one (.bool),.one (.int .i64)] [] (λa r=>Qi (tz a 0) (av a 1)) (λX=>.int .u32 X) (λX=>[])
theorem Zf6:bj pG Zlr:=oT (.nil) Tryz.func292 Tryz.call292 [] [] 2
def Qil(t:jk):Tree Bool:=
.lf t.C9
def X8 t:=(Qil t).m
def Qt6:bb:=mS 293 [] true [.agg jk.sig] [] (λa r=>Qil (jk.of (aC a 0))) (λX=>.bool X) (λX=>[])
theorem Qrb:bj pG Qt6:=oS (.nil) Tryz.func293 Tryz.call293 [] [] 2
def Qed(c:je):Tree Bool:=
.lf (decide ((c.C6.length:Int)>(0:Int)))
def TR c:=(Qed c).m
def Qou:bb:=mS 294 [] true [.agg je.sig] [] (λa r=>Qed (je.of (aC a 0))) (λX=>.bool X) (λX=>[])
theorem Qnr:bj pG Qou:=oS (.nil) Tryz.func294 Tryz.call294 [] [] 2
def Qjk(d0:fm):Tree Bool:=
.br (d0.B6==2) (.lf true) (.lf (d0.B6==3))
def X9 d0:=(Qjk d0).m
def Quu:bb:=mS 295 [] true [.agg fm.sig] [] (λa r=>Qjk (fm.of (aC a 0))) (λX=>.bool X) (λX=>[])
theorem Qsu:bj pG Quu:=oS (.nil) Tryz.func295 Tryz.call295 [] [] 2
def Qle(n:ij):Tree Bool:=
.lf n.B3
def Ya n:=(Qle n).m
def Qwh:bb:=mS 296 [] true [.agg ij.sig] [] (λa r=>Qle (ij.of (aC a 0))) (λX=>.bool X) (λX=>[])
theorem Qvy:bj pG Qwh:=oS (.nil) Tryz.func296 Tryz.call296 [] [] 2
def Qp3(b:gr)(z:(Int)×(Int)):Prop:=0<=z.2/\z.2<=32
def Qfi(b:gr)(z:(Int)×(Int)):Nat:=(32-z.2).toNat
def VT(b:gr):Tree Int:=
.lp inferInstance (Qfi b (0,0)+1) ((rZ/\rE (0:Int)/\rE (0:Int)/\True)/\(rE b.C4/\rE b.C0/\True)/\True) (0,0) λ(v0:Int×Int)=>.br (decide (v0.2<32)) (.cn (decide (0<=wrap u64 v0.2)) (.nx ((rZ/\rE ((wrap i64 (v0.1+wrap i64 (bc u32 (bf u32 b.C0 (wrap u64 v0.2)) 1))):Int)/\rE ((wrap i64 (v0.2+1)):Int)/\True)/\(rE b.C4/\rE b.C0/\True)/\True) (Sum.inl (wrap i64 (v0.1+wrap i64 (bc u32 (bf u32 b.C0 (wrap u64 v0.2)) 1)),wrap i64 (v0.2+1))))) (.lf (Sum.inr v0.1))
def LW b:=(VT b).m
theorem Z60(b:gr):(VT b).p:=by
 unfold Tree.p VT
 repeat'(first|refine ej (inv:=Qp3 b) (μ:=Qfi b) ?_ (cO _) (λ_ _=>?_)|exact trivial|refine ab (λ_=>?_) (λ_=>?_)|refine ar ?_ ?_|refine cu ?_ ?_|refine au (λ_ _=>?_)|refine dm ?_|refine bq ?_|refine And.intro ?_ ?_)
 all_goals((try simp only[Qp3,Qfi]at*);exact oM)
def Zeb:bm:={
 α:=(Int)×(Int)
 F:=λst a=>([(1,.ptr 0 0 0),(3,.int i64 a.1),(4,.int i64 a.2)],[⟨true,39,2,.gen [[(cT st 1 0),(cT st 1 1)]]⟩])
 a0:=λst=>((lk st 3).toInt,(lk st 4).toInt)
 iy:=λst=>[]++[(rX st 1 0)]}
def Z2:List (Nat×bm):=[(3,Zeb)]
def Zip:bb:=mS 282 [] true [.agg gr.sig] [] (λa r=>VT (gr.of (aC a 0))) (λX=>.int .i64 X) (λX=>[])
theorem Qua:bj pG Zip:=oS (.nil) Tryz.func282 Tryz.call282 [] Z2 3 (λ_ _ _=>by kernel_rfl) (λa r=>Z60 (gr.of (aC a 0))) (λ_ X=>by kernel_rfl)
def X1(b:gr):Tree Bool:=
.lv (LW b) λ(x0:Int)=>.lf (wrap u64 x0 !=wrap u64 b.C4)
def OU b:=(X1 b).m
def Qpy:bb:=mS 297 [] true [.agg gr.sig] [] (λa r=>X1 (gr.of (aC a 0))) (λX=>.bool X) (λX=>[])
theorem Qnx:bj pG Qpy:=oS (.cons Qua (.nil)) Tryz.func297 Tryz.call297 [] [] 2
def RL(m:ao):Tree Int:=
.lv (X8 m.A9) λ(x0:Bool)=>.an (Sh x0 0) (.lv (Eu x0 0) λ(x1:Int)=>.lv (TR m.A2) λ(x2:Bool)=>.an (Sh x2 1) (.lv (Eu x2 1) λ(x3:Int)=>.lv (X9 m.A4) λ(x4:Bool)=>.an (Sh x4 2) (.lv (Eu x4 2) λ(x5:Int)=>.lv (Ya m.C1) λ(x6:Bool)=>.an (Sh x6 3) (.lv (Eu x6 3) λ(x7:Int)=>.lv (OU m.A1) λ(x8:Bool)=>.an (Sh x8 4) (.lv (Eu x8 4) λ(x9:Int)=>.lf (il u32 (il u32 (il u32 (il u32 x1 x3) x5) x7) x9))))))
def OY m:=(RL m).m
abbrev Qrj m:=(RL m).p
def Zeu:bb:=mT 239 [] true [.agg ao.sig] [] (λa r=>RL (ao.of (aC a 0))) (λX=>.int .u32 X) (λX=>[])
theorem Zd8:bj pG Zeu:=oT (.cons Zf6 (.cons Qrb (.cons Qnr (.cons Qsu (.cons Qvy (.cons Qnx (.nil))))))) Tryz.func239 Tryz.call239 [] [] 2
def L6(m:ao):Tree Int:=
.an (Qrj m) (.lv (OY m) λ(x0:Int)=>.lf (bc u32 x0 m.A7.B1.a7))
def Bx m:=(L6 m).m
abbrev Qfb m:=(L6 m).p
def Z6w:bb:=mT 167 [] true [.agg ao.sig] [] (λa r=>L6 (ao.of (aC a 0))) (λX=>.int .u32 X) (λX=>[])
theorem Qo2:bj pG Z6w:=oT (.cons Zd8 (.nil)) Tryz.func167 Tryz.call167 [] [] 2
def L7(m:ao):Tree Bool:=
.br m.A3 (.an (Qfb m) (.lv (Bx m) λ(x0:Int)=>.lf (x0==0))) (.lf false)
def pz m:=(L7 m).m
abbrev Qg0 m:=(L7 m).p
def Zk2:bb:=mT 104 [] true [.agg ao.sig] [] (λa r=>L7 (ao.of (aC a 0))) (λX=>.bool X) (λX=>[])
theorem Qzo:bj pG Zk2:=oT (.cons Qo2 (.nil)) Tryz.func104 Tryz.call104 [] [] 2
def T0(m:ao):Tree Bool:=
.lv (sd m) λ(x0:Bool)=>.br (!x0) (.lf true) (.br m.A6 (.lf true) (.an (Qg0 m) (.lv (pz m) λ(x1:Bool)=>.br x1 (.lf true) (.lf (decide (m.A0>=1152921504606846976))))))
def rF m:=(T0 m).m
abbrev Qrv m:=(T0 m).p
end
noncomputable section
def Zaa(b:Bool):Tree Int:=
.br b (.lf 1) (.lf 0)
def CA b:=(Zaa b).m
def Zpy:bb:=mS 269 [] true [.one (.bool)] [] (λa r=>Zaa (tz a 0)) (λX=>.int .u32 X) (λX=>[])
theorem Qsk:bj pG Zpy:=oS (.nil) Tryz.func269 Tryz.call269 [] [] 2
def OE(c:bg)(oO bad:Int):Tree bg:=
.lv (CA (bc u32 c.B1.a0 (1:Int) !=(0:Int))) λ(x0:Int)=>.lv (CA (bc u32 c.B1.a0 (2:Int) !=(0:Int))) λ(x1:Int)=>.lf ({X:=c.X,Pc:=c.B1.a1,B1:={a0:=il u32 (nU u32 (il u32 (il u32 (nU u32 c.B1.a0 24) (wrap u32 (8*x0))) (wrap u32 (16*x1))) 2) 1,a1:=c.B1.a1,a2:=c.Pc,a3:=wrap u32 oO,a4:=bad,a5:=c.B1.a5,a6:=c.B1.a6,a7:=c.B1.a7}})
def pW c oO bad:=(OE c oO bad).m
def Zk9:bb:=mS 208 [] true [.agg bg.sig,.one (.int .i64),.one (.int .u32)] [] (λa r=>OE (bg.of (aC a 0)) (av a 1) (av a 2)) (λX=>.agg (bg.cells X)) (λX=>[])
theorem VU:bj pG Zk9:=oS (.cons Qsk (.nil)) Tryz.func208 Tryz.call208 [] [] 2
def Jd(m:List Int)(addr size:Int):Tree Bool:=
let T1:Tree (Bool):=.cn (decide (wrap u32 size≠0)) (.br (dD addr (wrap u32 size)==0) (.lv (wT m) λ(x0:Int)=>.lf (decide (addr<wrap u32 (wrap i64 (128*x0))))) (.lf false));.br (size !=1) (.br (size !=4) (.lf false) T1) T1
def r8 m addr size:=(Jd m addr size).m
abbrev Qck m addr size:=(Jd m addr size).p
def Zbj:bb:=mT 240 [] true [.one (.ints .u32),.one (.int .u32),.one (.int .i64)] [] (λa r=>Jd (ek .u32 a 0) (av a 1) (av a 2)) (λX=>.bool X) (λX=>[])
theorem Qk3:bj pG Zbj:=oT (.cons Qc (.nil)) Tryz.func240 Tryz.call240 [] [] 2
def AQ(m:List Int)(addr size:Int):Tree (Int×Bool):=
.an (Qck m addr size) (.lv (r8 m addr size) λ(x0:Bool)=>.br (!x0) (.lf (0,false)) (.cn (bT 1 1&&bJ 0 1&&decide (0<=wrap u32 (eT addr 4)/\wrap u32 (eT addr 4)<(m.length:Int))) (.br (size==1) (.cn (decide (0<=wrap u32 (8*dD addr 4))) (.lf (bc u32 (bf u32 (m.getD (dE (wrap u32 (eT addr 4))) 0) (wrap u32 (8*dD addr 4))) 255,true))) (.lf (m.getD (dE (wrap u32 (eT addr 4))) 0,true)))))
def kW m addr size:=(AQ m addr size).m
abbrev VV m addr size:=(AQ m addr size).p
def Zk8:bb:=mT 168 [] true [.one (.ints .u32),.one (.int .u32),.one (.int .i64)] [] (λa r=>AQ (ek .u32 a 0) (av a 1) (av a 2)) (λX=>.dt [.int .u32 (X.1),.bool (X.2)]) (λX=>[])
theorem Qp7:bj pG Zk8:=oT (.cons Qk3 (.nil)) Tryz.func168 Tryz.call168 [] [] 2
def GX(w:Int):Tree (gm×Bool):=
.lv (oW (wrap i64 (bf u32 w 24))) λ(x0:Int)=>let E5:=({Op:=0,A:=0,B:=0,C:=0,bo:=0}:gm);.br (x0==0) (.lf (E5,false)) (.br (x0==2) (let E3:=({Op:=wrap i64 (bf u32 w 24),A:=wrap i64 (bc u32 (bf u32 w 20) 15),B:=wrap i64 (bc u32 (bf u32 w 16) 15),C:=wrap i64 (bc u32 w 65535),bo:=0}:gm);.lv (Ek E3) λ(x1:Bool)=>.br (!x1) (.lf (E5,false)) (.lf (E3,true))) (let T1:Tree ((gm×Bool)):=let E2:=({Op:=wrap i64 (bf u32 w 24),A:=wrap i64 (bc u32 (bf u32 w 20) 15),B:=wrap i64 (bc u32 (bf u32 w 16) 15),C:=0,bo:=wrap i32 (wrap i16 (bc u32 w 65535))}:gm);.lv (Ek E2) λ(x2:Bool)=>.br (!x2) (.lf (E5,false)) (.lf (E2,true));.br (x0==3) T1 (.br (x0==7) T1 (let E4:=({Op:=wrap i64 (bf u32 w 24),A:=wrap i64 (bc u32 (bf u32 w 20) 15),B:=wrap i64 (bc u32 (bf u32 w 16) 15),C:=0,bo:=wrap i32 (bc u32 w 65535)}:gm);.lv (Ek E4) λ(x4:Bool)=>.br (!x4) (.lf (E5,false)) (.lf (E4,true))))))
def rC w:=(GX w).m
def Zcc:bb:=mS 169 [] true [.one (.int .u32)] [] (λa r=>GX (av a 0)) (λX=>.dt [.agg (gm.cells (X.1)),.bool (X.2)]) (λX=>[])
theorem Qre:bj pG Zcc:=oS (.cons R8 (.cons Qve (.nil))) Tryz.func169 Tryz.call169 [] [] 2
def Qz8(access:Int):Tree Bool:=
.br (decide (access>=1)) (.lf (decide (access<=3))) (.lf false)
def LI access:=(Qz8 access).m
def Zfb:bb:=mS 270 [] true [.one (.int .i64)] [] (λa r=>Qz8 (av a 0)) (λX=>.bool X) (λX=>[])
theorem Qvt:bj pG Zfb:=oS (.nil) Tryz.func270 Tryz.call270 [] [] 2
def Qzl(c:bg):Tree Bool:=
.lf (bc u32 c.B1.a0 (5:Int)==(4:Int))
def TC c:=(Qzl c).m
def Zgx:bb:=mS 271 [] true [.agg bg.sig] [] (λa r=>Qzl (bg.of (aC a 0))) (λX=>.bool X) (λX=>[])
theorem Zax:bj pG Zgx:=oS (.nil) Tryz.func271 Tryz.call271 [] [] 2
def LS(access:Int):Tree Int:=
.br (access==1) (.lf 4) (.br (access==3) (.lf 6) (.lf 5))
def tM access:=(LS access).m
def Z7u:bb:=mS 272 [] true [.one (.int .i64)] [] (λa r=>LS (av a 0)) (λX=>.int .i64 X) (λX=>[])
theorem Qoo:bj pG Z7u:=oS (.nil) Tryz.func272 Tryz.call272 [] [] 2
def G2(m:List Int)(root va access:Int):Tree rS:=
.lv (tM access) λ(x0:Int)=>.lv (wT m) λ(x1:Int)=>.lv (LI access) λ(x2:Bool)=>let E4:=({Addr:=0,E0:=0,D9:=x0}:rS);.br (!x2) (.lf (E4)) (.br (decide (va>=4096)) (.lf (E4)) (.br (decide (root>=wrap u32 x1)) (.lf (E4)) (let E6:=wrap u32 (root*128)+wrap u32 (4*wrap u32 (eT va 128));let E3:=eT (wrap u32 E6) 4;.cn (bT 1 1&&bJ 0 1&&decide (0<=wrap u32 E3/\wrap u32 E3<(m.length:Int))) (let E5:=m.getD (dE (wrap u32 E3)) 0;.br (bc u32 E5 (1:Int)==(0:Int)) (.lf (E4)) (let T1:Tree (rS):=.br (decide (bc u32 (bf u32 E5 8) 255>=wrap u32 x1)) (.lf (E4)) (.lf ({Addr:=wrap u32 (wrap u32 (bc u32 (bf u32 E5 8) (255:Int)*(128:Int))+dD va 128),E0:=wrap u32 E6,D9:=0}));let T2:Tree (rS):=.br (access==1) (.br (bc u32 E5 (4:Int)==(0:Int)) (.lf (E4)) T1) T1;.br (access==3) (.br (bc u32 E5 (2:Int)==(0:Int)) (.lf (E4)) T2) T2)))))
def AR m root va access:=(G2 m root va access).m
abbrev Qv4 m root va access:=(G2 m root va access).p
def Zkp:bb:=mT 273 [] true [.one (.ints .u32),.one (.int .u32),.one (.int .u32),.one (.int .i64)] [] (λa r=>G2 (ek .u32 a 0) (av a 1) (av a 2) (av a 3)) (λX=>.agg (rS.cells X)) (λX=>[])
theorem Zim:bj pG Zkp:=oT (.cons Qoo (.cons Qc (.cons Qvt (.nil)))) Tryz.func273 Tryz.call273 [] [] 2
def LM(m:List Int)(entry access:Int):Tree (List Int):=
.an (Qck m entry 4) (.lv (r8 m entry 4) λ(x0:Bool)=>.br (!x0) (.lf m) (let E3:=bT 1 1&&bJ 0 1&&decide (0<=wrap u32 (eT entry 4)/\wrap u32 (eT entry 4)<(m.length:Int));.cn E3 (.cn E3 (let E4:=dE (wrap u32 (eT entry 4));let E1:=dF m E4 (il u32 (m.getD E4 0) 8);.br (access==3) (let E2:=bT 1 1&&bJ 0 1&&decide (0<=wrap u32 (eT entry 4)/\wrap u32 (eT entry 4)<(↑(dJ E1):Int));.cn E2 (.cn E2 (.lf (dF E1 E4 (il u32 (aK E1 E4 0) 16))))) (.lf E1)))))
def TA m entry access:=(LM m entry access).m
abbrev Qu m entry access:=(LM m entry access).p
def Zkz:bb:=mT 274 [true,false,false] true [.one (.row 0),.one (.int .u32),.one (.int .i64)] [.arr 23 1 (.ints .u32)] (λa r=>LM (ir .u32 r 0) (av a 1) (av a 2)) (λX=>.dt []) (λX=>[⟨false,23,1,.ints .u32 X⟩])
theorem Zgf:bj pG Zkz:=oT (.cons Qk3 (.nil)) Tryz.func274 Tryz.call274 [] [] 2
def G4(c:bg)(m:List Int)(va size access:Int):Tree (Int×Int×(List Int)):=
.lv (LI access) λ(x0:Bool)=>.br (!x0) (.lf (0,5,m)) (let T1:Tree ((Int×Int×(List Int))):=.cn (decide (wrap u32 size≠0)) (.br (dD va (wrap u32 size) !=0) (.lf (0,3,m)) (.lv (TC c) λ(x1:Bool)=>.br (!x1) (.an (Qck m va size) (.lv (r8 m va size) λ(x2:Bool)=>.br (!x2) (.lv (tM access) λ(x3:Int)=>.lf (0,x3,m)) (.lf (va,0,m)))) (.an (Qv4 m c.B1.a6 va access) (.lv (AR m c.B1.a6 va access) λ(x4:rS)=>.br (x4.D9 !=0) (.lf (0,x4.D9,m)) (.an (Qu m x4.E0 access) (.lv (TA m x4.E0 access) λ(x5:List Int)=>.lf (x4.Addr,0,x5)))))));.br (size !=1) (.br (size !=4) (.lf (0,5,m)) T1) T1)
def lL c m va size access:=(G4 c m va size access).m
abbrev Si c m va size access:=(G4 c m va size access).p
def Zis:bb:=mT 209 [false,true,false,false,false] true [.agg bg.sig,.one (.row 0),.one (.int .u32),.one (.int .i64),.one (.int .i64)] [.arr 23 1 (.ints .u32)] (λa r=>G4 (bg.of (aC a 0)) (ir .u32 r 0) (av a 2) (av a 3) (av a 4)) (λX=>.dt [.int .u32 (X.1),.int .i64 (X.2.1)]) (λX=>[⟨false,23,1,.ints .u32 (X.2.2)⟩])
theorem Qup:bj pG Zis:=oT (.cons Qvt (.cons Zax (.cons Qk3 (.cons Qoo (.cons Zim (.cons Zgf (.nil))))))) Tryz.func209 Tryz.call209 [] [] 2
def Qkd(op:Int):Tree Bool:=
.br (decide (op>=57)) (.lf (decide (op<=64))) (.lf false)
def GV op:=(Qkd op).m
def Qwa:bb:=mS 210 [] true [.one (.int .i64)] [] (λa r=>Qkd (av a 0)) (λX=>.bool X) (λX=>[])
theorem Qtk:bj pG Qwa:=oS (.nil) Tryz.func210 Tryz.call210 [] [] 2
def OG(c:bg):Tree bg:=
.lv (CA (bc u32 c.B1.a0 (8:Int) !=(0:Int))) λ(x0:Int)=>.lv (CA (bc u32 c.B1.a0 (16:Int) !=(0:Int))) λ(x1:Int)=>.lf ({X:=c.X,Pc:=c.B1.a2,B1:={a0:=il u32 (il u32 (nU u32 c.B1.a0 3) (wrap u32 (1*x0))) (wrap u32 (2*x1)),a1:=c.B1.a1,a2:=c.B1.a2,a3:=c.B1.a3,a4:=c.B1.a4,a5:=c.B1.a5,a6:=c.B1.a6,a7:=c.B1.a7}})
def TB c:=(OG c).m
def Zdh:bb:=mS 275 [] true [.agg bg.sig] [] (λa r=>OG (bg.of (aC a 0))) (λX=>.agg (bg.cells X)) (λX=>[])
theorem Z7k:bj pG Zdh:=oS (.cons Qsk (.nil)) Tryz.func275 Tryz.call275 [] [] 2
def Jf(c:bg)(r v:Int):Tree bg:=
.br (decide (r>0)) (.br (decide (r<16)) (.cn (bJ 0 1&&decide (0<=r/\r<(↑16:Int))) (.lf ({X:=fu.of 0 (dF (fu.l c.X) r.toNat v),Pc:=c.Pc,B1:=c.B1}))) (.lf c)) (.lf c)
def lQ c r v:=(Jf c r v).m
abbrev DS c r v:=(Jf c r v).p
def Zp0:bb:=mT 145 [] true [.agg bg.sig,.one (.int .i64),.one (.int .u32)] [] (λa r=>Jf (bg.of (aC a 0)) (av a 1) (av a 2)) (λX=>.agg (bg.cells X)) (λX=>[])
theorem Sj:bj pG Zp0:=oT (.nil) Tryz.func145 Tryz.call145 [] [] 2
def LU(c:bg)(jy v:Int):Tree bg:=
let E4:=bJ 0 1&&decide (0<=jy/\jy<(↑8:Int));let T2:Tree (bg):=.cn E4 (.lf ({X:=c.X,Pc:=c.Pc,B1:=A8.of 0 (dF (A8.l c.B1) jy.toNat (bc u32 v 31))}));.br (jy==0) T2 (.br (jy==7) T2 (.br (jy==6) (.cn E4 (.lf ({X:=c.X,Pc:=c.Pc,B1:=A8.of 0 (dF (A8.l c.B1) jy.toNat (bc u32 v 255))}))) (let T3:Tree (bg):=.cn E4 (.lf ({X:=c.X,Pc:=c.Pc,B1:=A8.of 0 (dF (A8.l c.B1) jy.toNat (nU u32 v 3))}));.br (jy==1) T3 (.br (jy==2) T3 (let T1:Tree (bg):=.cn E4 (.lf ({X:=c.X,Pc:=c.Pc,B1:=A8.of 0 (dF (A8.l c.B1) jy.toNat v)}));.br (jy==3) T1 (.br (jy==4) T1 (.br (jy==5) T1 (.lf c))))))))
def OK c jy v:=(LU c jy v).m
abbrev Qs4 c jy v:=(LU c jy v).p
def Zfa:bb:=mT 276 [] true [.agg bg.sig,.one (.int .i64),.one (.int .u32)] [] (λa r=>LU (bg.of (aC a 0)) (av a 1) (av a 2)) (λX=>.agg (bg.cells X)) (λX=>[])
theorem Zcl:bj pG Zfa:=oT (.nil) Tryz.func276 Tryz.call276 [] [] 2
def Jn(c:bg)(i:gm):Tree (bg×kY):=
.br (i.Op==56) (.lv (pW c 7 0) λ(x0:bg)=>.lf (x0,{C3:=0,C7:=0,D7:=0,Value:=0})) (.br (i.Op==57) (.lv (TB c) λ(x1:bg)=>.lf (x1,{C3:=0,C7:=0,D7:=0,Value:=0})) (.br (i.Op==58) (.cn (bJ 0 1&&decide (0<=i.bo/\i.bo<(↑8:Int))) (let E3:=aK (A8.l c.B1) i.bo.toNat 0;.an (DS c i.A E3) (.lv (lQ c i.A E3) λ(x2:bg)=>.lf ({X:=x2.X,Pc:=wrap u32 (x2.Pc+4),B1:=x2.B1},{C3:=0,C7:=0,D7:=0,Value:=0})))) (let E2:=bJ 0 1&&decide (0<=i.A/\i.A<(↑16:Int));.br (i.Op==59) (.cn E2 (let E4:=aK (fu.l c.X) i.A.toNat 0;.an (Qs4 c (wrap i64 i.bo) E4) (.lv (OK c (wrap i64 i.bo) E4) λ(x3:bg)=>.lf ({X:=x3.X,Pc:=wrap u32 (x3.Pc+4),B1:=x3.B1},{C3:=0,C7:=0,D7:=0,Value:=0})))) (let E1:=({X:=c.X,Pc:=wrap u32 (c.Pc+4),B1:=c.B1}:bg);.br (i.Op==60) (.lf (E1,{C3:=1,C7:=wrap i64 i.bo,D7:=i.A,Value:=0})) (.br (i.Op==61) (.cn E2 (.lf (E1,{C3:=2,C7:=wrap i64 i.bo,D7:=0,Value:=aK (fu.l c.X) i.A.toNat 0}))) (.br (i.Op==62) (.lf (E1,{C3:=3,C7:=0,D7:=0,Value:=0})) (.br (i.Op==63) (.lf (E1,{C3:=5,C7:=0,D7:=0,Value:=0})) (.br (i.Op==64) (.lf (E1,{C3:=4,C7:=0,D7:=0,Value:=0})) (.lf (E1,{C3:=0,C7:=0,D7:=0,Value:=0}))))))))))
def TF c i:=(Jn c i).m
abbrev Qom c i:=(Jn c i).p
def Zbp:bb:=mT 211 [] true [.agg bg.sig,.agg gm.sig] [] (λa r=>Jn (bg.of (aC a 0)) (gm.of (aC a 1))) (λX=>.dt [.agg (bg.cells (X.1)),.agg (kY.cells (X.2))]) (λX=>[])
theorem Z82:bj pG Zbp:=oT (.cons VU (.cons Z7k (.cons Sj (.cons Zcl (.nil))))) Tryz.func211 Tryz.call211 [] [] 2
def Qyq(op a b:Int):Tree Bool:=
.br (op==40) (.lf (a==b)) (.br (op==41) (.lf (a !=b)) (.br (op==42) (.lf (decide (wrap i32 a<wrap i32 b))) (.br (op==43) (.lf (decide (wrap i32 a>=wrap i32 b))) (.br (op==44) (.lf (decide (a<b))) (.lf (decide (a>=b)))))))
def rD op a b:=(Qyq op a b).m
def Zha:bb:=mS 277 [] true [.one (.int .i64),.one (.int .u32),.one (.int .u32)] [] (λa r=>Qyq (av a 0) (av a 1) (av a 2)) (λX=>.bool X) (λX=>[])
theorem Ze3:bj pG Zha:=oS (.nil) Tryz.func277 Tryz.call277 [] [] 2
def RG(c:bg)(i:gm):Tree bg:=
.br (i.Op==48) (.an (DS c i.A (wrap u32 (c.Pc+4))) (.lv (lQ c i.A (wrap u32 (c.Pc+4))) λ(x0:bg)=>.lf ({X:=x0.X,Pc:=wrap u32 (c.Pc+wrap u32 (4*wrap u32 i.bo)),B1:=x0.B1}))) (let E1:=bJ 0 1&&decide (0<=i.B/\i.B<(↑16:Int));.br (i.Op==49) (.cn E1 (.an (DS c i.A (wrap u32 (c.Pc+4))) (.lv (lQ c i.A (wrap u32 (c.Pc+4))) λ(x1:bg)=>.lf ({X:=x1.X,Pc:=wrap u32 (aK (fu.l c.X) i.B.toNat 0+wrap u32 i.bo),B1:=x1.B1})))) (.cn (bJ 0 1&&decide (0<=i.A/\i.A<(↑16:Int))) (.cn E1 (.lv (rD i.Op (aK (fu.l c.X) i.A.toNat 0) (aK (fu.l c.X) i.B.toNat 0)) λ(x2:Bool)=>.br x2 (.lf ({X:=c.X,Pc:=wrap u32 (c.Pc+wrap u32 (4*wrap u32 i.bo)),B1:=c.B1})) (.lf ({X:=c.X,Pc:=wrap u32 (c.Pc+4),B1:=c.B1}))))))
def Z5o c i:=(RG c i).m
abbrev Quh c i:=(RG c i).p
def Zki:bb:=mT 212 [] true [.agg bg.sig,.agg gm.sig] [] (λa r=>RG (bg.of (aC a 0)) (gm.of (aC a 1))) (λX=>.agg (bg.cells X)) (λX=>[])
theorem Zhm:bj pG Zki:=oT (.cons Sj (.cons Ze3 (.nil))) Tryz.func212 Tryz.call212 [] [] 2
def RE(x n:Int):Tree Int:=
.br (decide (n<1)) (.lf 0) (.br (decide (n>=32)) (.lf x) (.cn (decide (0<=wrap u64 n)) (.cn (decide (0<=wrap u64 (wrap i64 (n-1)))) (let E1:=bc u32 x (wrap u32 (eg u32 1 (wrap u64 n)-1));.br (bf u32 E1 (wrap u64 (wrap i64 (n-1)))==1) (.cn (decide (0<=wrap u64 n)) (.lf (il u32 E1 (eg u32 4294967295 (wrap u64 n))))) (.lf E1)))))
def GW x n:=(RE x n).m
abbrev Qb5 x n:=(RE x n).p
def Qxb:bb:=mT 279 [] true [.one (.int .u32),.one (.int .i64)] [] (λa r=>RE (av a 0) (av a 1)) (λX=>.int .u32 X) (λX=>[])
theorem Qv0:bj pG Qxb:=oT (.nil) Tryz.func279 Tryz.call279 [] [] 2
def RH(c:bg)(m:List Int)(i:gm):Tree (bg×(List Int)):=
.cn (bJ 0 1&&decide (0<=i.B/\i.B<(↑16:Int))) (let E4:=wrap u32 (aK (fu.l c.X) i.B.toNat 0+wrap u32 i.bo);let E5:=aK (fu.l c.X) i.A.toNat 0;let E6:=bJ 0 1&&decide (0<=i.A/\i.A<(↑16:Int));let E7:=({X:=c.X,Pc:=wrap u32 (c.Pc+4),B1:=c.B1}:bg);let T1:Tree ((bg×(List Int))):=let T3:Tree ((bg×(List Int))):=.an (Si c m E4 4 3) (.lv (lL c m E4 4 3) λ(x0:Int×Int×List Int)=>.br (x0.2.1 !=0) (.lv (pW c x0.2.1 E4) λ(x1:bg)=>.lf (x1,x0.2.2)) (.cn E6 (.an (Tu x0.2.2 x0.1 4 E5) (.lv (Bu x0.2.2 x0.1 4 E5) λ(x2:List Int)=>.lf (E7,x2)))));.br (i.Op==35) T3 (.br (i.Op==36) T3 (.an (Si c m E4 4 2) (.lv (lL c m E4 4 2) λ(x6:Int×Int×List Int)=>.br (x6.2.1 !=0) (.lv (pW c x6.2.1 E4) λ(x7:bg)=>.lf (x7,x6.2.2)) (.an (VV x6.2.2 x6.1 4) (.lv (kW x6.2.2 x6.1 4) λ(x8:Int×Bool)=>.br (i.Op==33) (.an (Qb5 x8.1 8) (.lv (GW x8.1 8) λ(x9:Int)=>.an (DS c i.A x9) (.lv (lQ c i.A x9) λ(ja:bg)=>.lf ({X:=ja.X,Pc:=wrap u32 (ja.Pc+4),B1:=ja.B1},x6.2.2)))) (.an (DS c i.A x8.1) (.lv (lQ c i.A x8.1) λ(jv:bg)=>.lf ({X:=jv.X,Pc:=wrap u32 (jv.Pc+4),B1:=jv.B1},x6.2.2))))))));.br (i.Op==32) T1 (.br (i.Op==35) T1 (let T2:Tree ((bg×(List Int))):=.an (Si c m E4 1 3) (.lv (lL c m E4 1 3) λ(AV:Int×Int×List Int)=>.br (AV.2.1 !=0) (.lv (pW c AV.2.1 E4) λ(Yq:bg)=>.lf (Yq,AV.2.2)) (.cn E6 (.an (Tu AV.2.2 AV.1 1 E5) (.lv (Bu AV.2.2 AV.1 1 E5) λ(Yr:List Int)=>.lf (E7,Yr)))));.br (i.Op==35) T2 (.br (i.Op==36) T2 (.an (Si c m E4 1 2) (.lv (lL c m E4 1 2) λ(CJ:Int×Int×List Int)=>.br (CJ.2.1 !=0) (.lv (pW c CJ.2.1 E4) λ(Ys:bg)=>.lf (Ys,CJ.2.2)) (.an (VV CJ.2.2 CJ.1 1) (.lv (kW CJ.2.2 CJ.1 1) λ(Mh:Int×Bool)=>.br (i.Op==33) (.an (Qb5 Mh.1 8) (.lv (GW Mh.1 8) λ(Uf:Int)=>.an (DS c i.A Uf) (.lv (lQ c i.A Uf) λ(O8:bg)=>.lf ({X:=O8.X,Pc:=wrap u32 (O8.Pc+4),B1:=O8.B1},CJ.2.2)))) (.an (DS c i.A Mh.1) (.lv (lQ c i.A Mh.1) λ(O9:bg)=>.lf ({X:=O9.X,Pc:=wrap u32 (O9.Pc+4),B1:=O9.B1},CJ.2.2)))))))))))
def G5 c m i:=(RH c m i).m
abbrev Ql7 c m i:=(RH c m i).p
def Z3g:bb:=mT 213 [false,true,false] true [.agg bg.sig,.one (.row 0),.agg gm.sig] [.arr 23 1 (.ints .u32)] (λa r=>RH (bg.of (aC a 0)) (ir .u32 r 0) (gm.of (aC a 2))) (λX=>.agg (bg.cells (X.1))) (λX=>[⟨false,23,1,.ints .u32 (X.2)⟩])
theorem Z0k:bj pG Z3g:=oT (.cons Qup (.cons VU (.cons Z58 (.cons Qp7 (.cons Qv0 (.cons Sj (.nil))))))) Tryz.func213 Tryz.call213 [] [] 2
def Qyt(op:Int):Tree Int:=
.br (op==16) (.lf 1) (.br (op==17) (.lf 3) (.br (op==18) (.lf 4) (.br (op==19) (.lf 5) (.br (op==20) (.lf 6) (.br (op==21) (.lf 7) (.br (op==22) (.lf 8) (.br (op==23) (.lf 12) (.lf op))))))))
def Z8y op:=(Qyt op).m
def Zgj:bb:=mS 280 [] true [.one (.int .i64)] [] (λa r=>Qyt (av a 0)) (λX=>.int .i64 X) (λX=>[])
theorem Zd3:bj pG Zgj:=oS (.nil) Tryz.func280 Tryz.call280 [] [] 2
def LQ(a b:Int):Tree (Int×Int):=
.br (b==0) (.lf (4294967295,a)) (.cn (decide (wrap i64 (wrap i32 b)≠0)) (.cn (decide (wrap i64 (wrap i32 b)≠0)) (.lf (wrap u32 (wrap i64 (eT (wrap i64 (wrap i32 a)) (wrap i64 (wrap i32 b)))),wrap u32 (dD (wrap i64 (wrap i32 a)) (wrap i64 (wrap i32 b)))))))
def LO a b:=(LQ a b).m
abbrev Qh4 a b:=(LQ a b).p
def Zdt:bb:=mT 281 [] true [.one (.int .u32),.one (.int .u32)] [] (λa r=>LQ (av a 0) (av a 1)) (λX=>.dt [.int .u32 (X.1),.int .u32 (X.2)]) (λX=>[])
theorem Z64:bj pG Zdt:=oT (.nil) Tryz.func281 Tryz.call281 [] [] 2
def RD(op a b:Int):Tree (Int×Bool):=
.lv (Z8y op) λ(x0:Int)=>.br (x0==1) (.lf (wrap u32 (a+b),true)) (.br (x0==2) (.lf (wrap u32 (a-b),true)) (.br (x0==3) (.lf (bc u32 a b,true)) (.br (x0==4) (.lf (il u32 a b,true)) (.br (x0==5) (.lf (nh u32 a b,true)) (.br (x0==6) (.lf (eg u32 a (bc u32 b 31),true)) (.br (x0==7) (.lf (bf u32 a (bc u32 b 31),true)) (.br (x0==8) (.lf (wrap u32 (bf i32 (wrap i32 a) (bc u32 b 31)),true)) (.br (x0==9) (.lf (wrap u32 (a*b),true)) (.br (x0==10) (.an (Qh4 a b) (.lv (LO a b) λ(x1:Int×Int)=>.lf (x1.1,true))) (.br (x0==11) (.an (Qh4 a b) (.lv (LO a b) λ(x2:Int×Int)=>.lf (x2.2,true))) (.br (x0==12) (.lv (CA (decide (wrap i32 a<wrap i32 b))) λ(x3:Int)=>.lf (x3,true)) (.br (x0==13) (.lv (CA (decide (a<b))) λ(x4:Int)=>.lf (x4,true)) (.lf (0,false))))))))))))))
def Er op a b:=(RD op a b).m
abbrev Qpr op a b:=(RD op a b).p
def Zqc:bb:=mT 214 [] true [.one (.int .i64),.one (.int .u32),.one (.int .u32)] [] (λa r=>RD (av a 0) (av a 1) (av a 2)) (λX=>.dt [.int .u32 (X.1),.bool (X.2)]) (λX=>[])
theorem Zl6:bj pG Zqc:=oT (.cons Zd3 (.cons Z64 (.cons Qsk (.nil)))) Tryz.func214 Tryz.call214 [] [] 2
def RI(c:bg)(m:List Int):Tree (bg×kY×(List Int)):=
.an (Si c m c.Pc 4 1) (.lv (lL c m c.Pc 4 1) λ(x0:Int×Int×List Int)=>.br (x0.2.1 !=0) (.lv (pW c x0.2.1 c.Pc) λ(x1:bg)=>.lf (x1,{C3:=0,C7:=0,D7:=0,Value:=0},x0.2.2)) (.an (VV x0.2.2 x0.1 4) (.lv (kW x0.2.2 x0.1 4) λ(x2:Int×Bool)=>.lv (rC x2.1) λ(x3:gm×Bool)=>.br (!x3.2) (.lv (pW c 1 x2.1) λ(x4:bg)=>.lf (x4,{C3:=0,C7:=0,D7:=0,Value:=0},x0.2.2)) (.lv (GV x3.1.Op) λ(x5:Bool)=>let T1:Tree ((bg×kY×(List Int))):=.br (decide (x3.1.Op>=56)) (.an (Qom c x3.1) (.lv (TF c x3.1) λ(x7:bg×kY)=>.lf (x7.1,x7.2,x0.2.2))) (.br (decide (x3.1.Op>=40)) (.an (Quh c x3.1) (.lv (Z5o c x3.1) λ(x8:bg)=>.lf (x8,{C3:=0,C7:=0,D7:=0,Value:=0},x0.2.2))) (.br (decide (x3.1.Op>=32)) (.an (Ql7 c x0.2.2 x3.1) (.lv (G5 c x0.2.2 x3.1) λ(x9:bg×List Int)=>.lf (x9.1,{C3:=0,C7:=0,D7:=0,Value:=0},x9.2))) (.br (x3.1.Op==24) (.an (DS c x3.1.A (eg u32 (wrap u32 x3.1.bo) 16)) (.lv (lQ c x3.1.A (eg u32 (wrap u32 x3.1.bo) 16)) λ(ja:bg)=>.lf ({X:=ja.X,Pc:=wrap u32 (ja.Pc+4),B1:=ja.B1},{C3:=0,C7:=0,D7:=0,Value:=0},x0.2.2))) (let E2:=aK (fu.l c.X) x3.1.B.toNat 0;let E3:=bJ 0 1&&decide (0<=x3.1.B/\x3.1.B<(↑16:Int));.br (decide (x3.1.Op<=13)) (.cn (bJ 0 1&&decide (0<=x3.1.C/\x3.1.C<(↑16:Int))) (.cn E3 (let E4:=aK (fu.l c.X) x3.1.C.toNat 0;.an (Qpr x3.1.Op E2 E4) (.lv (Er x3.1.Op E2 E4) λ(jv:Int×Bool)=>.an (DS c x3.1.A jv.1) (.lv (lQ c x3.1.A jv.1) λ(jO:bg)=>.lf ({X:=jO.X,Pc:=wrap u32 (jO.Pc+4),B1:=jO.B1},{C3:=0,C7:=0,D7:=0,Value:=0},x0.2.2)))))) (.cn E3 (.an (Qpr x3.1.Op E2 (wrap u32 x3.1.bo)) (.lv (Er x3.1.Op E2 (wrap u32 x3.1.bo)) λ(jW:Int×Bool)=>.an (DS c x3.1.A jW.1) (.lv (lQ c x3.1.A jW.1) λ(kF:bg)=>.lf ({X:=kF.X,Pc:=wrap u32 (kF.Pc+4),B1:=kF.B1},{C3:=0,C7:=0,D7:=0,Value:=0},x0.2.2)))))))));.br x5 (.br (bc u32 c.B1.a0 (1:Int)==(0:Int)) (.lv (pW c 2 x2.1) λ(x6:bg)=>.lf (x6,{C3:=0,C7:=0,D7:=0,Value:=0},x0.2.2)) T1) T1))))
def uL c m:=(RI c m).m
abbrev Z3e c m:=(RI c m).p
def yB:bb:=mT 143 [false,true] true [.agg bg.sig,.one (.row 0)] [.arr 23 1 (.ints .u32)] (λa r=>RI (bg.of (aC a 0)) (ir .u32 r 0)) (λX=>.dt [.agg (bg.cells (X.1)),.agg (kY.cells (X.2.1))]) (λX=>[⟨false,23,1,.ints .u32 (X.2.2)⟩])
theorem Zr0:bj pG yB:=oT (.cons Qup (.cons VU (.cons Qp7 (.cons Qre (.cons Qtk (.cons Z82 (.cons Zhm (.cons Z0k (.cons Sj (.cons Zl6 (.nil))))))))))) Tryz.func143 Tryz.call143 [] [] 2
end
noncomputable section
def Qcs(m:ao)(z:(Int)):Nat:=(32-z).toNat
def L9(m:ao):Tree bg:=
.an (Qfb m) (.lv (Bx m) λ(x0:Int)=>.br (bc u32 m.A7.B1.a0 (2:Int)==(0:Int)) (.lf m.A7) (.br (x0==0) (.lf m.A7) (.lp inferInstance (Qcs m 0+1) ((rZ/\rZ/\rE (x0:Int)/\rE (0:Int)/\True)/\(mE m (((ai.Nil (ai.ints u32 m.Mem)\/rE (1:Nat))/\rE m.Mem)) True)/\(rE (0:Int)/\rE (0:Int)/\rE (0:Int)/\rE (0:Int)/\rE (0:Int)/\rE (0:Int)/\rE (0:Int)/\rE (0:Int)/\rE (0:Int)/\rE (0:Int)/\rE (0:Int)/\rE (0:Int)/\rE (0:Int)/\rE (0:Int)/\rE (0:Int)/\rE (0:Int)/\rE (0:Int)/\rE (0:Int)/\rE (0:Int)/\rE (0:Int)/\rE (0:Int)/\rE (0:Int)/\rE (0:Int)/\rE (0:Int)/\rE (0:Int)/\True)/\True) 0 λ(v0:Int)=>.cn (decide (0<=wrap u64 v0)) (.br (bc u32 (bf u32 x0 (wrap u64 v0)) (1:Int)==(0:Int)) (.nx ((rZ/\rZ/\rE (x0:Int)/\rE ((wrap i64 (v0+1)):Int)/\True)/\(mE m (((ai.Nil (ai.ints u32 m.Mem)\/rE (1:Nat))/\rE m.Mem)) True)/\(rE (0:Int)/\rE (0:Int)/\rE (0:Int)/\rE (0:Int)/\rE (0:Int)/\rE (0:Int)/\rE (0:Int)/\rE (0:Int)/\rE (0:Int)/\rE (0:Int)/\rE (0:Int)/\rE (0:Int)/\rE (0:Int)/\rE (0:Int)/\rE (0:Int)/\rE (0:Int)/\rE (0:Int)/\rE (0:Int)/\rE (0:Int)/\rE (0:Int)/\rE (0:Int)/\rE (0:Int)/\rE (0:Int)/\rE (0:Int)/\rE (0:Int)/\True)/\True) (Sum.inl (wrap i64 (v0+1)))) (.lv (pW m.A7 (wrap i64 (16+v0)) 0) λ(x1:bg)=>.lf (Sum.inr x1))))))
def nt m:=(L9 m).m
abbrev Q9w m:=(L9 m).p
def Qsn:bm:={
 α:=(Int)
 F:=λst a=>([(1,.ptr 0 0 0),(2,.ptr 1 0 0),(3,(lk st 3)),(4,.int i64 a)],[⟨true,42,49,.gen [mB (cT st 1)]⟩,⟨true,28,25,.gen [[(cT st 2 0),(cT st 2 1),(cT st 2 2),(cT st 2 3),(cT st 2 4),(cT st 2 5),(cT st 2 6),(cT st 2 7),(cT st 2 8),(cT st 2 9),(cT st 2 10),(cT st 2 11),(cT st 2 12),(cT st 2 13),(cT st 2 14),(cT st 2 15),(cT st 2 16),(cT st 2 17),(cT st 2 18),(cT st 2 19),(cT st 2 20),(cT st 2 21),(cT st 2 22),(cT st 2 23),(cT st 2 24)]]⟩])
 a0:=λst=>(lk st 4).toInt
 iy:=λst=>[]++[(rX st 1 0),(rX st 2 1)]}
def Qop:List (Nat×bm):=[(5,Qsn)]
def Qtz:bb:=mT 142 [] true [.agg ao.sig] [] (λa r=>L9 (ao.of (aC a 0))) (λX=>.agg (bg.cells X)) (λX=>[])
theorem Qgs:bj pG Qtz:=oT (.cons Qo2 (.cons VU (.nil))) Tryz.func142 Tryz.call142 [] Qop 3
def RM(m:ao):Tree Bool:=
.an (Q9w m) (.lv (nt m) λ(x0:bg)=>.br (bc u32 x0.B1.a0 (1:Int)==(0:Int)) (.lf false) (.an (VV m.Mem x0.Pc 4) (.lv (kW m.Mem x0.Pc 4) λ(x1:Int×Bool)=>.lv (rC x1.1) λ(x2:gm×Bool)=>.br x1.2 (.br x2.2 (.br (x2.1.Op==60) (.lf (x2.1.bo==2)) (.lf false)) (.lf false)) (.lf false))))
def lR m:=(RM m).m
abbrev VJ m:=(RM m).p
def Zh5:bb:=mT 105 [] true [.agg ao.sig] [] (λa r=>RM (ao.of (aC a 0))) (λX=>.bool X) (λX=>[])
theorem Qvh:bj pG Zh5:=oT (.cons Qgs (.cons Qp7 (.cons Qre (.nil)))) Tryz.func105 Tryz.call105 [] [] 2
def Qyb(m:ao):Tree Bool:=
.an (Qrv m) (.lv (rF m) λ(x0:Bool)=>.br x0 (.lf false) (.an (VJ m) (.lv (lR m) λ(x1:Bool)=>.lf x1)))
def Ym m:=(Qyb m).m
def G8(c:je)(port:Int):Tree (je×Int):=
let T1:Tree ((je×Int)):=.br (port==0) (.cn (decide ((0:Int)<=(1:Int)/\1<=(c.C6.length:Int)/\(c.C6.length:Int)<=(c.C6.length:Int))) (.cn (decide ((0:Int)<=(0:Int)/\0<(c.C6.length:Int))) (.lf ({C6:=cZ (dE (c.C6.length:Int)-dE 1) (dA (dE 1) c.C6)},wrap u32 (↑(eV (c.C6.getD (dE 0) (0:UInt8))):Int))))) (.br (port==1) (.lf (c,wrap u32 (c.C6.length:Int))) (.lf (c,0)));.br (port==0) (.br ((c.C6.length:Int)==(0:Int)) (.lf (c,4294967295)) T1) T1
def LX c port:=(G8 c port).m
theorem Qur(c:je)(port:Int):(G8 c port).p:=by
 unfold Tree.p G8
 repeat'(first|exact trivial|refine ab (λ_=>?_) (λ_=>?_)|refine ar ?_ ?_|refine cu ?_ ?_|refine au (λ_ _=>?_)|refine dm ?_|refine bq ?_|refine And.intro ?_ ?_)
 all_goals(exact oM)
def Z13:bb:=mS 215 [] true [.agg je.sig,.one (.int .i64)] [] (λa r=>G8 (je.of (aC a 0)) (av a 1)) (λX=>.dt [.agg (je.cells (X.1)),.int .u32 (X.2)]) (λX=>[])
theorem Qy6:bj pG Z13:=oS (.nil) Tryz.func215 Tryz.call215 [] [] 2 (λ_ _ _=>by kernel_rfl) (λa r=>Qur (je.of (aC a 0)) (av a 1)) (λ_ X=>by kernel_rfl)
def Qe(t:jk):Tree Int:=
.br t.C9 (.lf 1) (.lf 0)
def Yd t:=(Qe t).m
def Z7n:bb:=mS 216 [] true [.agg jk.sig] [] (λa r=>Qe (jk.of (aC a 0))) (λX=>.int .u32 X) (λX=>[])
theorem Z3c:bj pG Z7n:=oS (.nil) Tryz.func216 Tryz.call216 [] [] 2
def Vr(d0:fm)(port:Int):Tree Int:=
.br (port==4) (.lf d0.B9) (.br (port==5) (.lf d0.Frame) (.br (port==6) (.lf (wrap u32 d0.B6)) (.lf 0)))
def Yc d0 port:=(Vr d0 port).m
def Zaw:bb:=mS 217 [] true [.agg fm.sig,.one (.int .i64)] [] (λa r=>Vr (fm.of (aC a 0)) (av a 1)) (λX=>.int .u32 X) (λX=>[])
theorem Z6k:bj pG Zaw:=oS (.nil) Tryz.func217 Tryz.call217 [] [] 2
def OO(n:ij)(port:Int):Tree Int:=
.br (port==7) (.lf n.Frame) (.br (port==8) (.lf n.D8) (.br (port==9) (.br n.C2 (.br n.B3 (.lf (wrap u32 ((1:Int)+(2:Int)))) (.lf 1)) (.br n.B3 (.lf (wrap u32 ((0:Int)+(2:Int)))) (.lf 0))) (.lf 0)))
def TM n port:=(OO n port).m
def Zgw:bb:=mS 218 [] true [.agg ij.sig,.one (.int .i64)] [] (λa r=>OO (ij.of (aC a 0)) (av a 1)) (λX=>.int .u32 X) (λX=>[])
theorem Zdb:bj pG Zgw:=oS (.nil) Tryz.func218 Tryz.call218 [] [] 2
def L2(b:gr)(port:Int):Tree Int:=
.br (port==10) (.lf b.C4) (.br (port==11) (.lv (LW b) λ(x0:Int)=>.lf (wrap u32 x0)) (.lf 0))
def L1 b port:=(L2 b port).m
def Z0d:bb:=mS 219 [] true [.agg gr.sig,.one (.int .i64)] [] (λa r=>L2 (gr.of (aC a 0)) (av a 1)) (λX=>.int .u32 X) (λX=>[])
theorem Qww:bj pG Z0d:=oS (.cons Qua (.nil)) Tryz.func219 Tryz.call219 [] [] 2
def IU(m:ao)(port clock:Int):Tree (Int×ao):=
.br (decide (port<=1)) (.lv (LX m.A2 port) λ(x0:je×Int)=>.lf (x0.2,{A7:=m.A7,Mem:=m.Mem,A2:=x0.1,A9:=m.A9,A4:=m.A4,C1:=m.C1,A1:=m.A1,A0:=m.A0,A3:=m.A3,A6:=m.A6})) (.br (port==2) (.lf (clock,m)) (.br (port==3) (.lv (Yd m.A9) λ(x1:Int)=>.lf (x1,m)) (.br (decide (port<=6)) (.lv (Yc m.A4 port) λ(x2:Int)=>.lf (x2,m)) (.br (decide (port<=9)) (.lv (TM m.C1 port) λ(x3:Int)=>.lf (x3,m)) (.lv (L1 m.A1 port) λ(x4:Int)=>.lf (x4,m))))))
def CE m port clock:=(IU m port clock).m
def vB:bb:=mS 144 [true,false,false] true [.ptr 0,.one (.int .i64),.one (.int .u32)] [.box 42 49 (ao.oe (.row 1)),.arr 23 1 (.ints .u32)] (λa r=>IU (ao.BR (r.getD 0 default).cs (ir .u32 r 1)) (av a 1) (av a 2)) (λX=>.int .u32 (X.1)) (λX=>[⟨true,42,49,.gen [(ao.ia (X.2) (.all 1))]⟩,⟨false,23,1,.ints .u32 (X.2).Mem⟩])
theorem Zol:bj pG vB:=oS (.cons Qy6 (.cons Z3c (.cons Z6k (.cons Zdb (.cons Qww (.nil)))))) Tryz.func144 Tryz.call144 [.row 23 1 (.ints .u32)] [] 2
def OP(deadline:Int):Tree jk:=
.br (deadline==0) (.lf ({D0:=false,B8:=0,C9:=false})) (.lf ({D0:=true,B8:=deadline,C9:=false}))
def TS deadline:=(OP deadline).m
def Zp3:bb:=mS 220 [] true [.one (.int .u32)] [] (λa r=>OP (av a 0)) (λX=>.agg (jk.cells X)) (λX=>[])
theorem Zja:bj pG Zp3:=oS (.nil) Tryz.func220 Tryz.call220 [] [] 2
def Qtn(x n:Int)(z:(Int)×(List Int)):Prop:=0<=z.1/\(z.2.length:Int)=z.1/\(z.1<=n\/z.1=0)
def Vq(x n:Int)(z:(Int)×(List Int)):Nat:=(n-z.1).toNat
def MX(x n:Int):Tree (List UInt8):=
.lp inferInstance (Vq x n (0,[])+1) ((rE (x:Int)/\rE (n:Int)/\True/\rE (0:Int)/\True)/\rE ([]:List Int)/\True) (0,[]) λ(v0:Int×List Int)=>.br (decide (v0.1<n)) (.cn (decide (0<=wrap u64 (wrap i64 (8*v0.1)))) (.cn (decide (1*(v0.2.length+1)<=140737488355328)) (.nx ((rE (x:Int)/\rE (n:Int)/\True/\rE ((wrap i64 (v0.1+1)):Int)/\True)/\rE ((v0.2++[wrap u8 (bf u32 x (wrap u64 (wrap i64 (8*v0.1))))]):List Int)/\True) (Sum.inl (wrap i64 (v0.1+1),v0.2++[wrap u8 (bf u32 x (wrap u64 (wrap i64 (8*v0.1))))]))))) (.lf (Sum.inr (bytesOf v0.2)))
def XA x n:=(MX x n).m
def VW(x n:Int):Prop:=
n<=1000000000000
theorem Zij(x n:Int)(hw:VW x n):(MX x n).p:=by
 simp only[VW]at hw
 unfold Tree.p MX
 repeat'(first|refine ej (inv:=Qtn x n) (μ:=Vq x n) ?_ (cO _) (λ_ _=>?_)|exact trivial|refine ab (λ_=>?_) (λ_=>?_)|refine ar ?_ ?_|refine cu ?_ ?_|refine au (λ_ _=>?_)|refine dm ?_|refine bq ?_|refine And.intro ?_ ?_)
 all_goals((try simp only[Qtn,Vq]at*);exact oM)
def Zl5:bm:={
 α:=(Int)×(List Int)
 F:=λst a=>([(0,(lk st 0)),(1,(lk st 1)),(5,.all 0),(6,.int i64 a.1)],[⟨false,5,1,.ints u8 a.2⟩])
 a0:=λst=>((lk st 6).toInt,(nI st.rows (rN st 5)))
 iy:=λst=>[]++[(rX st 5 0)]}
def Zcq:List (Nat×bm):=[(3,Zl5)]
def Zr1:bb:=mU 304 [] true [.one (.int .u32),.one (.int .i64)] [] (λa r=>VW (av a 0) (av a 1)) (λa r=>XA (av a 0) (av a 1)) (λX=>.str X) (λX=>[])
theorem Zj0:bj pG Zr1:=wv drawn nj (.nil) Tryz.func304 Tryz.call304 (λa r=>MX (av a 0) (av a 1)) [] Zcq 3 (hp:=λa r h=>Zij (av a 0) (av a 1) h)
def XB(m:List Int)(frame:Int)(z:(Int)×(List Int)):Nat:=(32-z.1).toNat
def G1(m:List Int)(frame:Int):Tree ((List UInt8)×Bool):=
.br (decide (frame<0)) (.lf ([],false)) (.lv (wT m) λ(x0:Int)=>.br (decide (frame>=x0)) (.lf ([],false)) (.lp inferInstance (XB m frame (0,[])+1) ((((ai.Nil (ai.ints u32 m)\/rE (1:Nat))/\rE (m:List Int))/\rE (frame:Int)/\True/\rE (0:Int)/\True)/\rE ([]:List Int)/\True) (0,[]) λ(v0:Int×List Int)=>.br (decide (v0.1<32)) (.cn (bT 1 1&&bJ 0 1&&decide (0<=wrap i64 (wrap i64 (frame*32)+v0.1)/\wrap i64 (wrap i64 (frame*32)+v0.1)<(m.length:Int))) (let E1:=m.getD (dE (wrap i64 (wrap i64 (frame*32)+v0.1))) 0;.an (VW E1 4) (.lv (XA E1 4) λ(x1:List UInt8)=>.cn (decide (1*(v0.2.length+dJ (iX x1))<=140737488355328)) (.nx ((((ai.Nil (ai.ints u32 m)\/rE (1:Nat))/\rE (m:List Int))/\rE (frame:Int)/\True/\rE ((wrap i64 (v0.1+1)):Int)/\True)/\rE ((v0.2++iX x1):List Int)/\True) (Sum.inl (wrap i64 (v0.1+1),v0.2++iX x1)))))) (.lf (Sum.inr (bytesOf v0.2,true)))))
def LB m frame:=(G1 m frame).m
abbrev Qgb m frame:=(G1 m frame).p
def Zfq:bm:={
 α:=(Int)×(List Int)
 F:=λst a=>([(0,(lk st 0)),(1,(lk st 1)),(6,.all 0),(7,.int i64 a.1)],[⟨false,5,1,.ints u8 a.2⟩])
 a0:=λst=>((lk st 7).toInt,(nI st.rows (rN st 6)))
 iy:=λst=>[]++[(rX st 6 0)]}
def Z7w:List (Nat×bm):=[(5,Zfq)]
def Zlb:bb:=mT 283 [] true [.one (.ints .u32),.one (.int .i64)] [] (λa r=>G1 (ek .u32 a 0) (av a 1)) (λX=>.dt [.str (X.1),.bool (X.2)]) (λX=>[])
theorem Qzf:bj pG Zlb:=oT (.cons Qc (.cons Zj0 (.nil))) Tryz.func283 Tryz.call283 [] Z7w 3
def Qs8(d0:fm)(bn:Int):Tree (fc×Bool):=
.br (d0.B6 !=1) (.lf ({C3:=0,At:=0,B9:=0,D2:=[]},false)) (.br (d0.D1==1) (.lf ({C3:=3,At:=bn,B9:=d0.B4,D2:=[]},true)) (.br (d0.D1==2) (.lf ({C3:=4,At:=bn,B9:=d0.B4,D2:=d0.B5},true)) (.lf ({C3:=0,At:=0,B9:=0,D2:=[]},false))))
def XU d0 bn:=(Qs8 d0 bn).m
def Z75:bb:=mS 284 [] true [.agg fm.sig,.one (.int .u64)] [] (λa r=>Qs8 (fm.of (aC a 0)) (av a 1)) (λX=>.dt [.agg (fc.cells (X.1)),.bool (X.2)]) (λX=>[])
theorem Z2o:bj pG Z75:=oS (.nil) Tryz.func284 Tryz.call284 [] [] 2
def G9(d0:fm)(m:List Int)(port v bn:Int):Tree (fm×(List fc)):=
.br (port==4) (.lf ({ag:=d0.ag,B9:=v,Frame:=d0.Frame,B6:=d0.B6,D1:=d0.D1,B4:=d0.B4,B0:=d0.B0,B5:=d0.B5},[])) (.br (port==5) (.lf ({ag:=d0.ag,B9:=d0.B9,Frame:=v,B6:=d0.B6,D1:=d0.D1,B4:=d0.B4,B0:=d0.B0,B5:=d0.B5},[])) (.br (port !=6) (.lf (d0,[])) (let T1:Tree ((fm×(List fc))):=.br (d0.B6==0) (let T2:Tree ((fm×(List fc))):=.lf ({ag:=d0.ag,B9:=d0.B9,Frame:=d0.Frame,B6:=3,D1:=d0.D1,B4:=d0.B4,B0:=d0.B0,B5:=d0.B5},[]);.br (decide (d0.B9>=d0.ag)) T2 (.lv (nV m d0.Frame) λ(x0:Bool)=>.br (!x0) T2 (.br (v==2) (.an (Qgb m (wrap i64 d0.Frame)) (.lv (LB m (wrap i64 d0.Frame)) λ(x1:List UInt8×Bool)=>let E4:=({ag:=d0.ag,B9:=d0.B9,Frame:=d0.Frame,B6:=1,D1:=wrap i64 v,B4:=d0.B9,B0:=d0.Frame,B5:=x1.1}:fm);.lv (XU E4 bn) λ(x2:fc×Bool)=>.lf (E4,[x2.1]))) (let E5:=({ag:=d0.ag,B9:=d0.B9,Frame:=d0.Frame,B6:=1,D1:=wrap i64 v,B4:=d0.B9,B0:=d0.Frame,B5:=[]}:fm);.lv (XU E5 bn) λ(x3:fc×Bool)=>.lf (E5,[x3.1]))))) (.lf (d0,[]));.br (v==0) (let T3:Tree ((fm×(List fc))):=.lf ({ag:=d0.ag,B9:=d0.B9,Frame:=d0.Frame,B6:=0,D1:=d0.D1,B4:=d0.B4,B0:=d0.B0,B5:=d0.B5},[]);.br (d0.B6==2) T3 (.br (d0.B6==3) T3 (.br (v==1) T1 (.br (v==2) T1 (.lf (d0,[])))))) (.br (v==1) T1 (.br (v==2) T1 (.lf (d0,[])))))))
def TT d0 m port v bn:=(G9 d0 m port v bn).m
abbrev Qnh d0 m port v bn:=(G9 d0 m port v bn).p
def Z6j:bb:=mT 221 [] true [.agg fm.sig,.one (.ints .u32),.one (.int .i64),.one (.int .u32),.one (.int .u64)] [] (λa r=>G9 (fm.of (aC a 0)) (ek .u32 a 1) (av a 2) (av a 3) (av a 4)) (λX=>.dt [.agg (fm.cells (X.1)),.sl 4 (.ba .bd (X.2)) true]) (λX=>[])
theorem Z4a:bj pG Z6j:=oT (.cons Sg (.cons Qzf (.cons Z2o (.nil)))) Tryz.func221 Tryz.call221 [.sl (.ba .bd) true] [] 2
def LY(n:ij)(m:List Int)(port v bn:Int):Tree (ij×(List fc)):=
.br (port==7) (.lf ({Frame:=v,D6:=n.D6,C2:=n.C2,B7:=n.B7,B3:=n.B3,D8:=n.D8},[])) (.br (port==8) (.lf ({Frame:=n.Frame,D6:=v,C2:=n.C2,B7:=n.B7,B3:=n.B3,D8:=n.D8},[])) (.br (port !=9) (.lf (n,[])) (.br (v==0) (.lf ({Frame:=n.Frame,D6:=n.D6,C2:=n.C2,B7:=n.B7,B3:=false,D8:=0},[])) (let T1:Tree ((ij×(List fc))):=.br (v==2) (.lv (nV m n.Frame) λ(x2:Bool)=>.br x2 (.br (!n.C2) (.br (!n.B3) (.lf ({Frame:=n.Frame,D6:=n.D6,C2:=true,B7:=n.Frame,B3:=n.B3,D8:=n.D8},[])) (.lf (n,[]))) (.lf (n,[]))) (.lf (n,[]))) (.lf (n,[]));.br (v==1) (.br (decide (n.D6>=1)) (.br (decide (n.D6<=128)) (.lv (nV m n.Frame) λ(x0:Bool)=>.br x0 (.an (Qgb m (wrap i64 n.Frame)) (.lv (LB m (wrap i64 n.Frame)) λ(x1:List UInt8×Bool)=>.cn (decide ((0:Int)<=(0:Int)/\0<=n.D6/\n.D6<=(x1.1.length:Int))) (.lf (n,[{C3:=2,At:=bn,B9:=0,D2:=cZ (dE n.D6-dE 0) (dA (dE 0) x1.1)}])))) T1) T1) T1) T1))))
def XW n m port v bn:=(LY n m port v bn).m
abbrev Qp5 n m port v bn:=(LY n m port v bn).p
def Zb4:bb:=mT 222 [] true [.agg ij.sig,.one (.ints .u32),.one (.int .i64),.one (.int .u32),.one (.int .u64)] [] (λa r=>LY (ij.of (aC a 0)) (ek .u32 a 1) (av a 2) (av a 3) (av a 4)) (λX=>.dt [.agg (ij.cells (X.1)),.sl 4 (.ba .bd (X.2)) true]) (λX=>[])
theorem Z5y:bj pG Zb4:=oT (.cons Sg (.cons Qzf (.nil))) Tryz.func222 Tryz.call222 [.sl (.ba .bd) true] [] 2
def X3(b:gr)(m:List Int)(port v:Int)(z:(Int)×(List Int)):Nat:=(32-z.1).toNat
def Bv(b:gr)(m:List Int)(port v:Int):Tree (gr×(List Int)):=
let T1:Tree ((gr×(List Int))):=.br (port==11) (.br (decide (v<32)) (.cn (decide (0<=v)) (.lf ({C4:=b.C4,C0:=nU u32 b.C0 (eg u32 1 v)},m))) (.lf (b,m))) (.lf (b,m));.br (port==10) (.lv (nV m v) λ(x0:Bool)=>.br x0 (.cn (decide (0<=v)) (.br (bc u32 (bf u32 b.C0 v) (1:Int)==(0:Int)) (.cn (decide (0<=v)) (.lp inferInstance (X3 b m port v (0,m)+1) ((True/\rE (v:Int)/\rZ/\rZ/\rE (0:Int)/\True)/\rE (m:List Int)/\(rE b.C4/\rE ((il u32 b.C0 (eg u32 1 v)):Int)/\True)/\(rE (0:Int)/\rE (0:Int)/\True)/\True) (0,m) λ(v0:Int×List Int)=>.br (decide (v0.1<32)) (let E2:=wrap i64 (wrap i64 v*32)+v0.1;.cn (bT 1 1&&bJ 0 1&&decide (0<=wrap i64 E2/\wrap i64 E2<(v0.2.length:Int))) (.nx ((True/\rE (v:Int)/\rZ/\rZ/\rE ((wrap i64 (v0.1+1)):Int)/\True)/\rE ((dF v0.2 (dE (wrap i64 (wrap i64 (wrap i64 v*32)+v0.1))) 0):List Int)/\(rE b.C4/\rE ((il u32 b.C0 (eg u32 1 v)):Int)/\True)/\(rE (0:Int)/\rE (0:Int)/\True)/\True) (Sum.inl (wrap i64 (v0.1+1),dF v0.2 (dE (wrap i64 E2)) 0)))) (.lf (Sum.inr ({C4:=b.C4,C0:=il u32 b.C0 (eg u32 1 v)},v0.2))))) T1)) T1) T1
def Bw b m port v:=(Bv b m port v).m
abbrev Quy b m port v:=(Bv b m port v).p
def Zfn:bm:={
 α:=(Int)×(List Int)
 F:=λst a=>([(1,.all 0),(3,(lk st 3)),(4,.ptr 1 0 0),(8,.ptr 2 0 0),(9,.int i64 a.1)],[⟨false,23,1,.ints u32 a.2⟩,⟨true,39,2,.gen [[(cT st 4 0),(cT st 4 1)]]⟩,⟨true,39,2,.gen [[(cT st 8 0),(cT st 8 1)]]⟩])
 a0:=λst=>((lk st 9).toInt,(nI st.rows 0))
 iy:=λst=>[0]++[(rX st 4 1),(rX st 8 2)]}
def Z6h:List (Nat×bm):=[(4,Zfn)]
def Zj5:bb:=mT 223 [false,true,false,false] true [.agg gr.sig,.one (.row 0),.one (.int .i64),.one (.int .u32)] [.arr 23 1 (.ints .u32)] (λa r=>Bv (gr.of (aC a 0)) (ir .u32 r 0) (av a 2) (av a 3)) (λX=>.agg (gr.cells (X.1))) (λX=>[⟨false,23,1,.ints .u32 (X.2)⟩])
theorem Zg4:bj pG Zj5:=oT (.cons Sg (.nil)) Tryz.func223 Tryz.call223 [] Z6h 3
def GB(m:ao)(port v:Int):Tree ((List fc)×ao):=
.br (port==0) (.lf ([{C3:=1,At:=m.A0,B9:=0,D2:=[(λ(n:Int)=>eW n.toNat) (wrap u8 v)]}],m)) (.br (decide (port<=2)) (.lf ([],m)) (.br (port==3) (.lv (TS v) λ(x0:jk)=>.lf ([],{A7:=m.A7,Mem:=m.Mem,A2:=m.A2,A9:=x0,A4:=m.A4,C1:=m.C1,A1:=m.A1,A0:=m.A0,A3:=m.A3,A6:=m.A6})) (.br (decide (port<=6)) (.an (Qnh m.A4 m.Mem port v m.A0) (.lv (TT m.A4 m.Mem port v m.A0) λ(x1:fm×List fc)=>.lf (x1.2,{A7:=m.A7,Mem:=m.Mem,A2:=m.A2,A9:=m.A9,A4:=x1.1,C1:=m.C1,A1:=m.A1,A0:=m.A0,A3:=m.A3,A6:=m.A6}))) (.br (decide (port<=9)) (.an (Qp5 m.C1 m.Mem port v m.A0) (.lv (XW m.C1 m.Mem port v m.A0) λ(x2:ij×List fc)=>.lf (x2.2,{A7:=m.A7,Mem:=m.Mem,A2:=m.A2,A9:=m.A9,A4:=m.A4,C1:=x2.1,A1:=m.A1,A0:=m.A0,A3:=m.A3,A6:=m.A6}))) (.an (Quy m.A1 m.Mem port v) (.lv (Bw m.A1 m.Mem port v) λ(x3:gr×List Int)=>.lf ([],{A7:=m.A7,Mem:=x3.2,A2:=m.A2,A9:=m.A9,A4:=m.A4,C1:=m.C1,A1:=x3.1,A0:=m.A0,A3:=m.A3,A6:=m.A6})))))))
def Ev m port v:=(GB m port v).m
abbrev Qzj m port v:=(GB m port v).p
def Zqa:bb:=mT 146 [true,false,false] true [.ptr 0,.one (.int .i64),.one (.int .u32)] [.box 42 49 (ao.oe (.row 1)),.arr 23 1 (.ints .u32)] (λa r=>GB (ao.BR (r.getD 0 default).cs (ir .u32 r 1)) (av a 1) (av a 2)) (λX=>.sl 4 (.ba .bd (X.1)) true) (λX=>[⟨true,42,49,.gen [(ao.ia (X.2) (.all 1))]⟩,⟨false,23,1,.ints .u32 (X.2).Mem⟩])
theorem Zkv:bj pG Zqa:=oT (.cons Zja (.cons Z4a (.cons Z5y (.cons Zg4 (.nil))))) Tryz.func146 Tryz.call146 [.sl (.ba .bd) true,.row 23 1 (.ints .u32)] [] 2
def NR(m:ao)(clock:Int):Tree ((List fc)×ao):=
.an (Q9w m) (.lv (nt m) λ(x0:bg)=>.an (Z3e x0 m.Mem) (.lv (uL x0 m.Mem) λ(x1:bg×kY×List Int)=>let E1:=({A7:=x1.1,Mem:=x1.2.2,A2:=m.A2,A9:=m.A9,A4:=m.A4,C1:=m.C1,A1:=m.A1,A0:=m.A0,A3:=false,A6:=m.A6}:ao);.br (x1.2.1.C3==1) (.lv (CE E1 x1.2.1.C7 clock) λ(x2:Int×ao)=>.an (DS x2.2.A7 x1.2.1.D7 x2.1) (.lv (lQ x2.2.A7 x1.2.1.D7 x2.1) λ(x3:bg)=>.lf ([],{A7:=x3,Mem:=x2.2.Mem,A2:=x2.2.A2,A9:=x2.2.A9,A4:=x2.2.A4,C1:=x2.2.C1,A1:=x2.2.A1,A0:=wrap u64 (x2.2.A0+1),A3:=x2.2.A3,A6:=x2.2.A6}))) (.br (x1.2.1.C3==2) (.an (Qzj E1 x1.2.1.C7 x1.2.1.Value) (.lv (Ev E1 x1.2.1.C7 x1.2.1.Value) λ(x4:List fc×ao)=>.lf (x4.1,{A7:=x4.2.A7,Mem:=x4.2.Mem,A2:=x4.2.A2,A9:=x4.2.A9,A4:=x4.2.A4,C1:=x4.2.C1,A1:=x4.2.A1,A0:=wrap u64 (x4.2.A0+1),A3:=x4.2.A3,A6:=x4.2.A6}))) (.br (x1.2.1.C3==3) (.lf ([],{A7:=x1.1,Mem:=x1.2.2,A2:=m.A2,A9:=m.A9,A4:=m.A4,C1:=m.C1,A1:=m.A1,A0:=wrap u64 (m.A0+1),A3:=true,A6:=m.A6})) (.br (x1.2.1.C3==4) (.lf ([],{A7:=x1.1,Mem:=x1.2.2,A2:=m.A2,A9:=m.A9,A4:=m.A4,C1:=m.C1,A1:=m.A1,A0:=wrap u64 (m.A0+1),A3:=false,A6:=true})) (.lf ([],{A7:=x1.1,Mem:=x1.2.2,A2:=m.A2,A9:=m.A9,A4:=m.A4,C1:=m.C1,A1:=m.A1,A0:=wrap u64 (m.A0+1),A3:=false,A6:=m.A6})))))))
def ez m clock:=(NR m clock).m
abbrev Pz m clock:=(NR m clock).p
def Z73:bb:=mT 89 [true,false] true [.ptr 0,.one (.int .u32)] [.box 42 49 (ao.oe (.row 1)),.arr 23 1 (.ints .u32)] (λa r=>NR (ao.BR (r.getD 0 default).cs (ir .u32 r 1)) (av a 1)) (λX=>.sl 4 (.ba .bd (X.1)) true) (λX=>[⟨true,42,49,.gen [(ao.ia (X.2) (.all 1))]⟩,⟨false,23,1,.ints .u32 (X.2).Mem⟩])
theorem Qoe:bj pG Z73:=oT (.cons Qgs (.cons Zr0 (.cons Zol (.cons Sj (.cons Zkv (.nil)))))) Tryz.func89 Tryz.call89 [.sl (.ba .bd) true,.row 23 1 (.ints .u32)] [] 2
end
noncomputable section
instance Sk {α β:Type} [Inhabited β]:Inhabited (α⊕β):=⟨.inr default⟩
