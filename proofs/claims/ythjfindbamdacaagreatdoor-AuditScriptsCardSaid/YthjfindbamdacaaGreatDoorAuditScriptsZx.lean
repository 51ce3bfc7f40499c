import Derived.Test.YthjfindbamdacaaGreatDoorAuditScriptsYz
open Nat renaming blt->bJ,beq->bT,lt_succ_self->cO
open List renaming length->dK,replicate->cQ,take->dB,drop->dC,set->dG,getD->aK
open Int renaming toNat->dF,tdiv->eU,tmod->dE
open UInt8 renaming ofNat->eX,toNat->eW
set_option maxRecDepth 100000
set_option linter.all false
namespace Go.Proofs.YthjfindbamdacaaGreatDoor
open Go Go.GD Go.IntKind
noncomputable section
def L3(m:List Int):Tree (List Int):=
.cn (bJ (0:Nat) (1:Nat)&&bT (1:Nat) (1:Nat)&&List.all [D.int u32 (0:Int)] D.plain&&decide ((0:Int)<=(m.length:Int)/\(m.length:Int)<=(m.length:Int)/\(m.length:Int)<=(9223372036854775807:Int)/\(↑(4:Nat):Int)*(m.length:Int)<=(140737488355328:Int))) (let E1:=dK (cQ (dF (m.length:Int)) (0:Int));.lf (dB (Min.min (m.length) E1) m++dC (Min.min (m.length) E1) (cQ (dF (m.length:Int)) (0:Int))))
def Yf m:=(L3 m).m
abbrev Qvv m:=(L3 m).p
def Zj2:bc:=mT 141 [] true [.one (.ints .u32)] [] (λa r=>L3 (eh .u32 a 0)) (λX=>.all 0) (λX=>[⟨false,23,1,.ints .u32 X⟩])
theorem Zih:bj pG Zj2:=oT (.nil) Tryz.func141 Tryz.call141 [.row 23 1 (.ints .u32)] [] 2
def Gz(m:au):Tree au:=
.an (Qvv m.Mem) (.lv (Yf m.Mem) λ(x0:List Int)=>.lf ({B1:=m.B1,Mem:=x0,A3:=m.A3,A9:=m.A9,A7:=m.A7,C3:=m.C3,A2:=m.A2,A1:=m.A1,A4:=m.A4,A6:=m.A6}))
def Jm m:=(Gz m).m
abbrev Qc m:=(Gz m).p
def Zo7:bc:=mT 87 [] true [.agg au.sig] [] (λa r=>Gz (au.of (aC a 0))) (λX=>.agg (au.fe X (.all 0))) (λX=>[⟨false,23,1,.ints .u32 X.Mem⟩])
theorem Qsw:bj pG Zo7:=oT (.cons Zih (.nil)) Tryz.func87 Tryz.call87 [.row 23 1 (.ints .u32)] [] 2
def Qs6(n k:Int)(z:(Int)×(List Int)):Prop:=0<=z.1/\(z.2.length:Int)=z.1/\(z.1<=k\/z.1=0)
def Qir(n k:Int)(z:(Int)×(List Int)):Nat:=(k-z.1).toNat
def V0(n k:Int):Tree (List UInt8):=
.lp inferInstance (Qir n k (0,[])+1) ((rE (n:Int)/\rE (k:Int)/\True/\rE (0:Int)/\True)/\rE ([]:List Int)/\True) (0,[]) λ(v0:Int×List Int)=>.br (decide (v0.1<k)) (.lv (AS n (wrap i64 (eU v0.1 9))) λ(x0:Int)=>.cn (decide (1*(v0.2.length+1)<=140737488355328)) (.nx ((rE (n:Int)/\rE (k:Int)/\True/\rE ((wrap i64 (v0.1+1)):Int)/\True)/\rE ((v0.2++[wrap u8 x0]):List Int)/\True) (Sum.inl (wrap i64 (v0.1+1),v0.2++[wrap u8 x0])))) (.lf (Sum.inr (bytesOf v0.2)))
def Z3c n k:=(V0 n k).m
def MP(n k:Int):Prop:=
k<=1000000000000
theorem Zag(n k:Int)(hw:MP n k):(V0 n k).p:=by
 simp only[MP]at hw
 unfold Tree.p V0
 repeat'(first|refine ga (inv:=Qs6 n k) (μ:=Qir n k) ?_ (cO _) (λ_ _=>?_)|exact trivial|refine aa (λ_=>?_) (λ_=>?_)|refine ba ?_ ?_|refine cz ?_ ?_|refine ar (λ_ _=>?_)|refine fh ?_|refine ez ?_|refine And.intro ?_ ?_)
 all_goals((try simp only[Qs6,Qir]at*);exact oI)
def Zi5:bu:={
 α:=(Int)×(List Int)
 F:=λst a=>([(0,(lk st 0)),(1,(lk st 1)),(5,.all 0),(6,.int i64 a.1)],[⟨false,5,1,.ints u8 a.2⟩])
 a0:=λst=>((lk st 6).toInt,(oP st.rows (rN st 5)))
 jn:=λst=>[]++[(rX st 5 0)]}
def Z70:List (Nat×bu):=[(3,Zi5)]
def Zjk:bc:=mP 20 [] true [.one (.int .i64),.one (.int .i64)] [] (λa r=>MP (aq a 0) (aq a 1)) (λa r=>Z3c (aq a 0) (aq a 1)) (λX=>.str X) (λX=>[])
theorem Zeh:bj pG Zjk:=wc drawn mQ (.cons VI (.nil)) Tryz.func20 Tryz.call20 (λa r=>V0 (aq a 0) (aq a 1)) [] Z70 3 (hp:=λa r h=>Zag (aq a 0) (aq a 1) h)
def Md(r:cy):Tree cy:=
.an (Qc r.A0) (.lv (Jm r.A0) λ(x0:au)=>.cn (decide (40*(0+r.C8.length)<=140737488355328)) (.cn (decide (32*(0+r.B0.length)<=140737488355328)) (.lf ({A0:=x0,B3:=r.B3,C8:=r.C8,B0:=r.B0}))))
def Uf r:=(Md r).m
abbrev Qme r:=(Md r).p
def Zkp:bc:=mT 262 [] true [.agg cy.sig] [] (λa r=>Md (cy.of (aC a 0))) (λX=>.agg (cy.fe X (.all 0) (.all 1) (.all 2))) (λX=>[⟨false,23,1,.ints .u32 X.A0.Mem⟩,⟨false,103,4,.av .ab X.C8⟩,⟨false,72,3,.av .bd X.B0⟩])
theorem Qyl:bj pG Zkp:=oT (.cons Qsw (.nil)) Tryz.func262 Tryz.call262 [.row 23 1 (.ints .u32),.row 103 4 (.av .ab),.row 72 3 (.av .bd)] [] 2
def Quu(e:gx):Tree Bool:=
.br (e.B9==1) (.lf (decide (e.C9=[]))) (.br (e.B9==6) (.lf (decide (e.C9=[]))) (.br (e.B9==2) (.br (e.N==0) (.lf (decide (e.C9=[]))) (.lf false)) (.br (e.B9==3) (.br (decide (e.N<=255)) (.lf (decide (e.C9=[]))) (.lf false)) (.br (e.B9==4) (.br (decide (e.N<=1)) (.br (decide (e.C9=[])) (.lf true) (.br (e.N==1) (.lf ((e.C9.length:Int)==(128:Int))) (.lf false))) (.lf false)) (.br (e.B9==5) (.br (e.N==0) (.br (decide ((e.C9.length:Int)>=(1:Int))) (.lf (decide ((e.C9.length:Int)<=(128:Int)))) (.lf false)) (.lf false)) (.lf false))))))
def O4 e:=(Quu e).m
def Zdz:bc:=mS 263 [] true [.agg gx.sig] [] (λa r=>Quu (gx.of (aC a 0))) (λX=>.bool X) (λX=>[])
theorem Z7v:bj pG Zdz:=oS (.nil) Tryz.func263 Tryz.call263 [] [] 2
def Me(r:cy)(e:gx):Tree (cy×Bool):=
.an (Qme r) (.lv (Uf r) λ(x0:cy)=>.lv (O4 e) λ(x1:Bool)=>.br (!x1) (.lf (x0,false)) (.br (e.B9==1) (.lf (x0,false)) (.br (decide ((x0.B0.length:Int)>=(16:Int))) (.lf (x0,false)) (.cn (decide (32*(x0.B0.length+1)<=140737488355328)) (.lf ({A0:=x0.A0,B3:=x0.B3,C8:=x0.C8,B0:=x0.B0++[e]},true))))))
def Ej r e:=(Me r e).m
abbrev Qmx r e:=(Me r e).p
def Z6g:bc:=mT 200 [] true [.agg cy.sig,.agg gx.sig] [] (λa r=>Me (cy.of (aC a 0)) (gx.of (aC a 1))) (λX=>.dt [.agg (cy.fe (X.1) (.all 0) (.all 1) (.all 2)),.bool (X.2)]) (λX=>[⟨false,23,1,.ints .u32 (X.1).A0.Mem⟩,⟨false,103,4,.av .ab (X.1).C8⟩,⟨false,72,3,.av .bd (X.1).B0⟩])
theorem Z2:bj pG Z6g:=oT (.cons Qyl (.cons Z7v (.nil))) Tryz.func200 Tryz.call200 [.row 23 1 (.ints .u32),.row 103 4 (.av .ab),.row 72 3 (.av .bd)] [] 2
def RN(n:Int):Tree gx:=
.lv (AS n 2) λ(x0:Int)=>.br (dE x0 (7:Int)==(0:Int)) (.lf ({B9:=2,N:=0,C9:=[]})) (.br (dE x0 (7:Int)==(1:Int)) (.lf ({B9:=3,N:=wrap u32 (bf i64 (bg i64 x0 8) 255),C9:=[]})) (.br (dE x0 (7:Int)==(2:Int)) (.lf ({B9:=3,N:=wrap u32 (bf i64 (bg i64 x0 8) 255),C9:=[]})) (.br (dE x0 (7:Int)==(3:Int)) (.lf ({B9:=4,N:=1,C9:=[]})) (.br (dE x0 (7:Int)==(4:Int)) (.an (MP x0 128) (.lv (Z3c x0 128) λ(x1:List UInt8)=>.lf ({B9:=4,N:=1,C9:=x1}))) (.br (dE x0 (7:Int)==(5:Int)) (let E1:=wrap i64 (1+dE (bg i64 x0 8) 40);.an (MP x0 E1) (.lv (Z3c x0 E1) λ(x2:List UInt8)=>.lf ({B9:=5,N:=0,C9:=x2}))) (.br (dE (bg i64 x0 8) (4:Int)==(0:Int)) (.lf ({B9:=4,N:=0,C9:=[]})) (.lf ({B9:=6,N:=wrap u32 (dE (bg i64 x0 8) 3),C9:=[]}))))))))
def O3 n:=(RN n).m
abbrev Qrk n:=(RN n).p
def Zfp:bc:=mT 28 [] true [.one (.int .i64)] [] (λa r=>RN (aq a 0)) (λX=>.agg (gx.cells X)) (λX=>[])
theorem Zco:bj pG Zfp:=oT (.cons VI (.cons Zeh (.nil))) Tryz.func28 Tryz.call28 [] [] 2
def Qom(m:List Int):Tree Int:=
.br (dE (m.length:Int) (32:Int) !=(0:Int)) (.lf 0) (.br (decide ((m.length:Int)>(1024:Int))) (.lf 0) (.lf (wrap i64 (eU (m.length:Int) 32))))
def wI m:=(Qom m).m
def Zg8:bc:=mS 157 [] true [.one (.ints .u32)] [] (λa r=>Qom (eh .u32 a 0)) (λX=>.int .i64 X) (λX=>[])
theorem Sj:bj pG Zg8:=oS (.nil) Tryz.func157 Tryz.call157 [] [] 2
def Qkx(c:iV):Tree Bool:=
.lf (decide ((c.D1.length:Int)<=(16:Int)))
def Qiu c:=(Qkx c).m
def Qw7:bc:=mS 158 [] true [.agg iV.sig] [] (λa r=>Qkx (iV.of (aC a 0))) (λX=>.bool X) (λX=>[])
theorem Qvm:bj pG Qw7:=oS (.nil) Tryz.func158 Tryz.call158 [] [] 2
def XS(t:iW):Tree Bool:=
.br t.D3 (.br t.D2 (.lf false) (.br t.D3 (.lf (t.C4 !=0)) (.br t.D2 (.lf true) (.lf (t.C4==0))))) (.br t.D3 (.lf (t.C4 !=0)) (.br t.D2 (.lf true) (.lf (t.C4==0))))
def TQ t:=(XS t).m
def Z3e:bc:=mS 159 [] true [.agg iW.sig] [] (λa r=>XS (iW.of (aC a 0))) (λX=>.bool X) (λX=>[])
theorem Z0h:bj pG Z3e:=oS (.nil) Tryz.func159 Tryz.call159 [] [] 2
def XU(d0:fp)(c7:Int):Tree Bool:=
.br (decide (d0.ae>64)) (.lf false) (.br (decide (d0.B7<0)) (.lf false) (.br (decide (d0.B7>3)) (.lf false) (.br (d0.B7 !=1) (.br (d0.D6==0) (.br (d0.B6==0) (.br (d0.B2==0) (.lf (decide (d0.B8=[]))) (.lf false)) (.lf false)) (.lf false)) (.br (decide (d0.B6>=d0.ae)) (.lf false) (.br (decide (wrap i64 d0.B2>=c7)) (.lf false) (.br (d0.D6==1) (.br (decide (d0.B8=[])) (.lf true) (.br (d0.D6==2) (.lf ((d0.B8.length:Int)==(128:Int))) (.lf false))) (.br (d0.D6==2) (.lf ((d0.B8.length:Int)==(128:Int))) (.lf false))))))))
def TS d0 c7:=(XU d0 c7).m
def Z77:bc:=mS 160 [] true [.agg fp.sig,.one (.int .i64)] [] (λa r=>XU (fp.of (aC a 0)) (aq a 1)) (λX=>.bool X) (λX=>[])
theorem Z5l:bj pG Z77:=oS (.nil) Tryz.func160 Tryz.call160 [] [] 2
def XT(n:ia)(c7:Int):Tree Bool:=
let T1:Tree (Bool):=.br n.B5 (.br (decide (n.F1>=1)) (.lf (decide (n.F1<=128))) (.lf false)) (.lf (n.F1==0));.br n.C5 (.br n.B5 (.lf false) (.br (decide (wrap i64 n.C0>=c7)) (.lf false) (.br (!n.C5) (.br (n.C0 !=0) (.lf false) T1) T1))) (.br (!n.C5) (.br (n.C0 !=0) (.lf false) T1) T1)
def TR n c7:=(XT n c7).m
def Zax:bc:=mS 161 [] true [.agg ia.sig,.one (.int .i64)] [] (λa r=>XT (ia.of (aC a 0)) (aq a 1)) (λX=>.bool X) (λX=>[])
theorem Z7e:bj pG Zax:=oS (.nil) Tryz.func161 Tryz.call161 [] [] 2
def Qfx(b:gv)(c7:Int)(z:(Int)):Prop:=0<=z/\z<=32
def TX(b:gv)(c7:Int)(z:(Int)):Nat:=(32-z).toNat
def LW(b:gv)(c7:Int):Tree Bool:=
.lp inferInstance (TX b c7 0+1) ((rE (c7:Int)/\rZ/\rE (0:Int)/\True)/\(rE b.C7/\rE b.C2/\True)/\True) 0 λ(v0:Int)=>.br (decide (v0<32)) (.cn (decide (0<=wrap u64 v0)) (let T1:Tree ((Int)⊕(Bool)):=.nx ((rE (c7:Int)/\rZ/\rE ((wrap i64 (v0+1)):Int)/\True)/\(rE b.C7/\rE b.C2/\True)/\True) (Sum.inl (wrap i64 (v0+1)));.br (bf u32 (bg u32 b.C2 (wrap u64 v0)) (1:Int)==(1:Int)) (.br (decide (v0>=c7)) (.lf (Sum.inr false)) T1) T1)) (.lf (Sum.inr true))
def TY b c7:=(LW b c7).m
theorem Qss(b:gv)(c7:Int):(LW b c7).p:=by
 unfold Tree.p LW
 repeat'(first|refine ga (inv:=Qfx b c7) (μ:=TX b c7) ?_ (cO _) (λ_ _=>?_)|exact trivial|refine aa (λ_=>?_) (λ_=>?_)|refine ba ?_ ?_|refine cz ?_ ?_|refine ar (λ_ _=>?_)|refine fh ?_|refine ez ?_|refine And.intro ?_ ?_)
 all_goals((try simp only[Qfx,TX]at*);exact oI)
def Qv7:bu:={
 α:=(Int)
 F:=λst a=>([(1,(lk st 1)),(2,.ptr 0 0 0),(5,.int i64 a)],[⟨true,39,2,.gen [[(cT st 2 0),(cT st 2 1)]]⟩])
 a0:=λst=>(lk st 5).toInt
 jn:=λst=>[]++[(rX st 2 0)]}
def Qr2:List (Nat×bu):=[(2,Qv7)]
def Qwu:bc:=mS 162 [] true [.agg gv.sig,.one (.int .i64)] [] (λa r=>LW (gv.of (aC a 0)) (aq a 1)) (λX=>.bool X) (λX=>[])
theorem Quv:bj pG Qwu:=oS (.nil) Tryz.func162 Tryz.call162 [] Qr2 3 (λ_ _ _=>by kernel_rfl) (λa r=>Qss (gv.of (aC a 0)) (aq a 1)) (λ_ X=>by kernel_rfl)
def X8(m:au):Tree Bool:=
.lv (wI m.Mem) λ(x0:Int)=>.br (decide (x0<1)) (.lf false) (.br (m.B1.X.a0 !=0) (.lf false) (.br (decide (m.B1.B4.a0>31)) (.lf false) (.br (decide (m.B1.B4.a7>31)) (.lf false) (.br (decide (m.B1.B4.a6>255)) (.lf false) (.br (dE m.B1.B4.a1 (4:Int) !=(0:Int)) (.lf false) (.lv (Qiu m.A3) λ(x1:Bool)=>.br (!x1) (.lf false) (.lv (TQ m.A9) λ(x2:Bool)=>.br (!x2) (.lf false) (.lv (TS m.A7 x0) λ(x3:Bool)=>.br (!x3) (.lf false) (.lv (TR m.C3 x0) λ(x4:Bool)=>.br (!x4) (.lf false) (.lv (TY m.A2 x0) λ(x5:Bool)=>.br (!x5) (.lf false) (.br (decide (m.A1<=1152921504606846976)) (.br m.A4 (.lf (!m.A6)) (.lf true)) (.lf false))))))))))))
def pS m:=(X8 m).m
def Zq0:bc:=mS 101 [] true [.agg au.sig] [] (λa r=>X8 (au.of (aC a 0))) (λX=>.bool X) (λX=>[])
theorem Qt8:bj pG Zq0:=oS (.cons Sj (.cons Qvm (.cons Z0h (.cons Z5l (.cons Z7e (.cons Quv (.nil))))))) Tryz.func101 Tryz.call101 [] [] 2
def Um(t:iW):Tree (iW×Bool):=
.br (!t.D3) (.lf (t,false)) (.lf ({D3:=false,C4:=t.C4,D2:=true},true))
def Uc t:=(Um t).m
def Ziw:bc:=mS 163 [] true [.agg iW.sig] [] (λa r=>Um (iW.of (aC a 0))) (λX=>.dt [.agg (iW.cells (X.1)),.bool (X.2)]) (λX=>[])
theorem Qya:bj pG Ziw:=oS (.nil) Tryz.func163 Tryz.call163 [] [] 2
def RM(c:iV)(b:Int):Tree (iV×Bool):=
.br (decide ((c.D1.length:Int)>=(16:Int))) (.lf (c,false)) (.cn (decide (c.D1.length+1<=maxLen)) (.lf ({D1:=c.D1++[(λ(n:Int)=>eX n.toNat) b]},true)))
def Yj c b:=(RM c b).m
abbrev Qlm c b:=(RM c b).p
def Zjp:bc:=mT 164 [] true [.agg iV.sig,.one (.int .u8)] [] (λa r=>RM (iV.of (aC a 0)) (aq a 1)) (λX=>.dt [.agg (iV.cells (X.1)),.bool (X.2)]) (λX=>[])
theorem Qyx:bj pG Zjp:=oT (.nil) Tryz.func164 Tryz.call164 [] [] 2
def OQ(m:List Int)(frame:Int):Tree Bool:=
.lv (wI m) λ(x0:Int)=>.lf (decide (wrap u64 frame<wrap u64 x0))
def Q2 m frame:=(OQ m frame).m
def Zle:bc:=mS 237 [] true [.one (.ints .u32),.one (.int .u32)] [] (λa r=>OQ (eh .u32 a 0) (aq a 1)) (λX=>.bool X) (λX=>[])
theorem Sk:bj pG Zle:=oS (.cons Sj (.nil)) Tryz.func237 Tryz.call237 [] [] 2
def Ja(m:List Int)(addr size v:Int):Tree (List Int):=
let E1:=bT 1 1&&bJ 0 1&&decide (0<=wrap u32 (eU addr 4)/\wrap u32 (eU addr 4)<(m.length:Int));let E2:=dF (wrap u32 (eU addr 4));.br (size==4) (.cn E1 (.lf (dG m E2 v))) (.cn E1 (let E3:=decide (0<=wrap u32 (8*dE addr 4));.cn E3 (.cn E3 (.cn E1 (.lf (dG m E2 (ir u32 (nS u32 (m.getD E2 0) (eg u32 255 (wrap u32 (8*dE addr 4)))) (eg u32 (bf u32 v 255) (wrap u32 (8*dE addr 4))))))))))
def Bq m addr size v:=(Ja m addr size v).m
abbrev Ty m addr size v:=(Ja m addr size v).p
def Zpb:bc:=mT 278 [true,false,false,false] true [.one (.row 0),.one (.int .u32),.one (.int .i64),.one (.int .u32)] [.arr 23 1 (.ints .u32)] (λa r=>Ja (gj .u32 r 0) (aq a 1) (aq a 2) (aq a 3)) (λX=>.dt []) (λX=>[⟨false,23,1,.ints .u32 X⟩])
theorem Z4v:bj pG Zpb:=oT (.nil) Tryz.func278 Tryz.call278 [] [] 2
def XA(m:List Int)(frame:Int)(s:List UInt8)(z:(Int)×(List Int)):Nat:=(128-z.1).toNat
def GU(m:List Int)(frame:Int)(s:List UInt8):Tree (List Int):=
.lp inferInstance (XA m frame s (0,m)+1) ((True/\rE (frame:Int)/\rE (s:List UInt8)/\rE (0:Int)/\True)/\rE (m:List Int)/\True) (0,m) λ(v0:Int×List Int)=>.br (decide (v0.1<(s.length:Int))) (.br (decide (v0.1<128)) (.cn (decide (0<=v0.1/\v0.1<(s.length:Int))) (let E1:=wrap u32 (↑(eW (s.getD v0.1.toNat (0:UInt8))):Int);let E2:=wrap u32 (wrap i64 (wrap i64 (frame*128)+v0.1));.an (Ty v0.2 E2 1 E1) (.lv (Bq v0.2 E2 1 E1) λ(x0:List Int)=>.nx ((True/\rE (frame:Int)/\rE (s:List UInt8)/\rE ((wrap i64 (v0.1+1)):Int)/\True)/\rE (x0:List Int)/\True) (Sum.inl (wrap i64 (v0.1+1),x0))))) (.lf (Sum.inr v0.2))) (.lf (Sum.inr v0.2))
def Ox m frame s:=(GU m frame s).m
abbrev Qlq m frame s:=(GU m frame s).p
def Zfg:bu:={
 α:=(Int)×(List Int)
 F:=λst a=>([(0,.all 0),(1,(lk st 1)),(2,(lk st 2)),(6,.int i64 a.1)],[⟨false,23,1,.ints u32 a.2⟩])
 a0:=λst=>((lk st 6).toInt,(oP st.rows 0))
 jn:=λst=>[0]++[]}
def Z7o:List (Nat×bu):=[(1,Zfg)]
def Zjf:bc:=mT 238 [true,false,false] true [.one (.row 0),.one (.int .i64),.one (.str)] [.arr 23 1 (.ints .u32)] (λa r=>GU (gj .u32 r 0) (aq a 1) (iq a 2)) (λX=>.dt []) (λX=>[⟨false,23,1,.ints .u32 X⟩])
theorem Qzo:bj pG Zjf:=oT (.cons Z4v (.nil)) Tryz.func238 Tryz.call238 [] Z7o 3
def G6(d0:fp)(m:List Int)(e:gx):Tree (fp×Bool×(List Int)):=
.br (d0.B7 !=1) (.lf (d0,false,m)) (.br (e.B9 !=4) (.lf (d0,false,m)) (.br (decide (e.N>1)) (.lf (d0,false,m)) (let E4:=({ae:=d0.ae,C1:=d0.C1,Frame:=d0.Frame,B7:=2,D6:=0,B6:=0,B2:=0,B8:=[]}:fp);let E5:=({ae:=d0.ae,C1:=d0.C1,Frame:=d0.Frame,B7:=3,D6:=0,B6:=0,B2:=0,B8:=[]}:fp);let T2:Tree ((fp×Bool×(List Int))):=.br (e.N==1) (.lf (E4,true,m)) (.lf (E5,true,m));let E6:=decide ((e.C9.length:Int)>(0:Int));.br (e.N==1) (let T1:Tree ((fp×Bool×(List Int))):=.br (d0.D6==1) (.an (Qlq m (wrap i64 d0.B2) e.C9) (.lv (Ox m (wrap i64 d0.B2) e.C9) λ(x1:List Int)=>.br (e.N==1) (.lf (E4,true,x1)) (.lf (E5,true,x1)))) T2;let T3:Tree ((fp×Bool×(List Int))):=.br (!d0.D6==1) (.br E6 (.lf (d0,false,m)) T1) T1;.br (d0.D6==1) (.br ((e.C9.length:Int) !=(128:Int)) (.lf (d0,false,m)) (.lv (Q2 m d0.B2) λ(x0:Bool)=>.br (!x0) (.lf (d0,false,m)) T3)) T3) (.br E6 (.lf (d0,false,m)) T2))))
def Jg d0 m e:=(G6 d0 m e).m
abbrev Qh9 d0 m e:=(G6 d0 m e).p
def Ze3:bc:=mT 165 [false,true,false] true [.agg fp.sig,.one (.row 0),.agg gx.sig] [.arr 23 1 (.ints .u32)] (λa r=>G6 (fp.of (aC a 0)) (gj .u32 r 0) (gx.of (aC a 2))) (λX=>.dt [.agg (fp.cells (X.1)),.bool (X.2.1)]) (λX=>[⟨false,23,1,.ints .u32 (X.2.2)⟩])
theorem Qs2:bj pG Ze3:=oT (.cons Sk (.cons Qzo (.nil))) Tryz.func165 Tryz.call165 [] [] 2
def LS(n:ia)(m:List Int)(frame:List UInt8):Tree (ia×Bool×(List Int)):=
.br (!n.C5) (.lf (n,false,m)) (.br (decide ((frame.length:Int)<(1:Int))) (.lf (n,false,m)) (.br (decide ((frame.length:Int)>(128:Int))) (.lf (n,false,m)) (.lv (Q2 m n.C0) λ(x0:Bool)=>.br (!x0) (.lf (n,false,m)) (.an (Qlq m (wrap i64 n.C0) frame) (.lv (Ox m (wrap i64 n.C0) frame) λ(x1:List Int)=>.lf ({Frame:=n.Frame,E0:=n.E0,C5:=false,C0:=0,B5:=true,F1:=wrap u32 (frame.length:Int)},true,x1))))))
def LR n m frame:=(LS n m frame).m
abbrev Qhd n m frame:=(LS n m frame).p
def Zaq:bc:=mT 166 [false,true,false] true [.agg ia.sig,.one (.row 0),.one (.str)] [.arr 23 1 (.ints .u32)] (λa r=>LS (ia.of (aC a 0)) (gj .u32 r 0) (iq a 2)) (λX=>.dt [.agg (ia.cells (X.1)),.bool (X.2.1)]) (λX=>[⟨false,23,1,.ints .u32 (X.2.2)⟩])
theorem Qrc:bj pG Zaq:=oT (.cons Sk (.cons Qzo (.nil))) Tryz.func166 Tryz.call166 [] [] 2
def Fw(m:au)(e:gx):Tree (Bool×au):=
.br m.A6 (.lf (false,m)) (let T1:Tree ((Bool×au)):=.br (e.B9==4) (.an (Qh9 m.A7 m.Mem e) (.lv (Jg m.A7 m.Mem e) λ(x2:fp×Bool×List Int)=>.lf (x2.2.1,{B1:=m.B1,Mem:=x2.2.2,A3:=m.A3,A9:=m.A9,A7:=x2.1,C3:=m.C3,A2:=m.A2,A1:=m.A1,A4:=m.A4,A6:=m.A6}))) (let T3:Tree ((Bool×au)):=.br (e.B9==6) (.br (decide (e.C9=[])) (.lf (true,{B1:=m.B1,Mem:=m.Mem,A3:=m.A3,A9:=m.A9,A7:=m.A7,C3:=m.C3,A2:={C7:=e.N,C2:=m.A2.C2},A1:=m.A1,A4:=m.A4,A6:=m.A6})) (.lf (false,m))) (.lf (false,m));.br (e.B9==5) (.br (e.N==0) (.an (Qhd m.C3 m.Mem e.C9) (.lv (LR m.C3 m.Mem e.C9) λ(x3:ia×Bool×List Int)=>.lf (x3.2.1,{B1:=m.B1,Mem:=x3.2.2,A3:=m.A3,A9:=m.A9,A7:=m.A7,C3:=x3.1,A2:=m.A2,A1:=m.A1,A4:=m.A4,A6:=m.A6}))) T3) T3);let T2:Tree ((Bool×au)):=.br (e.B9==3) (.br (decide (e.N<=255)) (.br (decide (e.C9=[])) (.an (Qlm m.A3 (wrap u8 e.N)) (.lv (Yj m.A3 (wrap u8 e.N)) λ(x1:iV×Bool)=>.lf (x1.2,{B1:=m.B1,Mem:=m.Mem,A3:=x1.1,A9:=m.A9,A7:=m.A7,C3:=m.C3,A2:=m.A2,A1:=m.A1,A4:=m.A4,A6:=m.A6}))) T1) T1) T1;.br (e.B9==2) (.br (e.N==0) (.br (decide (e.C9=[])) (.lv (Uc m.A9) λ(x0:iW×Bool)=>.lf (x0.2,{B1:=m.B1,Mem:=m.Mem,A3:=m.A3,A9:=x0.1,A7:=m.A7,C3:=m.C3,A2:=m.A2,A1:=m.A1,A4:=m.A4,A6:=m.A6})) T2) T2) T2)
def lL m e:=(Fw m e).m
abbrev Qrn m e:=(Fw m e).p
def Ze8:bc:=mT 103 [true,false] true [.ptr 0,.agg gx.sig] [.box 42 49 (au.kO (.row 1)),.arr 23 1 (.ints .u32)] (λa r=>Fw (au.pZ (r.getD 0 default).cs (gj .u32 r 1)) (gx.of (aC a 1))) (λX=>.bool (X.1)) (λX=>[⟨true,42,49,.gen [(au.fe (X.2) (.all 1))]⟩,⟨false,23,1,.ints .u32 (X.2).Mem⟩])
theorem Zay:bj pG Ze8:=oT (.cons Qya (.cons Qyx (.cons Qs2 (.cons Qrc (.nil))))) Tryz.func103 Tryz.call103 [.row 23 1 (.ints .u32)] [] 2
def L7(m:cy)(e:gx):Tree (Bool×cy):=
.br m.A0.A6 (.lf (false,m)) (let T1:Tree ((Bool×cy)):=.br (e.B9==4) (.an (Qh9 m.A0.A7 m.A0.Mem e) (.lv (Jg m.A0.A7 m.A0.Mem e) λ(x2:fp×Bool×List Int)=>.lf (x2.2.1,{A0:={B1:=m.A0.B1,Mem:=x2.2.2,A3:=m.A0.A3,A9:=m.A0.A9,A7:=x2.1,C3:=m.A0.C3,A2:=m.A0.A2,A1:=m.A0.A1,A4:=m.A0.A4,A6:=m.A0.A6},B3:=m.B3,C8:=m.C8,B0:=m.B0}))) (let T3:Tree ((Bool×cy)):=.br (e.B9==6) (.br (decide (e.C9=[])) (.lf (true,{A0:={B1:=m.A0.B1,Mem:=m.A0.Mem,A3:=m.A0.A3,A9:=m.A0.A9,A7:=m.A0.A7,C3:=m.A0.C3,A2:={C7:=e.N,C2:=m.A0.A2.C2},A1:=m.A0.A1,A4:=m.A0.A4,A6:=m.A0.A6},B3:=m.B3,C8:=m.C8,B0:=m.B0})) (.lf (false,m))) (.lf (false,m));.br (e.B9==5) (.br (e.N==0) (.an (Qhd m.A0.C3 m.A0.Mem e.C9) (.lv (LR m.A0.C3 m.A0.Mem e.C9) λ(x3:ia×Bool×List Int)=>.lf (x3.2.1,{A0:={B1:=m.A0.B1,Mem:=x3.2.2,A3:=m.A0.A3,A9:=m.A0.A9,A7:=m.A0.A7,C3:=x3.1,A2:=m.A0.A2,A1:=m.A0.A1,A4:=m.A0.A4,A6:=m.A0.A6},B3:=m.B3,C8:=m.C8,B0:=m.B0}))) T3) T3);let T2:Tree ((Bool×cy)):=.br (e.B9==3) (.br (decide (e.N<=255)) (.br (decide (e.C9=[])) (.an (Qlm m.A0.A3 (wrap u8 e.N)) (.lv (Yj m.A0.A3 (wrap u8 e.N)) λ(x1:iV×Bool)=>.lf (x1.2,{A0:={B1:=m.A0.B1,Mem:=m.A0.Mem,A3:=x1.1,A9:=m.A0.A9,A7:=m.A0.A7,C3:=m.A0.C3,A2:=m.A0.A2,A1:=m.A0.A1,A4:=m.A0.A4,A6:=m.A0.A6},B3:=m.B3,C8:=m.C8,B0:=m.B0}))) T1) T1) T1;.br (e.B9==2) (.br (e.N==0) (.br (decide (e.C9=[])) (.lv (Uc m.A0.A9) λ(x0:iW×Bool)=>.lf (x0.2,{A0:={B1:=m.A0.B1,Mem:=m.A0.Mem,A3:=m.A0.A3,A9:=x0.1,A7:=m.A0.A7,C3:=m.A0.C3,A2:=m.A0.A2,A1:=m.A0.A1,A4:=m.A0.A4,A6:=m.A0.A6},B3:=m.B3,C8:=m.C8,B0:=m.B0})) T2) T2) T2)
def Ym m e:=(L7 m e).m
abbrev Qn0 m e:=(L7 m e).p
def Z69:bc:=mT 103 [true,false] true [.ptr 0,.agg gx.sig] [.box 154 52 (cy.kO (.row 1) (.row 2) (.row 3)),.arr 23 1 (.ints .u32),.arr 103 4 (.av .ab),.arr 72 3 (.av .bd)] (λa r=>L7 (cy.pZ (r.getD 0 default).cs (gj .u32 r 1) (jM .ab r 2) (jM .bd r 3)) (gx.of (aC a 1))) (λX=>.bool (X.1)) (λX=>[⟨true,154,52,.gen [(cy.fe (X.2) (.all 1) (.all 2) (.all 3))]⟩,⟨false,23,1,.ints .u32 (X.2).A0.Mem⟩,⟨false,103,4,.av .ab (X.2).C8⟩,⟨false,72,3,.av .bd (X.2).B0⟩])
theorem Z2b:bj pG Z69:=oT (.cons Qya (.cons Qyx (.cons Qs2 (.cons Qrc (.nil))))) Tryz.func103 Tryz.call103 [.row 23 1 (.ints .u32),.row 103 4 (.av .ab),.row 72 3 (.av .bd)] [] 2
def Mb(m:cy)(e:gx):Tree (Bool×cy):=
.an (Qn0 m e) (.lv (Ym m e) λ(x0:Bool×cy)=>.lf (x0.1,x0.2))
def Yn m e:=(Mb m e).m
abbrev Qk9 m e:=(Mb m e).p
def Z3a:bc:=mT 303 [true,false] true [.ptr 0,.agg gx.sig] [.box 154 52 (cy.kO (.row 1) (.row 2) (.row 3)),.arr 23 1 (.ints .u32),.arr 103 4 (.av .ab),.arr 72 3 (.av .bd)] (λa r=>Mb (cy.pZ (r.getD 0 default).cs (gj .u32 r 1) (jM .ab r 2) (jM .bd r 3)) (gx.of (aC a 1))) (λX=>.bool (X.1)) (λX=>[⟨true,154,52,.gen [(cy.fe (X.2) (.all 1) (.all 2) (.all 3))]⟩,⟨false,23,1,.ints .u32 (X.2).A0.Mem⟩,⟨false,103,4,.av .ab (X.2).C8⟩,⟨false,72,3,.av .bd (X.2).B0⟩])
theorem Qzz:bj pG Z3a:=oT (.cons Z2b (.nil)) Tryz.func303 Tryz.call303 [.row 23 1 (.ints .u32),.row 103 4 (.av .ab),.row 72 3 (.av .bd)] [] 2
def Mc(r:cy)(e:gx):Tree cy:=
.an (Qk9 r e) (.lv (Yn r e) λ(x0:Bool×cy)=>.br x0.1 (.cn (decide (40*(x0.2.C8.length+1)<=140737488355328)) (.lf ({A0:=x0.2.A0,B3:=x0.2.B3,C8:=x0.2.C8++[{At:=x0.2.A0.A1,C6:=e}],B0:=x0.2.B0}))) (.lf x0.2))
def O2 r e:=(Mc r e).m
abbrev Qio r e:=(Mc r e).p
def Zc4:bc:=lZ 1 264 [true,false] [.ptr 0,.agg gx.sig] [.box 154 52 (cy.kO (.row 1) (.row 2) (.row 3)),.arr 23 1 (.ints .u32),.arr 103 4 (.av .ab),.arr 72 3 (.av .bd)] (λa r=>Qio (cy.pZ (r.getD 0 default).cs (gj .u32 r 1) (jM .ab r 2) (jM .bd r 3)) (gx.of (aC a 1))) (λa r=>O2 (cy.pZ (r.getD 0 default).cs (gj .u32 r 1) (jM .ab r 2) (jM .bd r 3)) (gx.of (aC a 1))) (λX=>.dt []) (λX=>[⟨true,154,52,.gen [(cy.fe X (.all 1) (.all 2) (.all 3))]⟩,⟨false,23,1,.ints .u32 X.A0.Mem⟩,⟨false,103,4,.av .ab X.C8⟩,⟨false,72,3,.av .bd X.B0⟩])
theorem Z5t:bj pG Zc4:=Eu drawn mQ (.cons Qzz (.nil)) Tryz.func264 Tryz.call264 (λa r=>Mc (cy.pZ (r.getD 0 default).cs (gj .u32 r 1) (jM .ab r 2) (jM .bd r 3)) (gx.of (aC a 1))) [.row 23 1 (.ints .u32),.row 103 4 (.av .ab),.row 72 3 (.av .bd)] [] 2 (λ_ _ _=>by kernel_rfl) (λ_ _=>rfl) (λ_ _ h=>h)
def RE(is:Bool)(n:Int):Tree Int:=
.br is (.cn (decide (0<=wrap u64 n)) (.lf (eg u32 1 (wrap u64 n)))) (.lf 0)
def Eg is n:=(RE is n).m
abbrev Sl is n:=(RE is n).p
def Zk:bc:=mT 292 [] true [.one (.bool),.one (.int .i64)] [] (λa r=>RE (uY a 0) (aq a 1)) (λX=>.int .u32 X) (λX=>[])
theorem Zfl:bj pG Zk:=oT (.nil) Tryz.func292 Tryz.call292 [] [] 2
def Qiv(t:iW):Tree Bool:=
.lf t.D2
def Yb t:=(Qiv t).m
def Qsp:bc:=mS 293 [] true [.agg iW.sig] [] (λa r=>Qiv (iW.of (aC a 0))) (λX=>.bool X) (λX=>[])
theorem Qr5:bj pG Qsp:=oS (.nil) Tryz.func293 Tryz.call293 [] [] 2
def Qf0(c:iV):Tree Bool:=
.lf (decide ((c.D1.length:Int)>(0:Int)))
def TU c:=(Qf0 c).m
def Qon:bc:=mS 294 [] true [.agg iV.sig] [] (λa r=>Qf0 (iV.of (aC a 0))) (λX=>.bool X) (λX=>[])
theorem Qnn:bj pG Qon:=oS (.nil) Tryz.func294 Tryz.call294 [] [] 2
def Qjb(d0:fp):Tree Bool:=
.br (d0.B7==2) (.lf true) (.lf (d0.B7==3))
def Yc d0:=(Qjb d0).m
def Qw0:bc:=mS 295 [] true [.agg fp.sig] [] (λa r=>Qjb (fp.of (aC a 0))) (λX=>.bool X) (λX=>[])
theorem Qsi:bj pG Qw0:=oS (.nil) Tryz.func295 Tryz.call295 [] [] 2
def Qkw(n:ia):Tree Bool:=
.lf n.B5
def Yd n:=(Qkw n).m
def Qwt:bc:=mS 296 [] true [.agg ia.sig] [] (λa r=>Qkw (ia.of (aC a 0))) (λX=>.bool X) (λX=>[])
theorem Qu2:bj pG Qwt:=oS (.nil) Tryz.func296 Tryz.call296 [] [] 2
def Qp3(b:gv)(z:(Int)×(Int)):Prop:=0<=z.2/\z.2<=32
def Qfh(b:gv)(z:(Int)×(Int)):Nat:=(32-z.2).toNat
def V1(b:gv):Tree Int:=
.lp inferInstance (Qfh b (0,0)+1) ((rZ/\rE (0:Int)/\rE (0:Int)/\True)/\(rE b.C7/\rE b.C2/\True)/\True) (0,0) λ(v0:Int×Int)=>.br (decide (v0.2<32)) (.cn (decide (0<=wrap u64 v0.2)) (.nx ((rZ/\rE ((wrap i64 (v0.1+wrap i64 (bf u32 (bg u32 b.C2 (wrap u64 v0.2)) 1))):Int)/\rE ((wrap i64 (v0.2+1)):Int)/\True)/\(rE b.C7/\rE b.C2/\True)/\True) (Sum.inl (wrap i64 (v0.1+wrap i64 (bf u32 (bg u32 b.C2 (wrap u64 v0.2)) 1)),wrap i64 (v0.2+1))))) (.lf (Sum.inr v0.1))
def LP b:=(V1 b).m
theorem Z6r(b:gv):(V1 b).p:=by
 unfold Tree.p V1
 repeat'(first|refine ga (inv:=Qp3 b) (μ:=Qfh b) ?_ (cO _) (λ_ _=>?_)|exact trivial|refine aa (λ_=>?_) (λ_=>?_)|refine ba ?_ ?_|refine cz ?_ ?_|refine ar (λ_ _=>?_)|refine fh ?_|refine ez ?_|refine And.intro ?_ ?_)
 all_goals((try simp only[Qp3,Qfh]at*);exact oI)
def Zca:bu:={
 α:=(Int)×(Int)
 F:=λst a=>([(1,.ptr 0 0 0),(3,.int i64 a.1),(4,.int i64 a.2)],[⟨true,39,2,.gen [[(cT st 1 0),(cT st 1 1)]]⟩])
 a0:=λst=>((lk st 3).toInt,(lk st 4).toInt)
 jn:=λst=>[]++[(rX st 1 0)]}
def Z2j:List (Nat×bu):=[(3,Zca)]
def Zfq:bc:=mS 282 [] true [.agg gv.sig] [] (λa r=>V1 (gv.of (aC a 0))) (λX=>.int .i64 X) (λX=>[])
theorem Quk:bj pG Zfq:=oS (.nil) Tryz.func282 Tryz.call282 [] Z2j 3 (λ_ _ _=>by kernel_rfl) (λa r=>Z6r (gv.of (aC a 0))) (λ_ X=>by kernel_rfl)
def Q9(b:gv):Tree Bool:=
.lv (LP b) λ(x0:Int)=>.lf (wrap u64 x0 !=wrap u64 b.C7)
def OU b:=(Q9 b).m
def Qpp:bc:=mS 297 [] true [.agg gv.sig] [] (λa r=>Q9 (gv.of (aC a 0))) (λX=>.bool X) (λX=>[])
theorem Qng:bj pG Qpp:=oS (.cons Quk (.nil)) Tryz.func297 Tryz.call297 [] [] 2
def RG(m:au):Tree Int:=
.lv (Yb m.A9) λ(x0:Bool)=>.an (Sl x0 0) (.lv (Eg x0 0) λ(x1:Int)=>.lv (TU m.A3) λ(x2:Bool)=>.an (Sl x2 1) (.lv (Eg x2 1) λ(x3:Int)=>.lv (Yc m.A7) λ(x4:Bool)=>.an (Sl x4 2) (.lv (Eg x4 2) λ(x5:Int)=>.lv (Yd m.C3) λ(x6:Bool)=>.an (Sl x6 3) (.lv (Eg x6 3) λ(x7:Int)=>.lv (OU m.A2) λ(x8:Bool)=>.an (Sl x8 4) (.lv (Eg x8 4) λ(x9:Int)=>.lf (ir u32 (ir u32 (ir u32 (ir u32 x1 x3) x5) x7) x9))))))
def OX m:=(RG m).m
abbrev Qrp m:=(RG m).p
def Zgp:bc:=mT 239 [] true [.agg au.sig] [] (λa r=>RG (au.of (aC a 0))) (λX=>.int .u32 X) (λX=>[])
theorem Zb:bj pG Zgp:=oT (.cons Zfl (.cons Qr5 (.cons Qnn (.cons Qsi (.cons Qu2 (.cons Qng (.nil))))))) Tryz.func239 Tryz.call239 [] [] 2
def L0(m:au):Tree Int:=
.an (Qrp m) (.lv (OX m) λ(x0:Int)=>.lf (bf u32 x0 m.B1.B4.a7))
def Bs m:=(L0 m).m
abbrev Qfo m:=(L0 m).p
def Z6o:bc:=mT 167 [] true [.agg au.sig] [] (λa r=>L0 (au.of (aC a 0))) (λX=>.int .u32 X) (λX=>[])
theorem Qoz:bj pG Z6o:=oT (.cons Zb (.nil)) Tryz.func167 Tryz.call167 [] [] 2
def L1(m:au):Tree Bool:=
.br m.A4 (.an (Qfo m) (.lv (Bs m) λ(x0:Int)=>.lf (x0==0))) (.lf false)
def sQ m:=(L1 m).m
abbrev Qmn m:=(L1 m).p
def Zjb:bc:=mT 104 [] true [.agg au.sig] [] (λa r=>L1 (au.of (aC a 0))) (λX=>.bool X) (λX=>[])
theorem Qyk:bj pG Zjb:=oT (.cons Qoz (.nil)) Tryz.func104 Tryz.call104 [] [] 2
def Jk(m:au):Tree Bool:=
.lv (pS m) λ(x0:Bool)=>.br (!x0) (.lf true) (.br m.A6 (.lf true) (.an (Qmn m) (.lv (sQ m) λ(x1:Bool)=>.br x1 (.lf true) (.lf (decide (m.A1>=1152921504606846976))))))
def mN m:=(Jk m).m
abbrev VS m:=(Jk m).p
def Zii:bc:=mT 88 [] true [.agg au.sig] [] (λa r=>Jk (au.of (aC a 0))) (λX=>.bool X) (λX=>[])
theorem Qw:bj pG Zii:=oT (.cons Qt8 (.cons Qyk (.nil))) Tryz.func88 Tryz.call88 [] [] 2
end
noncomputable section
def Z9y(b:Bool):Tree Int:=
.br b (.lf 1) (.lf 0)
def Cv b:=(Z9y b).m
def Zpr:bc:=mS 269 [] true [.one (.bool)] [] (λa r=>Z9y (uY a 0)) (λX=>.int .u32 X) (λX=>[])
theorem Qsq:bj pG Zpr:=oS (.nil) Tryz.func269 Tryz.call269 [] [] 2
def OC(c:bh)(oJ bad:Int):Tree bh:=
.lv (Cv (bf u32 c.B4.a0 (1:Int) !=(0:Int))) λ(x0:Int)=>.lv (Cv (bf u32 c.B4.a0 (2:Int) !=(0:Int))) λ(x1:Int)=>.lf ({X:=c.X,Pc:=c.B4.a1,B4:={a0:=ir u32 (nS u32 (ir u32 (ir u32 (nS u32 c.B4.a0 24) (wrap u32 (8*x0))) (wrap u32 (16*x1))) 2) 1,a1:=c.B4.a1,a2:=c.Pc,a3:=wrap u32 oJ,a4:=bad,a5:=c.B4.a5,a6:=c.B4.a6,a7:=c.B4.a7}})
def pQ c oJ bad:=(OC c oJ bad).m
def Zll:bc:=mS 208 [] true [.agg bh.sig,.one (.int .i64),.one (.int .u32)] [] (λa r=>OC (bh.of (aC a 0)) (aq a 1) (aq a 2)) (λX=>.agg (bh.cells X)) (λX=>[])
theorem V2:bj pG Zll:=oS (.cons Qsq (.nil)) Tryz.func208 Tryz.call208 [] [] 2
def Jb(m:List Int)(addr size:Int):Tree Bool:=
let T1:Tree (Bool):=.cn (decide (wrap u32 size≠0)) (.br (dE addr (wrap u32 size)==0) (.lv (wI m) λ(x0:Int)=>.lf (decide (addr<wrap u32 (wrap i64 (128*x0))))) (.lf false));.br (size !=1) (.br (size !=4) (.lf false) T1) T1
def rV m addr size:=(Jb m addr size).m
abbrev Qd2 m addr size:=(Jb m addr size).p
def Zb6:bc:=mT 240 [] true [.one (.ints .u32),.one (.int .u32),.one (.int .i64)] [] (λa r=>Jb (eh .u32 a 0) (aq a 1) (aq a 2)) (λX=>.bool X) (λX=>[])
theorem Qk6:bj pG Zb6:=oT (.cons Sj (.nil)) Tryz.func240 Tryz.call240 [] [] 2
def AM(m:List Int)(addr size:Int):Tree (Int×Bool):=
.an (Qd2 m addr size) (.lv (rV m addr size) λ(x0:Bool)=>.br (!x0) (.lf (0,false)) (.cn (bT 1 1&&bJ 0 1&&decide (0<=wrap u32 (eU addr 4)/\wrap u32 (eU addr 4)<(m.length:Int))) (.br (size==1) (.cn (decide (0<=wrap u32 (8*dE addr 4))) (.lf (bf u32 (bg u32 (m.getD (dF (wrap u32 (eU addr 4))) 0) (wrap u32 (8*dE addr 4))) 255,true))) (.lf (m.getD (dF (wrap u32 (eU addr 4))) 0,true)))))
def kL m addr size:=(AM m addr size).m
abbrev V3 m addr size:=(AM m addr size).p
def Zjz:bc:=mT 168 [] true [.one (.ints .u32),.one (.int .u32),.one (.int .i64)] [] (λa r=>AM (eh .u32 a 0) (aq a 1) (aq a 2)) (λX=>.dt [.int .u32 (X.1),.bool (X.2)]) (λX=>[])
theorem Qo0:bj pG Zjz:=oT (.cons Qk6 (.nil)) Tryz.func168 Tryz.call168 [] [] 2
def Q6(w:Int):Tree (gu×Bool):=
.lv (oR (wrap i64 (bg u32 w 24))) λ(x0:Int)=>let E5:=({Op:=0,A:=0,B:=0,C:=0,bn:=0}:gu);.br (x0==0) (.lf (E5,false)) (.br (x0==2) (let E3:=({Op:=wrap i64 (bg u32 w 24),A:=wrap i64 (bf u32 (bg u32 w 20) 15),B:=wrap i64 (bf u32 (bg u32 w 16) 15),C:=wrap i64 (bf u32 w 65535),bn:=0}:gu);.lv (DX E3) λ(x1:Bool)=>.br (!x1) (.lf (E5,false)) (.lf (E3,true))) (let T1:Tree ((gu×Bool)):=let E2:=({Op:=wrap i64 (bg u32 w 24),A:=wrap i64 (bf u32 (bg u32 w 20) 15),B:=wrap i64 (bf u32 (bg u32 w 16) 15),C:=0,bn:=wrap i32 (wrap i16 (bf u32 w 65535))}:gu);.lv (DX E2) λ(x2:Bool)=>.br (!x2) (.lf (E5,false)) (.lf (E2,true));.br (x0==3) T1 (.br (x0==7) T1 (let E4:=({Op:=wrap i64 (bg u32 w 24),A:=wrap i64 (bf u32 (bg u32 w 20) 15),B:=wrap i64 (bf u32 (bg u32 w 16) 15),C:=0,bn:=wrap i32 (bf u32 w 65535)}:gu);.lv (DX E4) λ(x4:Bool)=>.br (!x4) (.lf (E5,false)) (.lf (E4,true))))))
def rm w:=(Q6 w).m
def Zdn:bc:=mS 169 [] true [.one (.int .u32)] [] (λa r=>Q6 (aq a 0)) (λX=>.dt [.agg (gu.cells (X.1)),.bool (X.2)]) (λX=>[])
theorem Qrx:bj pG Zdn:=oS (.cons R7 (.cons Qvn (.nil))) Tryz.func169 Tryz.call169 [] [] 2
def Qz4(access:Int):Tree Bool:=
.br (decide (access>=1)) (.lf (decide (access<=3))) (.lf false)
def LC access:=(Qz4 access).m
def Zfd:bc:=mS 270 [] true [.one (.int .i64)] [] (λa r=>Qz4 (aq a 0)) (λX=>.bool X) (λX=>[])
theorem Qu7:bj pG Zfd:=oS (.nil) Tryz.func270 Tryz.call270 [] [] 2
def Qye(c:bh):Tree Bool:=
.lf (bf u32 c.B4.a0 (5:Int)==(4:Int))
def TH c:=(Qye c).m
def Zf1:bc:=mS 271 [] true [.agg bh.sig] [] (λa r=>Qye (bh.of (aC a 0))) (λX=>.bool X) (λX=>[])
theorem Zc2:bj pG Zf1:=oS (.nil) Tryz.func271 Tryz.call271 [] [] 2
def LM(access:Int):Tree Int:=
.br (access==1) (.lf 4) (.br (access==3) (.lf 6) (.lf 5))
def tK access:=(LM access).m
def Z71:bc:=mS 272 [] true [.one (.int .i64)] [] (λa r=>LM (aq a 0)) (λX=>.int .i64 X) (λX=>[])
theorem Qpd:bj pG Z71:=oS (.nil) Tryz.func272 Tryz.call272 [] [] 2
def GY(m:List Int)(root va access:Int):Tree rM:=
.lv (tK access) λ(x0:Int)=>.lv (wI m) λ(x1:Int)=>.lv (LC access) λ(x2:Bool)=>let E4:=({Addr:=0,F3:=0,F0:=x0}:rM);.br (!x2) (.lf (E4)) (.br (decide (va>=4096)) (.lf (E4)) (.br (decide (root>=wrap u32 x1)) (.lf (E4)) (let E6:=wrap u32 (root*128)+wrap u32 (4*wrap u32 (eU va 128));let E3:=eU (wrap u32 E6) 4;.cn (bT 1 1&&bJ 0 1&&decide (0<=wrap u32 E3/\wrap u32 E3<(m.length:Int))) (let E5:=m.getD (dF (wrap u32 E3)) 0;.br (bf u32 E5 (1:Int)==(0:Int)) (.lf (E4)) (let T1:Tree (rM):=.br (decide (bf u32 (bg u32 E5 8) 255>=wrap u32 x1)) (.lf (E4)) (.lf ({Addr:=wrap u32 (wrap u32 (bf u32 (bg u32 E5 8) (255:Int)*(128:Int))+dE va 128),F3:=wrap u32 E6,F0:=0}));let T2:Tree (rM):=.br (access==1) (.br (bf u32 E5 (4:Int)==(0:Int)) (.lf (E4)) T1) T1;.br (access==3) (.br (bf u32 E5 (2:Int)==(0:Int)) (.lf (E4)) T2) T2)))))
def AN m root va access:=(GY m root va access).m
abbrev Que m root va access:=(GY m root va access).p
def Zj3:bc:=mT 273 [] true [.one (.ints .u32),.one (.int .u32),.one (.int .u32),.one (.int .i64)] [] (λa r=>GY (eh .u32 a 0) (aq a 1) (aq a 2) (aq a 3)) (λX=>.agg (rM.cells X)) (λX=>[])
theorem Zhr:bj pG Zj3:=oT (.cons Qpd (.cons Sj (.cons Qu7 (.nil)))) Tryz.func273 Tryz.call273 [] [] 2
def LG(m:List Int)(entry access:Int):Tree (List Int):=
.an (Qd2 m entry 4) (.lv (rV m entry 4) λ(x0:Bool)=>.br (!x0) (.lf m) (let E3:=bT 1 1&&bJ 0 1&&decide (0<=wrap u32 (eU entry 4)/\wrap u32 (eU entry 4)<(m.length:Int));.cn E3 (.cn E3 (let E4:=dF (wrap u32 (eU entry 4));let E1:=dG m E4 (ir u32 (m.getD E4 0) 8);.br (access==3) (let E2:=bT 1 1&&bJ 0 1&&decide (0<=wrap u32 (eU entry 4)/\wrap u32 (eU entry 4)<(↑(dK E1):Int));.cn E2 (.cn E2 (.lf (dG E1 E4 (ir u32 (aK E1 E4 0) 16))))) (.lf E1)))))
def TF m entry access:=(LG m entry access).m
abbrev Qu3 m entry access:=(LG m entry access).p
def Zlp:bc:=mT 274 [true,false,false] true [.one (.row 0),.one (.int .u32),.one (.int .i64)] [.arr 23 1 (.ints .u32)] (λa r=>LG (gj .u32 r 0) (aq a 1) (aq a 2)) (λX=>.dt []) (λX=>[⟨false,23,1,.ints .u32 X⟩])
theorem Zf2:bj pG Zlp:=oT (.cons Qk6 (.nil)) Tryz.func274 Tryz.call274 [] [] 2
def G0(c:bh)(m:List Int)(va size access:Int):Tree (Int×Int×(List Int)):=
.lv (LC access) λ(x0:Bool)=>.br (!x0) (.lf (0,5,m)) (let T1:Tree ((Int×Int×(List Int))):=.cn (decide (wrap u32 size≠0)) (.br (dE va (wrap u32 size) !=0) (.lf (0,3,m)) (.lv (TH c) λ(x1:Bool)=>.br (!x1) (.an (Qd2 m va size) (.lv (rV m va size) λ(x2:Bool)=>.br (!x2) (.lv (tK access) λ(x3:Int)=>.lf (0,x3,m)) (.lf (va,0,m)))) (.an (Que m c.B4.a6 va access) (.lv (AN m c.B4.a6 va access) λ(x4:rM)=>.br (x4.F0 !=0) (.lf (0,x4.F0,m)) (.an (Qu3 m x4.F3 access) (.lv (TF m x4.F3 access) λ(x5:List Int)=>.lf (x4.Addr,0,x5)))))));.br (size !=1) (.br (size !=4) (.lf (0,5,m)) T1) T1)
def lF c m va size access:=(G0 c m va size access).m
abbrev Sm c m va size access:=(G0 c m va size access).p
def Zib:bc:=mT 209 [false,true,false,false,false] true [.agg bh.sig,.one (.row 0),.one (.int .u32),.one (.int .i64),.one (.int .i64)] [.arr 23 1 (.ints .u32)] (λa r=>G0 (bh.of (aC a 0)) (gj .u32 r 0) (aq a 2) (aq a 3) (aq a 4)) (λX=>.dt [.int .u32 (X.1),.int .i64 (X.2.1)]) (λX=>[⟨false,23,1,.ints .u32 (X.2.2)⟩])
theorem Qtg:bj pG Zib:=oT (.cons Qu7 (.cons Zc2 (.cons Qk6 (.cons Qpd (.cons Zhr (.cons Zf2 (.nil))))))) Tryz.func209 Tryz.call209 [] [] 2
def Qla(op:Int):Tree Bool:=
.br (decide (op>=57)) (.lf (decide (op<=64))) (.lf false)
def GR op:=(Qla op).m
def Qxq:bc:=mS 210 [] true [.one (.int .i64)] [] (λa r=>Qla (aq a 0)) (λX=>.bool X) (λX=>[])
theorem Qtn:bj pG Qxq:=oS (.nil) Tryz.func210 Tryz.call210 [] [] 2
def OE(c:bh):Tree bh:=
.lv (Cv (bf u32 c.B4.a0 (8:Int) !=(0:Int))) λ(x0:Int)=>.lv (Cv (bf u32 c.B4.a0 (16:Int) !=(0:Int))) λ(x1:Int)=>.lf ({X:=c.X,Pc:=c.B4.a2,B4:={a0:=ir u32 (ir u32 (nS u32 c.B4.a0 3) (wrap u32 (1*x0))) (wrap u32 (2*x1)),a1:=c.B4.a1,a2:=c.B4.a2,a3:=c.B4.a3,a4:=c.B4.a4,a5:=c.B4.a5,a6:=c.B4.a6,a7:=c.B4.a7}})
def TG c:=(OE c).m
def Zcf:bc:=mS 275 [] true [.agg bh.sig] [] (λa r=>OE (bh.of (aC a 0))) (λX=>.agg (bh.cells X)) (λX=>[])
theorem Z5u:bj pG Zcf:=oS (.cons Qsq (.nil)) Tryz.func275 Tryz.call275 [] [] 2
def Jd(c:bh)(r v:Int):Tree bh:=
.br (decide (r>0)) (.br (decide (r<16)) (.cn (bJ 0 1&&decide (0<=r/\r<(↑16:Int))) (.lf ({X:=iU.of 0 (dG (iU.l c.X) r.toNat v),Pc:=c.Pc,B4:=c.B4}))) (.lf c)) (.lf c)
def lD c r v:=(Jd c r v).m
abbrev BH c r v:=(Jd c r v).p
def Zo9:bc:=mT 145 [] true [.agg bh.sig,.one (.int .i64),.one (.int .u32)] [] (λa r=>Jd (bh.of (aC a 0)) (aq a 1) (aq a 2)) (λX=>.agg (bh.cells X)) (λX=>[])
theorem M0:bj pG Zo9:=oT (.nil) Tryz.func145 Tryz.call145 [] [] 2
def LN(c:bh)(jo v:Int):Tree bh:=
let E4:=bJ 0 1&&decide (0<=jo/\jo<(↑8:Int));let T2:Tree (bh):=.cn E4 (.lf ({X:=c.X,Pc:=c.Pc,B4:=A8.of 0 (dG (A8.l c.B4) jo.toNat (bf u32 v 31))}));.br (jo==0) T2 (.br (jo==7) T2 (.br (jo==6) (.cn E4 (.lf ({X:=c.X,Pc:=c.Pc,B4:=A8.of 0 (dG (A8.l c.B4) jo.toNat (bf u32 v 255))}))) (let T3:Tree (bh):=.cn E4 (.lf ({X:=c.X,Pc:=c.Pc,B4:=A8.of 0 (dG (A8.l c.B4) jo.toNat (nS u32 v 3))}));.br (jo==1) T3 (.br (jo==2) T3 (let T1:Tree (bh):=.cn E4 (.lf ({X:=c.X,Pc:=c.Pc,B4:=A8.of 0 (dG (A8.l c.B4) jo.toNat v)}));.br (jo==3) T1 (.br (jo==4) T1 (.br (jo==5) T1 (.lf c))))))))
def OI c jo v:=(LN c jo v).m
abbrev Qrl c jo v:=(LN c jo v).p
def Zin:bc:=mT 276 [] true [.agg bh.sig,.one (.int .i64),.one (.int .u32)] [] (λa r=>LN (bh.of (aC a 0)) (aq a 1) (aq a 2)) (λX=>.agg (bh.cells X)) (λX=>[])
theorem Zav:bj pG Zin:=oT (.nil) Tryz.func276 Tryz.call276 [] [] 2
def Jr(c:bh)(i:gu):Tree (bh×kJ):=
.br (i.Op==56) (.lv (pQ c 7 0) λ(x0:bh)=>.lf (x0,{B9:=0,D0:=0,D9:=0,Value:=0})) (.br (i.Op==57) (.lv (TG c) λ(x1:bh)=>.lf (x1,{B9:=0,D0:=0,D9:=0,Value:=0})) (.br (i.Op==58) (.cn (bJ 0 1&&decide (0<=i.bn/\i.bn<(↑8:Int))) (let E3:=aK (A8.l c.B4) i.bn.toNat 0;.an (BH c i.A E3) (.lv (lD c i.A E3) λ(x2:bh)=>.lf ({X:=x2.X,Pc:=wrap u32 (x2.Pc+4),B4:=x2.B4},{B9:=0,D0:=0,D9:=0,Value:=0})))) (let E2:=bJ 0 1&&decide (0<=i.A/\i.A<(↑16:Int));.br (i.Op==59) (.cn E2 (let E4:=aK (iU.l c.X) i.A.toNat 0;.an (Qrl c (wrap i64 i.bn) E4) (.lv (OI c (wrap i64 i.bn) E4) λ(x3:bh)=>.lf ({X:=x3.X,Pc:=wrap u32 (x3.Pc+4),B4:=x3.B4},{B9:=0,D0:=0,D9:=0,Value:=0})))) (let E1:=({X:=c.X,Pc:=wrap u32 (c.Pc+4),B4:=c.B4}:bh);.br (i.Op==60) (.lf (E1,{B9:=1,D0:=wrap i64 i.bn,D9:=i.A,Value:=0})) (.br (i.Op==61) (.cn E2 (.lf (E1,{B9:=2,D0:=wrap i64 i.bn,D9:=0,Value:=aK (iU.l c.X) i.A.toNat 0}))) (.br (i.Op==62) (.lf (E1,{B9:=3,D0:=0,D9:=0,Value:=0})) (.br (i.Op==63) (.lf (E1,{B9:=5,D0:=0,D9:=0,Value:=0})) (.br (i.Op==64) (.lf (E1,{B9:=4,D0:=0,D9:=0,Value:=0})) (.lf (E1,{B9:=0,D0:=0,D9:=0,Value:=0}))))))))))
def TL c i:=(Jr c i).m
abbrev Qpu c i:=(Jr c i).p
def Zdm:bc:=mT 211 [] true [.agg bh.sig,.agg gu.sig] [] (λa r=>Jr (bh.of (aC a 0)) (gu.of (aC a 1))) (λX=>.dt [.agg (bh.cells (X.1)),.agg (kJ.cells (X.2))]) (λX=>[])
theorem Z60:bj pG Zdm:=oT (.cons V2 (.cons Z5u (.cons M0 (.cons Zav (.nil))))) Tryz.func211 Tryz.call211 [] [] 2
def Qyp(op a b:Int):Tree Bool:=
.br (op==40) (.lf (a==b)) (.br (op==41) (.lf (a !=b)) (.br (op==42) (.lf (decide (wrap i32 a<wrap i32 b))) (.br (op==43) (.lf (decide (wrap i32 a>=wrap i32 b))) (.br (op==44) (.lf (decide (a<b))) (.lf (decide (a>=b)))))))
def rp op a b:=(Qyp op a b).m
def Zht:bc:=mS 277 [] true [.one (.int .i64),.one (.int .u32),.one (.int .u32)] [] (λa r=>Qyp (aq a 0) (aq a 1) (aq a 2)) (λX=>.bool X) (λX=>[])
theorem Zd2:bj pG Zht:=oS (.nil) Tryz.func277 Tryz.call277 [] [] 2
def RA(c:bh)(i:gu):Tree bh:=
.br (i.Op==48) (.an (BH c i.A (wrap u32 (c.Pc+4))) (.lv (lD c i.A (wrap u32 (c.Pc+4))) λ(x0:bh)=>.lf ({X:=x0.X,Pc:=wrap u32 (c.Pc+wrap u32 (4*wrap u32 i.bn)),B4:=x0.B4}))) (let E1:=bJ 0 1&&decide (0<=i.B/\i.B<(↑16:Int));.br (i.Op==49) (.cn E1 (.an (BH c i.A (wrap u32 (c.Pc+4))) (.lv (lD c i.A (wrap u32 (c.Pc+4))) λ(x1:bh)=>.lf ({X:=x1.X,Pc:=wrap u32 (aK (iU.l c.X) i.B.toNat 0+wrap u32 i.bn),B4:=x1.B4})))) (.cn (bJ 0 1&&decide (0<=i.A/\i.A<(↑16:Int))) (.cn E1 (.lv (rp i.Op (aK (iU.l c.X) i.A.toNat 0) (aK (iU.l c.X) i.B.toNat 0)) λ(x2:Bool)=>.br x2 (.lf ({X:=c.X,Pc:=wrap u32 (c.Pc+wrap u32 (4*wrap u32 i.bn)),B4:=c.B4})) (.lf ({X:=c.X,Pc:=wrap u32 (c.Pc+4),B4:=c.B4}))))))
def Z23 c i:=(RA c i).m
abbrev Qul c i:=(RA c i).p
def Zk4:bc:=mT 212 [] true [.agg bh.sig,.agg gu.sig] [] (λa r=>RA (bh.of (aC a 0)) (gu.of (aC a 1))) (λX=>.agg (bh.cells X)) (λX=>[])
theorem Zhu:bj pG Zk4:=oT (.cons M0 (.cons Zd2 (.nil))) Tryz.func212 Tryz.call212 [] [] 2
def Rz(x n:Int):Tree Int:=
.br (decide (n<1)) (.lf 0) (.br (decide (n>=32)) (.lf x) (.cn (decide (0<=wrap u64 n)) (.cn (decide (0<=wrap u64 (wrap i64 (n-1)))) (let E1:=bf u32 x (wrap u32 (eg u32 1 (wrap u64 n)-1));.br (bg u32 E1 (wrap u64 (wrap i64 (n-1)))==1) (.cn (decide (0<=wrap u64 n)) (.lf (ir u32 E1 (eg u32 4294967295 (wrap u64 n))))) (.lf E1)))))
def GS x n:=(Rz x n).m
abbrev Qbg x n:=(Rz x n).p
def Qxr:bc:=mT 279 [] true [.one (.int .u32),.one (.int .i64)] [] (λa r=>Rz (aq a 0) (aq a 1)) (λX=>.int .u32 X) (λX=>[])
theorem Qtm:bj pG Qxr:=oT (.nil) Tryz.func279 Tryz.call279 [] [] 2
def RB(c:bh)(m:List Int)(i:gu):Tree (bh×(List Int)):=
.cn (bJ 0 1&&decide (0<=i.B/\i.B<(↑16:Int))) (let E4:=wrap u32 (aK (iU.l c.X) i.B.toNat 0+wrap u32 i.bn);let E5:=aK (iU.l c.X) i.A.toNat 0;let E6:=bJ 0 1&&decide (0<=i.A/\i.A<(↑16:Int));let E7:=({X:=c.X,Pc:=wrap u32 (c.Pc+4),B4:=c.B4}:bh);let T1:Tree ((bh×(List Int))):=let T3:Tree ((bh×(List Int))):=.an (Sm c m E4 4 3) (.lv (lF c m E4 4 3) λ(x0:Int×Int×List Int)=>.br (x0.2.1 !=0) (.lv (pQ c x0.2.1 E4) λ(x1:bh)=>.lf (x1,x0.2.2)) (.cn E6 (.an (Ty x0.2.2 x0.1 4 E5) (.lv (Bq x0.2.2 x0.1 4 E5) λ(x2:List Int)=>.lf (E7,x2)))));.br (i.Op==35) T3 (.br (i.Op==36) T3 (.an (Sm c m E4 4 2) (.lv (lF c m E4 4 2) λ(x6:Int×Int×List Int)=>.br (x6.2.1 !=0) (.lv (pQ c x6.2.1 E4) λ(x7:bh)=>.lf (x7,x6.2.2)) (.an (V3 x6.2.2 x6.1 4) (.lv (kL x6.2.2 x6.1 4) λ(x8:Int×Bool)=>.br (i.Op==33) (.an (Qbg x8.1 8) (.lv (GS x8.1 8) λ(x9:Int)=>.an (BH c i.A x9) (.lv (lD c i.A x9) λ(kI:bh)=>.lf ({X:=kI.X,Pc:=wrap u32 (kI.Pc+4),B4:=kI.B4},x6.2.2)))) (.an (BH c i.A x8.1) (.lv (lD c i.A x8.1) λ(mz:bh)=>.lf ({X:=mz.X,Pc:=wrap u32 (mz.Pc+4),B4:=mz.B4},x6.2.2))))))));.br (i.Op==32) T1 (.br (i.Op==35) T1 (let T2:Tree ((bh×(List Int))):=.an (Sm c m E4 1 3) (.lv (lF c m E4 1 3) λ(EA:Int×Int×List Int)=>.br (EA.2.1 !=0) (.lv (pQ c EA.2.1 E4) λ(x25:bh)=>.lf (x25,EA.2.2)) (.cn E6 (.an (Ty EA.2.2 EA.1 1 E5) (.lv (Bq EA.2.2 EA.1 1 E5) λ(x26:List Int)=>.lf (E7,x26)))));.br (i.Op==35) T2 (.br (i.Op==36) T2 (.an (Sm c m E4 1 2) (.lv (lF c m E4 1 2) λ(Ga:Int×Int×List Int)=>.br (Ga.2.1 !=0) (.lv (pQ c Ga.2.1 E4) λ(x31:bh)=>.lf (x31,Ga.2.2)) (.an (V3 Ga.2.2 Ga.1 1) (.lv (kL Ga.2.2 Ga.1 1) λ(V4:Int×Bool)=>.br (i.Op==33) (.an (Qbg V4.1 8) (.lv (GS V4.1 8) λ(x33:Int)=>.an (BH c i.A x33) (.lv (lD c i.A x33) λ(x34:bh)=>.lf ({X:=x34.X,Pc:=wrap u32 (x34.Pc+4),B4:=x34.B4},Ga.2.2)))) (.an (BH c i.A V4.1) (.lv (lD c i.A V4.1) λ(x35:bh)=>.lf ({X:=x35.X,Pc:=wrap u32 (x35.Pc+4),B4:=x35.B4},Ga.2.2)))))))))))
def G1 c m i:=(RB c m i).m
abbrev Ql9 c m i:=(RB c m i).p
def Z4h:bc:=mT 213 [false,true,false] true [.agg bh.sig,.one (.row 0),.agg gu.sig] [.arr 23 1 (.ints .u32)] (λa r=>RB (bh.of (aC a 0)) (gj .u32 r 0) (gu.of (aC a 2))) (λX=>.agg (bh.cells (X.1))) (λX=>[⟨false,23,1,.ints .u32 (X.2)⟩])
theorem Z0e:bj pG Z4h:=oT (.cons Qtg (.cons V2 (.cons Z4v (.cons Qo0 (.cons Qtm (.cons M0 (.nil))))))) Tryz.func213 Tryz.call213 [] [] 2
def Qyo(op:Int):Tree Int:=
.br (op==16) (.lf 1) (.br (op==17) (.lf 3) (.br (op==18) (.lf 4) (.br (op==19) (.lf 5) (.br (op==20) (.lf 6) (.br (op==21) (.lf 7) (.br (op==22) (.lf 8) (.br (op==23) (.lf 12) (.lf op))))))))
def Z8t op:=(Qyo op).m
def Zh4:bc:=mS 280 [] true [.one (.int .i64)] [] (λa r=>Qyo (aq a 0)) (λX=>.int .i64 X) (λX=>[])
theorem Zcz:bj pG Zh4:=oS (.nil) Tryz.func280 Tryz.call280 [] [] 2
def Qa(a b:Int):Tree (Int×Int):=
.br (b==0) (.lf (4294967295,a)) (.cn (decide (wrap i64 (wrap i32 b)≠0)) (.cn (decide (wrap i64 (wrap i32 b)≠0)) (.lf (wrap u32 (wrap i64 (eU (wrap i64 (wrap i32 a)) (wrap i64 (wrap i32 b)))),wrap u32 (dE (wrap i64 (wrap i32 a)) (wrap i64 (wrap i32 b)))))))
def LI a b:=(Qa a b).m
abbrev Qh2 a b:=(Qa a b).p
def Zby:bc:=mT 281 [] true [.one (.int .u32),.one (.int .u32)] [] (λa r=>Qa (aq a 0) (aq a 1)) (λX=>.dt [.int .u32 (X.1),.int .u32 (X.2)]) (λX=>[])
theorem Z7f:bj pG Zby:=oT (.nil) Tryz.func281 Tryz.call281 [] [] 2
def Ry(op a b:Int):Tree (Int×Bool):=
.lv (Z8t op) λ(x0:Int)=>.br (x0==1) (.lf (wrap u32 (a+b),true)) (.br (x0==2) (.lf (wrap u32 (a-b),true)) (.br (x0==3) (.lf (bf u32 a b,true)) (.br (x0==4) (.lf (ir u32 a b,true)) (.br (x0==5) (.lf (nj u32 a b,true)) (.br (x0==6) (.lf (eg u32 a (bf u32 b 31),true)) (.br (x0==7) (.lf (bg u32 a (bf u32 b 31),true)) (.br (x0==8) (.lf (wrap u32 (bg i32 (wrap i32 a) (bf u32 b 31)),true)) (.br (x0==9) (.lf (wrap u32 (a*b),true)) (.br (x0==10) (.an (Qh2 a b) (.lv (LI a b) λ(x1:Int×Int)=>.lf (x1.1,true))) (.br (x0==11) (.an (Qh2 a b) (.lv (LI a b) λ(x2:Int×Int)=>.lf (x2.2,true))) (.br (x0==12) (.lv (Cv (decide (wrap i32 a<wrap i32 b))) λ(x3:Int)=>.lf (x3,true)) (.br (x0==13) (.lv (Cv (decide (a<b))) λ(x4:Int)=>.lf (x4,true)) (.lf (0,false))))))))))))))
def Ed op a b:=(Ry op a b).m
abbrev Qny op a b:=(Ry op a b).p
def Zoq:bc:=mT 214 [] true [.one (.int .i64),.one (.int .u32),.one (.int .u32)] [] (λa r=>Ry (aq a 0) (aq a 1) (aq a 2)) (λX=>.dt [.int .u32 (X.1),.bool (X.2)]) (λX=>[])
theorem Zla:bj pG Zoq:=oT (.cons Zcz (.cons Z7f (.cons Qsq (.nil)))) Tryz.func214 Tryz.call214 [] [] 2
def RC(c:bh)(m:List Int):Tree (bh×kJ×(List Int)):=
.an (Sm c m c.Pc 4 1) (.lv (lF c m c.Pc 4 1) λ(x0:Int×Int×List Int)=>.br (x0.2.1 !=0) (.lv (pQ c x0.2.1 c.Pc) λ(x1:bh)=>.lf (x1,{B9:=0,D0:=0,D9:=0,Value:=0},x0.2.2)) (.an (V3 x0.2.2 x0.1 4) (.lv (kL x0.2.2 x0.1 4) λ(x2:Int×Bool)=>.lv (rm x2.1) λ(x3:gu×Bool)=>.br (!x3.2) (.lv (pQ c 1 x2.1) λ(x4:bh)=>.lf (x4,{B9:=0,D0:=0,D9:=0,Value:=0},x0.2.2)) (.lv (GR x3.1.Op) λ(x5:Bool)=>let T1:Tree ((bh×kJ×(List Int))):=.br (decide (x3.1.Op>=56)) (.an (Qpu c x3.1) (.lv (TL c x3.1) λ(x7:bh×kJ)=>.lf (x7.1,x7.2,x0.2.2))) (.br (decide (x3.1.Op>=40)) (.an (Qul c x3.1) (.lv (Z23 c x3.1) λ(x8:bh)=>.lf (x8,{B9:=0,D0:=0,D9:=0,Value:=0},x0.2.2))) (.br (decide (x3.1.Op>=32)) (.an (Ql9 c x0.2.2 x3.1) (.lv (G1 c x0.2.2 x3.1) λ(x9:bh×List Int)=>.lf (x9.1,{B9:=0,D0:=0,D9:=0,Value:=0},x9.2))) (.br (x3.1.Op==24) (.an (BH c x3.1.A (eg u32 (wrap u32 x3.1.bn) 16)) (.lv (lD c x3.1.A (eg u32 (wrap u32 x3.1.bn) 16)) λ(kI:bh)=>.lf ({X:=kI.X,Pc:=wrap u32 (kI.Pc+4),B4:=kI.B4},{B9:=0,D0:=0,D9:=0,Value:=0},x0.2.2))) (let E2:=aK (iU.l c.X) x3.1.B.toNat 0;let E3:=bJ 0 1&&decide (0<=x3.1.B/\x3.1.B<(↑16:Int));.br (decide (x3.1.Op<=13)) (.cn (bJ 0 1&&decide (0<=x3.1.C/\x3.1.C<(↑16:Int))) (.cn E3 (let E4:=aK (iU.l c.X) x3.1.C.toNat 0;.an (Qny x3.1.Op E2 E4) (.lv (Ed x3.1.Op E2 E4) λ(mz:Int×Bool)=>.an (BH c x3.1.A mz.1) (.lv (lD c x3.1.A mz.1) λ(lH:bh)=>.lf ({X:=lH.X,Pc:=wrap u32 (lH.Pc+4),B4:=lH.B4},{B9:=0,D0:=0,D9:=0,Value:=0},x0.2.2)))))) (.cn E3 (.an (Qny x3.1.Op E2 (wrap u32 x3.1.bn)) (.lv (Ed x3.1.Op E2 (wrap u32 x3.1.bn)) λ(lW:Int×Bool)=>.an (BH c x3.1.A lW.1) (.lv (lD c x3.1.A lW.1) λ(uE:bh)=>.lf ({X:=uE.X,Pc:=wrap u32 (uE.Pc+4),B4:=uE.B4},{B9:=0,D0:=0,D9:=0,Value:=0},x0.2.2)))))))));.br x5 (.br (bf u32 c.B4.a0 (1:Int)==(0:Int)) (.lv (pQ c 2 x2.1) λ(x6:bh)=>.lf (x6,{B9:=0,D0:=0,D9:=0,Value:=0},x0.2.2)) T1) T1))))
def pR c m:=(RC c m).m
abbrev Qsg c m:=(RC c m).p
def xE:bc:=mT 143 [false,true] true [.agg bh.sig,.one (.row 0)] [.arr 23 1 (.ints .u32)] (λa r=>RC (bh.of (aC a 0)) (gj .u32 r 0)) (λX=>.dt [.agg (bh.cells (X.1)),.agg (kJ.cells (X.2.1))]) (λX=>[⟨false,23,1,.ints .u32 (X.2.2)⟩])
theorem Z85:bj pG xE:=oT (.cons Qtg (.cons V2 (.cons Qo0 (.cons Qrx (.cons Qtn (.cons Z60 (.cons Zhu (.cons Z0e (.cons M0 (.cons Zla (.nil))))))))))) Tryz.func143 Tryz.call143 [] [] 2
end
noncomputable section
def Ta(steps:Int):Tree Int:=
.lf (if 4000<if 0>steps then 0 else steps then 4000 else if 0>steps then 0 else steps)
def pP steps:=(Ta steps).m
def Z5b:bc:=mS 265 [] true [.one (.int .i64)] [] (λa r=>Ta (aq a 0)) (λX=>.int .i64 X) (λX=>[])
theorem Z07:bj pG Z5b:=oS (.nil) Tryz.func265 Tryz.call265 [] [] 2
def Za8(t:iW)(now:Int):Tree Bool:=
.br t.D3 (.lf (decide (now>=t.C4))) (.lf false)
def Jn t now:=(Za8 t now).m
def Zp0:bc:=mS 266 [] true [.agg iW.sig,.one (.int .u32)] [] (λa r=>Za8 (iW.of (aC a 0)) (aq a 1)) (λX=>.bool X) (λX=>[])
theorem Zkf:bj pG Zp0:=oS (.nil) Tryz.func266 Tryz.call266 [] [] 2
def Qd7(m:au)(z:(Int)):Nat:=(32-z).toNat
def L2(m:au):Tree bh:=
.an (Qfo m) (.lv (Bs m) λ(x0:Int)=>.br (bf u32 m.B1.B4.a0 (2:Int)==(0:Int)) (.lf m.B1) (.br (x0==0) (.lf m.B1) (.lp inferInstance (Qd7 m 0+1) ((rZ/\rZ/\rE (x0:Int)/\rE (0:Int)/\True)/\(mE m (((ao.Nil (ao.ints u32 m.Mem)\/rE (1:Nat))/\rE m.Mem)) True)/\(rE (0:Int)/\rE (0:Int)/\rE (0:Int)/\rE (0:Int)/\rE (0:Int)/\rE (0:Int)/\rE (0:Int)/\rE (0:Int)/\rE (0:Int)/\rE (0:Int)/\rE (0:Int)/\rE (0:Int)/\rE (0:Int)/\rE (0:Int)/\rE (0:Int)/\rE (0:Int)/\rE (0:Int)/\rE (0:Int)/\rE (0:Int)/\rE (0:Int)/\rE (0:Int)/\rE (0:Int)/\rE (0:Int)/\rE (0:Int)/\rE (0:Int)/\True)/\True) 0 λ(v0:Int)=>.cn (decide (0<=wrap u64 v0)) (.br (bf u32 (bg u32 x0 (wrap u64 v0)) (1:Int)==(0:Int)) (.nx ((rZ/\rZ/\rE (x0:Int)/\rE ((wrap i64 (v0+1)):Int)/\True)/\(mE m (((ao.Nil (ao.ints u32 m.Mem)\/rE (1:Nat))/\rE m.Mem)) True)/\(rE (0:Int)/\rE (0:Int)/\rE (0:Int)/\rE (0:Int)/\rE (0:Int)/\rE (0:Int)/\rE (0:Int)/\rE (0:Int)/\rE (0:Int)/\rE (0:Int)/\rE (0:Int)/\rE (0:Int)/\rE (0:Int)/\rE (0:Int)/\rE (0:Int)/\rE (0:Int)/\rE (0:Int)/\rE (0:Int)/\rE (0:Int)/\rE (0:Int)/\rE (0:Int)/\rE (0:Int)/\rE (0:Int)/\rE (0:Int)/\rE (0:Int)/\True)/\True) (Sum.inl (wrap i64 (v0+1)))) (.lv (pQ m.B1 (wrap i64 (16+v0)) 0) λ(x1:bh)=>.lf (Sum.inr x1))))))
def lV m:=(L2 m).m
abbrev Q6k m:=(L2 m).p
def Qsb:bu:={
 α:=(Int)
 F:=λst a=>([(1,.ptr 0 0 0),(2,.ptr 1 0 0),(3,(lk st 3)),(4,.int i64 a)],[⟨true,42,49,.gen [mB (cT st 1)]⟩,⟨true,28,25,.gen [[(cT st 2 0),(cT st 2 1),(cT st 2 2),(cT st 2 3),(cT st 2 4),(cT st 2 5),(cT st 2 6),(cT st 2 7),(cT st 2 8),(cT st 2 9),(cT st 2 10),(cT st 2 11),(cT st 2 12),(cT st 2 13),(cT st 2 14),(cT st 2 15),(cT st 2 16),(cT st 2 17),(cT st 2 18),(cT st 2 19),(cT st 2 20),(cT st 2 21),(cT st 2 22),(cT st 2 23),(cT st 2 24)]]⟩])
 a0:=λst=>(lk st 4).toInt
 jn:=λst=>[]++[(rX st 1 0),(rX st 2 1)]}
def Qoy:List (Nat×bu):=[(5,Qsb)]
def Qte:bc:=mT 142 [] true [.agg au.sig] [] (λa r=>L2 (au.of (aC a 0))) (λX=>.agg (bh.cells X)) (λX=>[])
theorem Qb5:bj pG Qte:=oT (.cons Qoz (.cons V2 (.nil))) Tryz.func142 Tryz.call142 [] Qoy 3
def RH(m:au):Tree Bool:=
.an (Q6k m) (.lv (lV m) λ(x0:bh)=>.br (bf u32 x0.B4.a0 (1:Int)==(0:Int)) (.lf false) (.an (V3 m.Mem x0.Pc 4) (.lv (kL m.Mem x0.Pc 4) λ(x1:Int×Bool)=>.lv (rm x1.1) λ(x2:gu×Bool)=>.br x1.2 (.br x2.2 (.br (x2.1.Op==60) (.lf (x2.1.bn==2)) (.lf false)) (.lf false)) (.lf false))))
def oV m:=(RH m).m
abbrev Qju m:=(RH m).p
def Zgm:bc:=mT 105 [] true [.agg au.sig] [] (λa r=>RH (au.of (aC a 0))) (λX=>.bool X) (λX=>[])
theorem Qv5:bj pG Zgm:=oT (.cons Qb5 (.cons Qo0 (.cons Qrx (.nil)))) Tryz.func105 Tryz.call105 [] [] 2
def RI(m:au):Tree Bool:=
.an (VS m) (.lv (mN m) λ(x0:Bool)=>.br x0 (.lf false) (.an (Qju m) (.lv (oV m) λ(x1:Bool)=>.lf x1)))
def Hc m:=(RI m).m
abbrev Qbf m:=(RI m).p
def Qy0:bc:=mT 267 [] true [.agg au.sig] [] (λa r=>RI (au.of (aC a 0))) (λX=>.bool X) (λX=>[])
theorem Quo:bj pG Qy0:=oT (.cons Qw (.cons Qv5 (.nil))) Tryz.func267 Tryz.call267 [] [] 2
def G4(c:iV)(port:Int):Tree (iV×Int):=
let T1:Tree ((iV×Int)):=.br (port==0) (.cn (decide ((0:Int)<=(1:Int)/\1<=(c.D1.length:Int)/\(c.D1.length:Int)<=(c.D1.length:Int))) (.cn (decide ((0:Int)<=(0:Int)/\0<(c.D1.length:Int))) (.lf ({D1:=dB (dF (c.D1.length:Int)-dF 1) (dC (dF 1) c.D1)},wrap u32 (↑(eW (c.D1.getD (dF 0) (0:UInt8))):Int))))) (.br (port==1) (.lf (c,wrap u32 (c.D1.length:Int))) (.lf (c,0)));.br (port==0) (.br ((c.D1.length:Int)==(0:Int)) (.lf (c,4294967295)) T1) T1
def Jf c port:=(G4 c port).m
theorem Qtf(c:iV)(port:Int):(G4 c port).p:=by
 unfold Tree.p G4
 repeat'(first|exact trivial|refine aa (λ_=>?_) (λ_=>?_)|refine ba ?_ ?_|refine cz ?_ ?_|refine ar (λ_ _=>?_)|refine fh ?_|refine ez ?_|refine And.intro ?_ ?_)
 all_goals(exact oI)
def Qzr:bc:=mS 215 [] true [.agg iV.sig,.one (.int .i64)] [] (λa r=>G4 (iV.of (aC a 0)) (aq a 1)) (λX=>.dt [.agg (iV.cells (X.1)),.int .u32 (X.2)]) (λX=>[])
theorem Qkk:bj pG Qzr:=oS (.nil) Tryz.func215 Tryz.call215 [] [] 2 (λ_ _ _=>by kernel_rfl) (λa r=>Qtf (iV.of (aC a 0)) (aq a 1)) (λ_ X=>by kernel_rfl)
def Vu(t:iW):Tree Int:=
.br t.D2 (.lf 1) (.lf 0)
def Ua t:=(Vu t).m
def Z67:bc:=mS 216 [] true [.agg iW.sig] [] (λa r=>Vu (iW.of (aC a 0))) (λX=>.int .u32 X) (λX=>[])
theorem Qpi:bj pG Z67:=oS (.nil) Tryz.func216 Tryz.call216 [] [] 2
def Vt(d0:fp)(port:Int):Tree Int:=
.br (port==4) (.lf d0.C1) (.br (port==5) (.lf d0.Frame) (.br (port==6) (.lf (wrap u32 d0.B7)) (.lf 0)))
def T9 d0 port:=(Vt d0 port).m
def Zbq:bc:=mS 217 [] true [.agg fp.sig,.one (.int .i64)] [] (λa r=>Vt (fp.of (aC a 0)) (aq a 1)) (λX=>.int .u32 X) (λX=>[])
theorem Qrh:bj pG Zbq:=oS (.nil) Tryz.func217 Tryz.call217 [] [] 2
def ON(n:ia)(port:Int):Tree Int:=
.br (port==7) (.lf n.Frame) (.br (port==8) (.lf n.F1) (.br (port==9) (.br n.C5 (.br n.B5 (.lf (wrap u32 ((1:Int)+(2:Int)))) (.lf 1)) (.br n.B5 (.lf (wrap u32 ((0:Int)+(2:Int)))) (.lf 0))) (.lf 0)))
def OM n port:=(ON n port).m
def Zh5:bc:=mS 218 [] true [.agg ia.sig,.one (.int .i64)] [] (λa r=>ON (ia.of (aC a 0)) (aq a 1)) (λX=>.int .u32 X) (λX=>[])
theorem Qua:bj pG Zh5:=oS (.nil) Tryz.func218 Tryz.call218 [] [] 2
def LV(b:gv)(port:Int):Tree Int:=
.br (port==10) (.lf b.C7) (.br (port==11) (.lv (LP b) λ(x0:Int)=>.lf (wrap u32 x0)) (.lf 0))
def Jh b port:=(LV b port).m
def Z0c:bc:=mS 219 [] true [.agg gv.sig,.one (.int .i64)] [] (λa r=>LV (gv.of (aC a 0)) (aq a 1)) (λX=>.int .u32 X) (λX=>[])
theorem Qkg:bj pG Z0c:=oS (.cons Quk (.nil)) Tryz.func219 Tryz.call219 [] [] 2
def Gy(m:au)(port clock:Int):Tree (Int×au):=
.br (decide (port<=1)) (.lv (Jf m.A3 port) λ(x0:iV×Int)=>.lf (x0.2,{B1:=m.B1,Mem:=m.Mem,A3:=x0.1,A9:=m.A9,A7:=m.A7,C3:=m.C3,A2:=m.A2,A1:=m.A1,A4:=m.A4,A6:=m.A6})) (.br (port==2) (.lf (clock,m)) (.br (port==3) (.lv (Ua m.A9) λ(x1:Int)=>.lf (x1,m)) (.br (decide (port<=6)) (.lv (T9 m.A7 port) λ(x2:Int)=>.lf (x2,m)) (.br (decide (port<=9)) (.lv (OM m.C3 port) λ(x3:Int)=>.lf (x3,m)) (.lv (Jh m.A2 port) λ(x4:Int)=>.lf (x4,m))))))
def wN m port clock:=(Gy m port clock).m
def zE:bc:=mS 144 [true,false,false] true [.ptr 0,.one (.int .i64),.one (.int .u32)] [.box 42 49 (au.kO (.row 1)),.arr 23 1 (.ints .u32)] (λa r=>Gy (au.pZ (r.getD 0 default).cs (gj .u32 r 1)) (aq a 1) (aq a 2)) (λX=>.int .u32 (X.1)) (λX=>[⟨true,42,49,.gen [(au.fe (X.2) (.all 1))]⟩,⟨false,23,1,.ints .u32 (X.2).Mem⟩])
theorem Zow:bj pG zE:=oS (.cons Qkk (.cons Qpi (.cons Qrh (.cons Qua (.cons Qkg (.nil)))))) Tryz.func144 Tryz.call144 [.row 23 1 (.ints .u32)] [] 2
def OP(deadline:Int):Tree iW:=
.br (deadline==0) (.lf ({D3:=false,C4:=0,D2:=false})) (.lf ({D3:=true,C4:=deadline,D2:=false}))
def OO deadline:=(OP deadline).m
def Zpa:bc:=mS 220 [] true [.one (.int .u32)] [] (λa r=>OP (aq a 0)) (λX=>.agg (iW.cells X)) (λX=>[])
theorem Z3m:bj pG Zpa:=oS (.nil) Tryz.func220 Tryz.call220 [] [] 2
def Qut(x n:Int)(z:(Int)×(List Int)):Prop:=0<=z.1/\(z.2.length:Int)=z.1/\(z.1<=n\/z.1=0)
def Vs(x n:Int)(z:(Int)×(List Int)):Nat:=(n-z.1).toNat
def MO(x n:Int):Tree (List UInt8):=
.lp inferInstance (Vs x n (0,[])+1) ((rE (x:Int)/\rE (n:Int)/\True/\rE (0:Int)/\True)/\rE ([]:List Int)/\True) (0,[]) λ(v0:Int×List Int)=>.br (decide (v0.1<n)) (.cn (decide (0<=wrap u64 (wrap i64 (8*v0.1)))) (.cn (decide (1*(v0.2.length+1)<=140737488355328)) (.nx ((rE (x:Int)/\rE (n:Int)/\True/\rE ((wrap i64 (v0.1+1)):Int)/\True)/\rE ((v0.2++[wrap u8 (bg u32 x (wrap u64 (wrap i64 (8*v0.1))))]):List Int)/\True) (Sum.inl (wrap i64 (v0.1+1),v0.2++[wrap u8 (bg u32 x (wrap u64 (wrap i64 (8*v0.1))))]))))) (.lf (Sum.inr (bytesOf v0.2)))
def XE x n:=(MO x n).m
def V5(x n:Int):Prop:=
n<=1000000000000
theorem Zf(x n:Int)(hw:V5 x n):(MO x n).p:=by
 simp only[V5]at hw
 unfold Tree.p MO
 repeat'(first|refine ga (inv:=Qut x n) (μ:=Vs x n) ?_ (cO _) (λ_ _=>?_)|exact trivial|refine aa (λ_=>?_) (λ_=>?_)|refine ba ?_ ?_|refine cz ?_ ?_|refine ar (λ_ _=>?_)|refine fh ?_|refine ez ?_|refine And.intro ?_ ?_)
 all_goals((try simp only[Qut,Vs]at*);exact oI)
def Zl8:bu:={
 α:=(Int)×(List Int)
 F:=λst a=>([(0,(lk st 0)),(1,(lk st 1)),(5,.all 0),(6,.int i64 a.1)],[⟨false,5,1,.ints u8 a.2⟩])
 a0:=λst=>((lk st 6).toInt,(oP st.rows (rN st 5)))
 jn:=λst=>[]++[(rX st 5 0)]}
def Zdg:List (Nat×bu):=[(3,Zl8)]
def Zp8:bc:=mP 304 [] true [.one (.int .u32),.one (.int .i64)] [] (λa r=>V5 (aq a 0) (aq a 1)) (λa r=>XE (aq a 0) (aq a 1)) (λX=>.str X) (λX=>[])
theorem Zkw:bj pG Zp8:=wc drawn mQ (.nil) Tryz.func304 Tryz.call304 (λa r=>MO (aq a 0) (aq a 1)) [] Zdg 3 (hp:=λa r h=>Zf (aq a 0) (aq a 1) h)
def XF(m:List Int)(frame:Int)(z:(Int)×(List Int)):Nat:=(32-z.1).toNat
def GX(m:List Int)(frame:Int):Tree ((List UInt8)×Bool):=
.br (decide (frame<0)) (.lf ([],false)) (.lv (wI m) λ(x0:Int)=>.br (decide (frame>=x0)) (.lf ([],false)) (.lp inferInstance (XF m frame (0,[])+1) ((((ao.Nil (ao.ints u32 m)\/rE (1:Nat))/\rE (m:List Int))/\rE (frame:Int)/\True/\rE (0:Int)/\True)/\rE ([]:List Int)/\True) (0,[]) λ(v0:Int×List Int)=>.br (decide (v0.1<32)) (.cn (bT 1 1&&bJ 0 1&&decide (0<=wrap i64 (wrap i64 (frame*32)+v0.1)/\wrap i64 (wrap i64 (frame*32)+v0.1)<(m.length:Int))) (let E1:=m.getD (dF (wrap i64 (wrap i64 (frame*32)+v0.1))) 0;.an (V5 E1 4) (.lv (XE E1 4) λ(x1:List UInt8)=>.cn (decide (1*(v0.2.length+dK (jx x1))<=140737488355328)) (.nx ((((ao.Nil (ao.ints u32 m)\/rE (1:Nat))/\rE (m:List Int))/\rE (frame:Int)/\True/\rE ((wrap i64 (v0.1+1)):Int)/\True)/\rE ((v0.2++jx x1):List Int)/\True) (Sum.inl (wrap i64 (v0.1+1),v0.2++jx x1)))))) (.lf (Sum.inr (bytesOf v0.2,true)))))
def Lx m frame:=(GX m frame).m
abbrev Qg8 m frame:=(GX m frame).p
def Zel:bu:={
 α:=(Int)×(List Int)
 F:=λst a=>([(0,(lk st 0)),(1,(lk st 1)),(6,.all 0),(7,.int i64 a.1)],[⟨false,5,1,.ints u8 a.2⟩])
 a0:=λst=>((lk st 7).toInt,(oP st.rows (rN st 6)))
 jn:=λst=>[]++[(rX st 6 0)]}
def Z75:List (Nat×bu):=[(5,Zel)]
def Zit:bc:=mT 283 [] true [.one (.ints .u32),.one (.int .i64)] [] (λa r=>GX (eh .u32 a 0) (aq a 1)) (λX=>.dt [.str (X.1),.bool (X.2)]) (λX=>[])
theorem Qyw:bj pG Zit:=oT (.cons Sj (.cons Zkw (.nil))) Tryz.func283 Tryz.call283 [] Z75 3
def Qrb(d0:fp)(dh:Int):Tree (dx×Bool):=
.br (d0.B7 !=1) (.lf ({B9:=0,At:=0,C1:=0,C9:=[]},false)) (.br (d0.D6==1) (.lf ({B9:=3,At:=dh,C1:=d0.B6,C9:=[]},true)) (.br (d0.D6==2) (.lf ({B9:=4,At:=dh,C1:=d0.B6,C9:=d0.B8},true)) (.lf ({B9:=0,At:=0,C1:=0,C9:=[]},false))))
def XY d0 dh:=(Qrb d0 dh).m
def Z5y:bc:=mS 284 [] true [.agg fp.sig,.one (.int .u64)] [] (λa r=>Qrb (fp.of (aC a 0)) (aq a 1)) (λX=>.dt [.agg (dx.cells (X.1)),.bool (X.2)]) (λX=>[])
theorem Z4l:bj pG Z5y:=oS (.nil) Tryz.func284 Tryz.call284 [] [] 2
def G5(d0:fp)(m:List Int)(port v dh:Int):Tree (fp×(List dx)):=
.br (port==4) (.lf ({ae:=d0.ae,C1:=v,Frame:=d0.Frame,B7:=d0.B7,D6:=d0.D6,B6:=d0.B6,B2:=d0.B2,B8:=d0.B8},[])) (.br (port==5) (.lf ({ae:=d0.ae,C1:=d0.C1,Frame:=v,B7:=d0.B7,D6:=d0.D6,B6:=d0.B6,B2:=d0.B2,B8:=d0.B8},[])) (.br (port !=6) (.lf (d0,[])) (let T1:Tree ((fp×(List dx))):=.br (d0.B7==0) (let T2:Tree ((fp×(List dx))):=.lf ({ae:=d0.ae,C1:=d0.C1,Frame:=d0.Frame,B7:=3,D6:=d0.D6,B6:=d0.B6,B2:=d0.B2,B8:=d0.B8},[]);.br (decide (d0.C1>=d0.ae)) T2 (.lv (Q2 m d0.Frame) λ(x0:Bool)=>.br (!x0) T2 (.br (v==2) (.an (Qg8 m (wrap i64 d0.Frame)) (.lv (Lx m (wrap i64 d0.Frame)) λ(x1:List UInt8×Bool)=>let E4:=({ae:=d0.ae,C1:=d0.C1,Frame:=d0.Frame,B7:=1,D6:=wrap i64 v,B6:=d0.C1,B2:=d0.Frame,B8:=x1.1}:fp);.lv (XY E4 dh) λ(x2:dx×Bool)=>.lf (E4,[x2.1]))) (let E5:=({ae:=d0.ae,C1:=d0.C1,Frame:=d0.Frame,B7:=1,D6:=wrap i64 v,B6:=d0.C1,B2:=d0.Frame,B8:=[]}:fp);.lv (XY E5 dh) λ(x3:dx×Bool)=>.lf (E5,[x3.1]))))) (.lf (d0,[]));.br (v==0) (let T3:Tree ((fp×(List dx))):=.lf ({ae:=d0.ae,C1:=d0.C1,Frame:=d0.Frame,B7:=0,D6:=d0.D6,B6:=d0.B6,B2:=d0.B2,B8:=d0.B8},[]);.br (d0.B7==2) T3 (.br (d0.B7==3) T3 (.br (v==1) T1 (.br (v==2) T1 (.lf (d0,[])))))) (.br (v==1) T1 (.br (v==2) T1 (.lf (d0,[])))))))
def OR d0 m port v dh:=(G5 d0 m port v dh).m
abbrev Qfj d0 m port v dh:=(G5 d0 m port v dh).p
def Z6k:bc:=mT 221 [] true [.agg fp.sig,.one (.ints .u32),.one (.int .i64),.one (.int .u32),.one (.int .u64)] [] (λa r=>G5 (fp.of (aC a 0)) (eh .u32 a 1) (aq a 2) (aq a 3) (aq a 4)) (λX=>.dt [.agg (fp.cells (X.1)),.sl 4 (.av .ay (X.2)) true]) (λX=>[])
theorem Qog:bj pG Z6k:=oT (.cons Sk (.cons Qyw (.cons Z4l (.nil)))) Tryz.func221 Tryz.call221 [.sl (.av .ay) true] [] 2
def LQ(n:ia)(m:List Int)(port v dh:Int):Tree (ia×(List dx)):=
.br (port==7) (.lf ({Frame:=v,E0:=n.E0,C5:=n.C5,C0:=n.C0,B5:=n.B5,F1:=n.F1},[])) (.br (port==8) (.lf ({Frame:=n.Frame,E0:=v,C5:=n.C5,C0:=n.C0,B5:=n.B5,F1:=n.F1},[])) (.br (port !=9) (.lf (n,[])) (.br (v==0) (.lf ({Frame:=n.Frame,E0:=n.E0,C5:=n.C5,C0:=n.C0,B5:=false,F1:=0},[])) (let T1:Tree ((ia×(List dx))):=.br (v==2) (.lv (Q2 m n.Frame) λ(x2:Bool)=>.br x2 (.br (!n.C5) (.br (!n.B5) (.lf ({Frame:=n.Frame,E0:=n.E0,C5:=true,C0:=n.Frame,B5:=n.B5,F1:=n.F1},[])) (.lf (n,[]))) (.lf (n,[]))) (.lf (n,[]))) (.lf (n,[]));.br (v==1) (.br (decide (n.E0>=1)) (.br (decide (n.E0<=128)) (.lv (Q2 m n.Frame) λ(x0:Bool)=>.br x0 (.an (Qg8 m (wrap i64 n.Frame)) (.lv (Lx m (wrap i64 n.Frame)) λ(x1:List UInt8×Bool)=>.cn (decide ((0:Int)<=(0:Int)/\0<=n.E0/\n.E0<=(x1.1.length:Int))) (.lf (n,[{B9:=2,At:=dh,C1:=0,C9:=dB (dF n.E0-dF 0) (dC (dF 0) x1.1)}])))) T1) T1) T1) T1))))
def TV n m port v dh:=(LQ n m port v dh).m
abbrev Qil n m port v dh:=(LQ n m port v dh).p
def Zai:bc:=mT 222 [] true [.agg ia.sig,.one (.ints .u32),.one (.int .i64),.one (.int .u32),.one (.int .u64)] [] (λa r=>LQ (ia.of (aC a 0)) (eh .u32 a 1) (aq a 2) (aq a 3) (aq a 4)) (λX=>.dt [.agg (ia.cells (X.1)),.sl 4 (.av .ay (X.2)) true]) (λX=>[])
theorem Qri:bj pG Zai:=oT (.cons Sk (.cons Qyw (.nil))) Tryz.func222 Tryz.call222 [.sl (.av .ay) true] [] 2
def X5(b:gv)(m:List Int)(port v:Int)(z:(Int)×(List Int)):Nat:=(32-z.1).toNat
def Br(b:gv)(m:List Int)(port v:Int):Tree (gv×(List Int)):=
let T1:Tree ((gv×(List Int))):=.br (port==11) (.br (decide (v<32)) (.cn (decide (0<=v)) (.lf ({C7:=b.C7,C2:=nS u32 b.C2 (eg u32 1 v)},m))) (.lf (b,m))) (.lf (b,m));.br (port==10) (.lv (Q2 m v) λ(x0:Bool)=>.br x0 (.cn (decide (0<=v)) (.br (bf u32 (bg u32 b.C2 v) (1:Int)==(0:Int)) (.cn (decide (0<=v)) (.lp inferInstance (X5 b m port v (0,m)+1) ((True/\rE (v:Int)/\rZ/\rZ/\rE (0:Int)/\True)/\rE (m:List Int)/\(rE b.C7/\rE ((ir u32 b.C2 (eg u32 1 v)):Int)/\True)/\(rE (0:Int)/\rE (0:Int)/\True)/\True) (0,m) λ(v0:Int×List Int)=>.br (decide (v0.1<32)) (let E2:=wrap i64 (wrap i64 v*32)+v0.1;.cn (bT 1 1&&bJ 0 1&&decide (0<=wrap i64 E2/\wrap i64 E2<(v0.2.length:Int))) (.nx ((True/\rE (v:Int)/\rZ/\rZ/\rE ((wrap i64 (v0.1+1)):Int)/\True)/\rE ((dG v0.2 (dF (wrap i64 (wrap i64 (wrap i64 v*32)+v0.1))) 0):List Int)/\(rE b.C7/\rE ((ir u32 b.C2 (eg u32 1 v)):Int)/\True)/\(rE (0:Int)/\rE (0:Int)/\True)/\True) (Sum.inl (wrap i64 (v0.1+1),dG v0.2 (dF (wrap i64 E2)) 0)))) (.lf (Sum.inr ({C7:=b.C7,C2:=ir u32 b.C2 (eg u32 1 v)},v0.2))))) T1)) T1) T1
def AO b m port v:=(Br b m port v).m
abbrev Qmm b m port v:=(Br b m port v).p
def Zhk:bu:={
 α:=(Int)×(List Int)
 F:=λst a=>([(1,.all 0),(3,(lk st 3)),(4,.ptr 1 0 0),(8,.ptr 2 0 0),(9,.int i64 a.1)],[⟨false,23,1,.ints u32 a.2⟩,⟨true,39,2,.gen [[(cT st 4 0),(cT st 4 1)]]⟩,⟨true,39,2,.gen [[(cT st 8 0),(cT st 8 1)]]⟩])
 a0:=λst=>((lk st 9).toInt,(oP st.rows 0))
 jn:=λst=>[0]++[(rX st 4 1),(rX st 8 2)]}
def Z6x:List (Nat×bu):=[(4,Zhk)]
def Zjy:bc:=mT 223 [false,true,false,false] true [.agg gv.sig,.one (.row 0),.one (.int .i64),.one (.int .u32)] [.arr 23 1 (.ints .u32)] (λa r=>Br (gv.of (aC a 0)) (gj .u32 r 0) (aq a 2) (aq a 3)) (λX=>.agg (gv.cells (X.1))) (λX=>[⟨false,23,1,.ints .u32 (X.2)⟩])
theorem Qyd:bj pG Zjy:=oT (.cons Sk (.nil)) Tryz.func223 Tryz.call223 [] Z6x 3
def EZ(m:au)(port v:Int):Tree ((List dx)×au):=
.br (port==0) (.lf ([{B9:=1,At:=m.A1,C1:=0,C9:=[(λ(n:Int)=>eX n.toNat) (wrap u8 v)]}],m)) (.br (decide (port<=2)) (.lf ([],m)) (.br (port==3) (.lv (OO v) λ(x0:iW)=>.lf ([],{B1:=m.B1,Mem:=m.Mem,A3:=m.A3,A9:=x0,A7:=m.A7,C3:=m.C3,A2:=m.A2,A1:=m.A1,A4:=m.A4,A6:=m.A6})) (.br (decide (port<=6)) (.an (Qfj m.A7 m.Mem port v m.A1) (.lv (OR m.A7 m.Mem port v m.A1) λ(x1:fp×List dx)=>.lf (x1.2,{B1:=m.B1,Mem:=m.Mem,A3:=m.A3,A9:=m.A9,A7:=x1.1,C3:=m.C3,A2:=m.A2,A1:=m.A1,A4:=m.A4,A6:=m.A6}))) (.br (decide (port<=9)) (.an (Qil m.C3 m.Mem port v m.A1) (.lv (TV m.C3 m.Mem port v m.A1) λ(x2:ia×List dx)=>.lf (x2.2,{B1:=m.B1,Mem:=m.Mem,A3:=m.A3,A9:=m.A9,A7:=m.A7,C3:=x2.1,A2:=m.A2,A1:=m.A1,A4:=m.A4,A6:=m.A6}))) (.an (Qmm m.A2 m.Mem port v) (.lv (AO m.A2 m.Mem port v) λ(x3:gv×List Int)=>.lf ([],{B1:=m.B1,Mem:=x3.2,A3:=m.A3,A9:=m.A9,A7:=m.A7,C3:=m.C3,A2:=x3.1,A1:=m.A1,A4:=m.A4,A6:=m.A6})))))))
def AP m port v:=(EZ m port v).m
abbrev Qz0 m port v:=(EZ m port v).p
def Zqi:bc:=mT 146 [true,false,false] true [.ptr 0,.one (.int .i64),.one (.int .u32)] [.box 42 49 (au.kO (.row 1)),.arr 23 1 (.ints .u32)] (λa r=>EZ (au.pZ (r.getD 0 default).cs (gj .u32 r 1)) (aq a 1) (aq a 2)) (λX=>.sl 4 (.av .ay (X.1)) true) (λX=>[⟨true,42,49,.gen [(au.fe (X.2) (.all 1))]⟩,⟨false,23,1,.ints .u32 (X.2).Mem⟩])
theorem Zl5:bj pG Zqi:=oT (.cons Z3m (.cons Qog (.cons Qri (.cons Qyd (.nil))))) Tryz.func146 Tryz.call146 [.sl (.av .ay) true,.row 23 1 (.ints .u32)] [] 2
def KQ(m:au)(clock:Int):Tree ((List dx)×au):=
.an (Q6k m) (.lv (lV m) λ(x0:bh)=>.an (Qsg x0 m.Mem) (.lv (pR x0 m.Mem) λ(x1:bh×kJ×List Int)=>let E1:=({B1:=x1.1,Mem:=x1.2.2,A3:=m.A3,A9:=m.A9,A7:=m.A7,C3:=m.C3,A2:=m.A2,A1:=m.A1,A4:=false,A6:=m.A6}:au);.br (x1.2.1.B9==1) (.lv (wN E1 x1.2.1.D0 clock) λ(x2:Int×au)=>.an (BH x2.2.B1 x1.2.1.D9 x2.1) (.lv (lD x2.2.B1 x1.2.1.D9 x2.1) λ(x3:bh)=>.lf ([],{B1:=x3,Mem:=x2.2.Mem,A3:=x2.2.A3,A9:=x2.2.A9,A7:=x2.2.A7,C3:=x2.2.C3,A2:=x2.2.A2,A1:=wrap u64 (x2.2.A1+1),A4:=x2.2.A4,A6:=x2.2.A6}))) (.br (x1.2.1.B9==2) (.an (Qz0 E1 x1.2.1.D0 x1.2.1.Value) (.lv (AP E1 x1.2.1.D0 x1.2.1.Value) λ(x4:List dx×au)=>.lf (x4.1,{B1:=x4.2.B1,Mem:=x4.2.Mem,A3:=x4.2.A3,A9:=x4.2.A9,A7:=x4.2.A7,C3:=x4.2.C3,A2:=x4.2.A2,A1:=wrap u64 (x4.2.A1+1),A4:=x4.2.A4,A6:=x4.2.A6}))) (.br (x1.2.1.B9==3) (.lf ([],{B1:=x1.1,Mem:=x1.2.2,A3:=m.A3,A9:=m.A9,A7:=m.A7,C3:=m.C3,A2:=m.A2,A1:=wrap u64 (m.A1+1),A4:=true,A6:=m.A6})) (.br (x1.2.1.B9==4) (.lf ([],{B1:=x1.1,Mem:=x1.2.2,A3:=m.A3,A9:=m.A9,A7:=m.A7,C3:=m.C3,A2:=m.A2,A1:=wrap u64 (m.A1+1),A4:=false,A6:=true})) (.lf ([],{B1:=x1.1,Mem:=x1.2.2,A3:=m.A3,A9:=m.A9,A7:=m.A7,C3:=m.C3,A2:=m.A2,A1:=wrap u64 (m.A1+1),A4:=false,A6:=m.A6})))))))
def fv m clock:=(KQ m clock).m
abbrev Qfs m clock:=(KQ m clock).p
def Z6u:bc:=mT 89 [true,false] true [.ptr 0,.one (.int .u32)] [.box 42 49 (au.kO (.row 1)),.arr 23 1 (.ints .u32)] (λa r=>KQ (au.pZ (r.getD 0 default).cs (gj .u32 r 1)) (aq a 1)) (λX=>.sl 4 (.av .ay (X.1)) true) (λX=>[⟨true,42,49,.gen [(au.fe (X.2) (.all 1))]⟩,⟨false,23,1,.ints .u32 (X.2).Mem⟩])
theorem Z5r:bj pG Z6u:=oT (.cons Qb5 (.cons Z85 (.cons Zow (.cons M0 (.cons Zl5 (.nil)))))) Tryz.func89 Tryz.call89 [.sl (.av .ay) true,.row 23 1 (.ints .u32)] [] 2
end
noncomputable section
instance Sn {α β:Type} [Inhabited β]:Inhabited (α⊕β):=⟨.inr default⟩
def O1(m:cy)(port clock:Int):Tree (Int×cy):=
.br (decide (port<=1)) (.lv (Jf m.A0.A3 port) λ(x0:iV×Int)=>.lf (x0.2,{A0:={B1:=m.A0.B1,Mem:=m.A0.Mem,A3:=x0.1,A9:=m.A0.A9,A7:=m.A0.A7,C3:=m.A0.C3,A2:=m.A0.A2,A1:=m.A0.A1,A4:=m.A0.A4,A6:=m.A0.A6},B3:=m.B3,C8:=m.C8,B0:=m.B0})) (.br (port==2) (.lf (clock,m)) (.br (port==3) (.lv (Ua m.A0.A9) λ(x1:Int)=>.lf (x1,m)) (.br (decide (port<=6)) (.lv (T9 m.A0.A7 port) λ(x2:Int)=>.lf (x2,m)) (.br (decide (port<=9)) (.lv (OM m.A0.C3 port) λ(x3:Int)=>.lf (x3,m)) (.lv (Jh m.A0.A2 port) λ(x4:Int)=>.lf (x4,m))))))
def Yk m port clock:=(O1 m port clock).m
def Zjn:bc:=mS 144 [true,false,false] true [.ptr 0,.one (.int .i64),.one (.int .u32)] [.box 154 52 (cy.kO (.row 1) (.row 2) (.row 3)),.arr 23 1 (.ints .u32),.arr 103 4 (.av .ab),.arr 72 3 (.av .bd)] (λa r=>O1 (cy.pZ (r.getD 0 default).cs (gj .u32 r 1) (jM .ab r 2) (jM .bd r 3)) (aq a 1) (aq a 2)) (λX=>.int .u32 (X.1)) (λX=>[⟨true,154,52,.gen [(cy.fe (X.2) (.all 1) (.all 2) (.all 3))]⟩,⟨false,23,1,.ints .u32 (X.2).A0.Mem⟩,⟨false,103,4,.av .ab (X.2).C8⟩,⟨false,72,3,.av .bd (X.2).B0⟩])
theorem Zgh:bj pG Zjn:=oS (.cons Qkk (.cons Qpi (.cons Qrh (.cons Qua (.cons Qkg (.nil)))))) Tryz.func144 Tryz.call144 [.row 23 1 (.ints .u32),.row 103 4 (.av .ab),.row 72 3 (.av .bd)] [] 2
def L6(m:cy)(port v:Int):Tree ((List dx)×cy):=
.br (port==0) (.lf ([{B9:=1,At:=m.A0.A1,C1:=0,C9:=[(λ(n:Int)=>eX n.toNat) (wrap u8 v)]}],m)) (.br (decide (port<=2)) (.lf ([],m)) (.br (port==3) (.lv (OO v) λ(x0:iW)=>.lf ([],{A0:={B1:=m.A0.B1,Mem:=m.A0.Mem,A3:=m.A0.A3,A9:=x0,A7:=m.A0.A7,C3:=m.A0.C3,A2:=m.A0.A2,A1:=m.A0.A1,A4:=m.A0.A4,A6:=m.A0.A6},B3:=m.B3,C8:=m.C8,B0:=m.B0})) (.br (decide (port<=6)) (.an (Qfj m.A0.A7 m.A0.Mem port v m.A0.A1) (.lv (OR m.A0.A7 m.A0.Mem port v m.A0.A1) λ(x1:fp×List dx)=>.lf (x1.2,{A0:={B1:=m.A0.B1,Mem:=m.A0.Mem,A3:=m.A0.A3,A9:=m.A0.A9,A7:=x1.1,C3:=m.A0.C3,A2:=m.A0.A2,A1:=m.A0.A1,A4:=m.A0.A4,A6:=m.A0.A6},B3:=m.B3,C8:=m.C8,B0:=m.B0}))) (.br (decide (port<=9)) (.an (Qil m.A0.C3 m.A0.Mem port v m.A0.A1) (.lv (TV m.A0.C3 m.A0.Mem port v m.A0.A1) λ(x2:ia×List dx)=>.lf (x2.2,{A0:={B1:=m.A0.B1,Mem:=m.A0.Mem,A3:=m.A0.A3,A9:=m.A0.A9,A7:=m.A0.A7,C3:=x2.1,A2:=m.A0.A2,A1:=m.A0.A1,A4:=m.A0.A4,A6:=m.A0.A6},B3:=m.B3,C8:=m.C8,B0:=m.B0}))) (.an (Qmm m.A0.A2 m.A0.Mem port v) (.lv (AO m.A0.A2 m.A0.Mem port v) λ(x3:gv×List Int)=>.lf ([],{A0:={B1:=m.A0.B1,Mem:=x3.2,A3:=m.A0.A3,A9:=m.A0.A9,A7:=m.A0.A7,C3:=m.A0.C3,A2:=x3.1,A1:=m.A0.A1,A4:=m.A0.A4,A6:=m.A0.A6},B3:=m.B3,C8:=m.C8,B0:=m.B0})))))))
def Yl m port v:=(L6 m port v).m
abbrev Qs7 m port v:=(L6 m port v).p
def Zgx:bc:=mT 146 [true,false,false] true [.ptr 0,.one (.int .i64),.one (.int .u32)] [.box 154 52 (cy.kO (.row 1) (.row 2) (.row 3)),.arr 23 1 (.ints .u32),.arr 103 4 (.av .ab),.arr 72 3 (.av .bd)] (λa r=>L6 (cy.pZ (r.getD 0 default).cs (gj .u32 r 1) (jM .ab r 2) (jM .bd r 3)) (aq a 1) (aq a 2)) (λX=>.sl 4 (.av .ay (X.1)) true) (λX=>[⟨true,154,52,.gen [(cy.fe (X.2) (.all 1) (.all 2) (.all 3))]⟩,⟨false,23,1,.ints .u32 (X.2).A0.Mem⟩,⟨false,103,4,.av .ab (X.2).C8⟩,⟨false,72,3,.av .bd (X.2).B0⟩])
theorem Zbo:bj pG Zgx:=oT (.cons Z3m (.cons Qog (.cons Qri (.cons Qyd (.nil))))) Tryz.func146 Tryz.call146 [.sl (.av .ay) true,.row 23 1 (.ints .u32),.row 103 4 (.av .ab),.row 72 3 (.av .bd)] [] 2
def Ma(m:cy)(clock:Int):Tree ((List dx)×cy):=
.an (Q6k m.A0) (.lv (lV m.A0) λ(x0:bh)=>.an (Qsg x0 m.A0.Mem) (.lv (pR x0 m.A0.Mem) λ(x1:bh×kJ×List Int)=>let E1:=({B1:=x1.1,Mem:=x1.2.2,A3:=m.A0.A3,A9:=m.A0.A9,A7:=m.A0.A7,C3:=m.A0.C3,A2:=m.A0.A2,A1:=m.A0.A1,A4:=false,A6:=m.A0.A6}:au);.br (x1.2.1.B9==1) (.lv (Yk {A0:=E1,B3:=m.B3,C8:=m.C8,B0:=m.B0} x1.2.1.D0 clock) λ(x2:Int×cy)=>.an (BH x2.2.A0.B1 x1.2.1.D9 x2.1) (.lv (lD x2.2.A0.B1 x1.2.1.D9 x2.1) λ(x3:bh)=>.lf ([],{A0:={B1:=x3,Mem:=x2.2.A0.Mem,A3:=x2.2.A0.A3,A9:=x2.2.A0.A9,A7:=x2.2.A0.A7,C3:=x2.2.A0.C3,A2:=x2.2.A0.A2,A1:=wrap u64 (x2.2.A0.A1+1),A4:=x2.2.A0.A4,A6:=x2.2.A0.A6},B3:=x2.2.B3,C8:=x2.2.C8,B0:=x2.2.B0}))) (.br (x1.2.1.B9==2) (.an (Qs7 {A0:=E1,B3:=m.B3,C8:=m.C8,B0:=m.B0} x1.2.1.D0 x1.2.1.Value) (.lv (Yl {A0:=E1,B3:=m.B3,C8:=m.C8,B0:=m.B0} x1.2.1.D0 x1.2.1.Value) λ(x4:List dx×cy)=>.lf (x4.1,{A0:={B1:=x4.2.A0.B1,Mem:=x4.2.A0.Mem,A3:=x4.2.A0.A3,A9:=x4.2.A0.A9,A7:=x4.2.A0.A7,C3:=x4.2.A0.C3,A2:=x4.2.A0.A2,A1:=wrap u64 (x4.2.A0.A1+1),A4:=x4.2.A0.A4,A6:=x4.2.A0.A6},B3:=x4.2.B3,C8:=x4.2.C8,B0:=x4.2.B0}))) (.br (x1.2.1.B9==3) (.lf ([],{A0:={B1:=x1.1,Mem:=x1.2.2,A3:=m.A0.A3,A9:=m.A0.A9,A7:=m.A0.A7,C3:=m.A0.C3,A2:=m.A0.A2,A1:=wrap u64 (m.A0.A1+1),A4:=true,A6:=m.A0.A6},B3:=m.B3,C8:=m.C8,B0:=m.B0})) (.br (x1.2.1.B9==4) (.lf ([],{A0:={B1:=x1.1,Mem:=x1.2.2,A3:=m.A0.A3,A9:=m.A0.A9,A7:=m.A0.A7,C3:=m.A0.C3,A2:=m.A0.A2,A1:=wrap u64 (m.A0.A1+1),A4:=false,A6:=true},B3:=m.B3,C8:=m.C8,B0:=m.B0})) (.lf ([],{A0:={B1:=x1.1,Mem:=x1.2.2,A3:=m.A0.A3,A9:=m.A0.A9,A7:=m.A0.A7,C3:=m.A0.C3,A2:=m.A0.A2,A1:=wrap u64 (m.A0.A1+1),A4:=false,A6:=m.A0.A6},B3:=m.B3,C8:=m.C8,B0:=m.B0})))))))
def L9 m clock:=(Ma m clock).m
abbrev V6 m clock:=(Ma m clock).p
def Qzs:bc:=mT 89 [true,false] true [.ptr 0,.one (.int .u32)] [.box 154 52 (cy.kO (.row 1) (.row 2) (.row 3)),.arr 23 1 (.ints .u32),.arr 103 4 (.av .ab),.arr 72 3 (.av .bd)] (λa r=>Ma (cy.pZ (r.getD 0 default).cs (gj .u32 r 1) (jM .ab r 2) (jM .bd r 3)) (aq a 1)) (λX=>.sl 4 (.av .ay (X.1)) true) (λX=>[⟨true,154,52,.gen [(cy.fe (X.2) (.all 1) (.all 2) (.all 3))]⟩,⟨false,23,1,.ints .u32 (X.2).A0.Mem⟩,⟨false,103,4,.av .ab (X.2).C8⟩,⟨false,72,3,.av .bd (X.2).B0⟩])
theorem Qxo:bj pG Qzs:=oT (.cons Qb5 (.cons Z85 (.cons Zgh (.cons M0 (.cons Zbo (.nil)))))) Tryz.func89 Tryz.call89 [.sl (.av .ay) true,.row 23 1 (.ints .u32),.row 103 4 (.av .ab),.row 72 3 (.av .bd)] [] 2
def W3(r:cy)(steps clock:Int)(z:(Int)×cy):Nat:=(z.2.B0.length-z.1).toNat
def NM(r:cy)(steps clock:Int)(v0:Int×cy)(z:(Int)×cy×(List dx)):Nat:=(4000-z.1).toNat
def IM(r:cy)(steps clock:Int):Tree (cy×(List dx)):=
.an (Qme r) (.lv (Uf r) λ(x0:cy)=>.lv (pS x0.A0) λ(x1:Bool)=>.br (!x1) (.lf (x0,[])) (.lp inferInstance (W3 r steps clock (0,{A0:=x0.A0,B3:=if clock>x0.B3 then clock else x0.B3,C8:=x0.C8,B0:=x0.B0})+1) ((rE (steps:Int)/\rZ/\rZ/\rE (0:Int)/\True)/\(mE x0.A0 True (rE ((if clock>x0.B3 then clock else x0.B3):Int)/\True/\True/\True))/\rE x0.A0.Mem/\rE x0.C8/\rE x0.B0/\(mE zM True (rE (0:Int)/\True/\True/\True))/\True) (0,{A0:=x0.A0,B3:=if clock>x0.B3 then clock else x0.B3,C8:=x0.C8,B0:=x0.B0}) λ(v0:Int×cy)=>.br (decide (v0.1<(v0.2.B0.length:Int))) (.cn (bT 3 3&&bJ 0 3&&decide (0<=v0.1/\v0.1<(v0.2.B0.length:Int))) (let E1:=v0.2.B0.getD v0.1.toNat (RK.cj RK.bd);.an (Qio v0.2 E1) (.lv (O2 v0.2 E1) λ(x2:cy)=>.nx ((rE (steps:Int)/\rZ/\rZ/\rE ((wrap i64 (v0.1+1)):Int)/\True)/\(mE x2.A0 True (rE x2.B3/\True/\True/\True))/\rE x2.A0.Mem/\rE x2.C8/\rE x2.B0/\(mE zM True (rE (0:Int)/\True/\True/\True))/\True) (Sum.inl (wrap i64 (v0.1+1),x2))))) (.lp inferInstance (NM r steps clock v0 (0,{A0:=v0.2.A0,B3:=v0.2.B3,C8:=v0.2.C8,B0:=[]},[])+1) ((rE (steps:Int)/\rZ/\rZ/\True/\rE (0:Int)/\True)/\(mE v0.2.A0 True (rE v0.2.B3/\True/\True/\True))/\rE v0.2.A0.Mem/\rE v0.2.C8/\rE ([]:List (RK.T RK.bd))/\(mE zM True (rE (0:Int)/\True/\True/\True))/\rE ([]:List (RK.T RK.ay))/\True) (0,{A0:=v0.2.A0,B3:=v0.2.B3,C8:=v0.2.C8,B0:=[]},[]) λ(v1:Int×cy×List dx)=>.lv (pP steps) λ(x3:Int)=>.br (decide (v1.1<x3)) (.lv (Jn v1.2.1.A0.A9 v1.2.1.B3) λ(x4:Bool)=>.br x4 (.an (Qio v1.2.1 {B9:=2,N:=0,C9:=[]}) (.lv (O2 v1.2.1 {B9:=2,N:=0,C9:=[]}) λ(x5:cy)=>.an (VS x5.A0) (.lv (mN x5.A0) λ(x6:Bool)=>.br x6 (.lf (Sum.inr (Sum.inr (x5,v1.2.2)))) (.an (Qbf x5.A0) (.lv (Hc x5.A0) λ(x7:Bool)=>.br x7 (.cn (decide (40*(x5.C8.length+1)<=140737488355328)) (.an (V6 {A0:=x5.A0,B3:=x5.B3,C8:=x5.C8++[{At:=x5.A0.A1,C6:={B9:=1,N:=x5.B3,C9:=[]}}],B0:=x5.B0} x5.B3) (.lv (L9 {A0:=x5.A0,B3:=x5.B3,C8:=x5.C8++[{At:=x5.A0.A1,C6:={B9:=1,N:=x5.B3,C9:=[]}}],B0:=x5.B0} x5.B3) λ(x8:List dx×cy)=>.cn (decide (40*(v1.2.2.length+x8.1.length)<=140737488355328)) (.nx ((rE (steps:Int)/\rZ/\rZ/\True/\rE ((wrap i64 (v1.1+1)):Int)/\True)/\(mE x8.2.A0 True (rE ((wrap u32 (x8.2.B3+1)):Int)/\True/\True/\True))/\rE x8.2.A0.Mem/\rE x8.2.C8/\rE x8.2.B0/\(mE zM True (rE (0:Int)/\True/\True/\True))/\rE ((v1.2.2++x8.1):List (RK.T RK.ay))/\True) (Sum.inl (wrap i64 (v1.1+1),{A0:=x8.2.A0,B3:=wrap u32 (x8.2.B3+1),C8:=x8.2.C8,B0:=x8.2.B0},v1.2.2++x8.1)))))) (.an (V6 x5 x5.B3) (.lv (L9 x5 x5.B3) λ(x9:List dx×cy)=>.cn (decide (40*(v1.2.2.length+x9.1.length)<=140737488355328)) (.nx ((rE (steps:Int)/\rZ/\rZ/\True/\rE ((wrap i64 (v1.1+1)):Int)/\True)/\(mE x9.2.A0 True (rE ((wrap u32 (x9.2.B3+1)):Int)/\True/\True/\True))/\rE x9.2.A0.Mem/\rE x9.2.C8/\rE x9.2.B0/\(mE zM True (rE (0:Int)/\True/\True/\True))/\rE ((v1.2.2++x9.1):List (RK.T RK.ay))/\True) (Sum.inl (wrap i64 (v1.1+1),{A0:=x9.2.A0,B3:=wrap u32 (x9.2.B3+1),C8:=x9.2.C8,B0:=x9.2.B0},v1.2.2++x9.1)))))))))) (.an (VS v1.2.1.A0) (.lv (mN v1.2.1.A0) λ(kI:Bool)=>.br kI (.lf (Sum.inr (Sum.inr (v1.2.1,v1.2.2)))) (.an (Qbf v1.2.1.A0) (.lv (Hc v1.2.1.A0) λ(mz:Bool)=>.br mz (.cn (decide (40*(v1.2.1.C8.length+1)<=140737488355328)) (.an (V6 {A0:=v1.2.1.A0,B3:=v1.2.1.B3,C8:=v1.2.1.C8++[{At:=v1.2.1.A0.A1,C6:={B9:=1,N:=v1.2.1.B3,C9:=[]}}],B0:=v1.2.1.B0} v1.2.1.B3) (.lv (L9 {A0:=v1.2.1.A0,B3:=v1.2.1.B3,C8:=v1.2.1.C8++[{At:=v1.2.1.A0.A1,C6:={B9:=1,N:=v1.2.1.B3,C9:=[]}}],B0:=v1.2.1.B0} v1.2.1.B3) λ(lH:List dx×cy)=>.cn (decide (40*(v1.2.2.length+lH.1.length)<=140737488355328)) (.nx ((rE (steps:Int)/\rZ/\rZ/\True/\rE ((wrap i64 (v1.1+1)):Int)/\True)/\(mE lH.2.A0 True (rE ((wrap u32 (lH.2.B3+1)):Int)/\True/\True/\True))/\rE lH.2.A0.Mem/\rE lH.2.C8/\rE lH.2.B0/\(mE zM True (rE (0:Int)/\True/\True/\True))/\rE ((v1.2.2++lH.1):List (RK.T RK.ay))/\True) (Sum.inl (wrap i64 (v1.1+1),{A0:=lH.2.A0,B3:=wrap u32 (lH.2.B3+1),C8:=lH.2.C8,B0:=lH.2.B0},v1.2.2++lH.1)))))) (.an (V6 v1.2.1 v1.2.1.B3) (.lv (L9 v1.2.1 v1.2.1.B3) λ(lW:List dx×cy)=>.cn (decide (40*(v1.2.2.length+lW.1.length)<=140737488355328)) (.nx ((rE (steps:Int)/\rZ/\rZ/\True/\rE ((wrap i64 (v1.1+1)):Int)/\True)/\(mE lW.2.A0 True (rE ((wrap u32 (lW.2.B3+1)):Int)/\True/\True/\True))/\rE lW.2.A0.Mem/\rE lW.2.C8/\rE lW.2.B0/\(mE zM True (rE (0:Int)/\True/\True/\True))/\rE ((v1.2.2++lW.1):List (RK.T RK.ay))/\True) (Sum.inl (wrap i64 (v1.1+1),{A0:=lW.2.A0,B3:=wrap u32 (lW.2.B3+1),C8:=lW.2.C8,B0:=lW.2.B0},v1.2.2++lW.1)))))))))) (.lf (Sum.inr (Sum.inr (v1.2.1,v1.2.2)))))))
def Ug r steps clock:=(IM r steps clock).m
abbrev Qle r steps clock:=(IM r steps clock).p
def Z0u:bu:={
 α:=(Int)×cy
 F:=λst a=>([(1,(lk st 1)),(3,.ptr 0 0 0),(6,.ptr 4 0 0),(8,.int i64 a.1)],[⟨true,154,52,.gen [[.int u32 a.2.A0.B1.X.a0,.int u32 a.2.A0.B1.X.a1,.int u32 a.2.A0.B1.X.a2,.int u32 a.2.A0.B1.X.a3,.int u32 a.2.A0.B1.X.a4,.int u32 a.2.A0.B1.X.a5,.int u32 a.2.A0.B1.X.a6,.int u32 a.2.A0.B1.X.a7,.int u32 a.2.A0.B1.X.a8,.int u32 a.2.A0.B1.X.a9,.int u32 a.2.A0.B1.X.kq,.int u32 a.2.A0.B1.X.kr,.int u32 a.2.A0.B1.X.a12,.int u32 a.2.A0.B1.X.ku,.int u32 a.2.A0.B1.X.kv,.int u32 a.2.A0.B1.X.ky,.int u32 a.2.A0.B1.Pc,.int u32 a.2.A0.B1.B4.a0,.int u32 a.2.A0.B1.B4.a1,.int u32 a.2.A0.B1.B4.a2,.int u32 a.2.A0.B1.B4.a3,.int u32 a.2.A0.B1.B4.a4,.int u32 a.2.A0.B1.B4.a5,.int u32 a.2.A0.B1.B4.a6,.int u32 a.2.A0.B1.B4.a7,.all 1,.str a.2.A0.A3.D1,.bool a.2.A0.A9.D3,.int u32 a.2.A0.A9.C4,.bool a.2.A0.A9.D2,.int u32 a.2.A0.A7.ae,.int u32 a.2.A0.A7.C1,.int u32 a.2.A0.A7.Frame,.int i64 a.2.A0.A7.B7,.int i64 a.2.A0.A7.D6,.int u32 a.2.A0.A7.B6,.int u32 a.2.A0.A7.B2,.str a.2.A0.A7.B8,.int u32 a.2.A0.C3.Frame,.int u32 a.2.A0.C3.E0,.bool a.2.A0.C3.C5,.int u32 a.2.A0.C3.C0,.bool a.2.A0.C3.B5,.int u32 a.2.A0.C3.F1,.int u32 a.2.A0.A2.C7,.int u32 a.2.A0.A2.C2,.int u64 a.2.A0.A1,.bool a.2.A0.A4,.bool a.2.A0.A6,.int u32 a.2.B3,.all 2,.all 3]]⟩,⟨false,23,1,.ints u32 a.2.A0.Mem⟩,⟨false,103,4,.av RK.ab a.2.C8⟩,⟨false,72,3,.av RK.bd a.2.B0⟩,⟨true,154,52,.gen [[(cT st 6 0),(cT st 6 1),(cT st 6 2),(cT st 6 3),(cT st 6 4),(cT st 6 5),(cT st 6 6),(cT st 6 7),(cT st 6 8),(cT st 6 9),(cT st 6 10),(cT st 6 11),(cT st 6 12),(cT st 6 13),(cT st 6 14),(cT st 6 15),(cT st 6 16),(cT st 6 17),(cT st 6 18),(cT st 6 19),(cT st 6 20),(cT st 6 21),(cT st 6 22),(cT st 6 23),(cT st 6 24),(cT st 6 25),(cT st 6 26),(cT st 6 27),(cT st 6 28),(cT st 6 29),(cT st 6 30),(cT st 6 31),(cT st 6 32),(cT st 6 33),(cT st 6 34),(cT st 6 35),(cT st 6 36),(cT st 6 37),(cT st 6 38),(cT st 6 39),(cT st 6 40),(cT st 6 41),(cT st 6 42),(cT st 6 43),(cT st 6 44),(cT st 6 45),(cT st 6 46),(cT st 6 47),(cT st 6 48),(cT st 6 49),(cT st 6 50),(cT st 6 51)]]⟩])
 a0:=λst=>((lk st 8).toInt,(⟨(mR (cT st 3) (oP st.rows (lz (cT st 3 25) 1000000))),(cT st 3 49).toInt,(tF RK.ab st.rows (lz (cT st 3 50) 1000000)),(tF RK.bd st.rows (lz (cT st 3 51) 1000000))⟩:cy))
 jn:=λst=>[]++[(rX st 3 0),(lz (cT st 3 25) (st.rows.length+1)),(lz (cT st 3 50) (st.rows.length+2)),(lz (cT st 3 51) (st.rows.length+3)),(rX st 6 4)]}
def Z0v:bu:={
 α:=(Int)×cy×(List dx)
 F:=λst a=>([(1,(lk st 1)),(3,.ptr 0 0 0),(6,.ptr 4 0 0),(9,.all 5),(10,.int i64 a.1)],[⟨true,154,52,.gen [[.int u32 a.2.1.A0.B1.X.a0,.int u32 a.2.1.A0.B1.X.a1,.int u32 a.2.1.A0.B1.X.a2,.int u32 a.2.1.A0.B1.X.a3,.int u32 a.2.1.A0.B1.X.a4,.int u32 a.2.1.A0.B1.X.a5,.int u32 a.2.1.A0.B1.X.a6,.int u32 a.2.1.A0.B1.X.a7,.int u32 a.2.1.A0.B1.X.a8,.int u32 a.2.1.A0.B1.X.a9,.int u32 a.2.1.A0.B1.X.kq,.int u32 a.2.1.A0.B1.X.kr,.int u32 a.2.1.A0.B1.X.a12,.int u32 a.2.1.A0.B1.X.ku,.int u32 a.2.1.A0.B1.X.kv,.int u32 a.2.1.A0.B1.X.ky,.int u32 a.2.1.A0.B1.Pc,.int u32 a.2.1.A0.B1.B4.a0,.int u32 a.2.1.A0.B1.B4.a1,.int u32 a.2.1.A0.B1.B4.a2,.int u32 a.2.1.A0.B1.B4.a3,.int u32 a.2.1.A0.B1.B4.a4,.int u32 a.2.1.A0.B1.B4.a5,.int u32 a.2.1.A0.B1.B4.a6,.int u32 a.2.1.A0.B1.B4.a7,.all 1,.str a.2.1.A0.A3.D1,.bool a.2.1.A0.A9.D3,.int u32 a.2.1.A0.A9.C4,.bool a.2.1.A0.A9.D2,.int u32 a.2.1.A0.A7.ae,.int u32 a.2.1.A0.A7.C1,.int u32 a.2.1.A0.A7.Frame,.int i64 a.2.1.A0.A7.B7,.int i64 a.2.1.A0.A7.D6,.int u32 a.2.1.A0.A7.B6,.int u32 a.2.1.A0.A7.B2,.str a.2.1.A0.A7.B8,.int u32 a.2.1.A0.C3.Frame,.int u32 a.2.1.A0.C3.E0,.bool a.2.1.A0.C3.C5,.int u32 a.2.1.A0.C3.C0,.bool a.2.1.A0.C3.B5,.int u32 a.2.1.A0.C3.F1,.int u32 a.2.1.A0.A2.C7,.int u32 a.2.1.A0.A2.C2,.int u64 a.2.1.A0.A1,.bool a.2.1.A0.A4,.bool a.2.1.A0.A6,.int u32 a.2.1.B3,.all 2,.all 3]]⟩,⟨false,23,1,.ints u32 a.2.1.A0.Mem⟩,⟨false,103,4,.av RK.ab a.2.1.C8⟩,⟨false,72,3,.av RK.bd a.2.1.B0⟩,⟨true,154,52,.gen [[(cT st 6 0),(cT st 6 1),(cT st 6 2),(cT st 6 3),(cT st 6 4),(cT st 6 5),(cT st 6 6),(cT st 6 7),(cT st 6 8),(cT st 6 9),(cT st 6 10),(cT st 6 11),(cT st 6 12),(cT st 6 13),(cT st 6 14),(cT st 6 15),(cT st 6 16),(cT st 6 17),(cT st 6 18),(cT st 6 19),(cT st 6 20),(cT st 6 21),(cT st 6 22),(cT st 6 23),(cT st 6 24),(cT st 6 25),(cT st 6 26),(cT st 6 27),(cT st 6 28),(cT st 6 29),(cT st 6 30),(cT st 6 31),(cT st 6 32),(cT st 6 33),(cT st 6 34),(cT st 6 35),(cT st 6 36),(cT st 6 37),(cT st 6 38),(cT st 6 39),(cT st 6 40),(cT st 6 41),(cT st 6 42),(cT st 6 43),(cT st 6 44),(cT st 6 45),(cT st 6 46),(cT st 6 47),(cT st 6 48),(cT st 6 49),(cT st 6 50),(cT st 6 51)]]⟩,⟨false,137,4,.av RK.ay a.2.2⟩])
 a0:=λst=>((lk st 10).toInt,(⟨(mR (cT st 3) (oP st.rows (lz (cT st 3 25) 1000000))),(cT st 3 49).toInt,(tF RK.ab st.rows (lz (cT st 3 50) 1000000)),(tF RK.bd st.rows (lz (cT st 3 51) 1000000))⟩:cy),(tF RK.ay st.rows (rN st 9)))
 jn:=λst=>[]++[(rX st 3 0),(lz (cT st 3 25) (st.rows.length+1)),(lz (cT st 3 50) (st.rows.length+2)),(lz (cT st 3 51) (st.rows.length+3)),(rX st 6 4),(rX st 9 5)]}
def Qu4:List (Nat×bu):=[(6,Z0u),(12,Z0v)]
def Z4y:bc:=mT 201 [] true [.agg cy.sig,.one (.int .i64),.one (.int .u32)] [] (λa r=>IM (cy.of (aC a 0)) (aq a 1) (aq a 2)) (λX=>.dt [.agg (cy.fe (X.1) (.all 0) (.all 1) (.all 2)),.all 3]) (λX=>[⟨false,23,1,.ints .u32 (X.1).A0.Mem⟩,⟨false,103,4,.av .ab (X.1).C8⟩,⟨false,72,3,.av .bd (X.1).B0⟩,⟨false,137,4,.av .ay (X.2)⟩])
theorem Z02:bj pG Z4y:=oT (.cons Qyl (.cons Qt8 (.cons Z5t (.cons Z07 (.cons Zkf (.cons Qw (.cons Quo (.cons Qxo (.nil))))))))) Tryz.func201 Tryz.call201 [.row 23 1 (.ints .u32),.row 103 4 (.av .ab),.row 72 3 (.av .bd),.row 137 4 (.av .ay)] Qu4 3
