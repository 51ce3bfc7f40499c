import Derived.Test.YtaemmjbkndlkeaaGreatMigrateEndsFh
import Derived.Test.YtaemmjbkndlkeaaGreatMigrateEndsYx
open List renaming take->cU,drop->cV,length->dF,set->dB,getD->aV
open Int renaming toNat->dA,tmod->cZ
open UInt8 renaming toNat->iA
open Nat renaming blt->bN,beq->bX,lt_succ_self->cN
set_option maxRecDepth 100000
set_option linter.all false
namespace Go.Proofs.YtaemmjbkndlkeaaGreat
open Go Go.GD Go.IntKind
noncomputable section
def Ix(m:bg):Tree Bool:=
.an (Vk m) (.lv (AS m) λ(x0:Bool)=>.br x0 (.br (!m.B6) (.an (Qq9 m) (.lv (S7 m) λ(x1:Bool)=>.br (!x1) (.lf (decide (m.B7<1152921504606846976))) (.lf false))) (.lf false)) (.lf false))
def EE m:=(Ix m).m
abbrev Qqb m:=(Ix m).p
def Zab:bd:=mT 135 [] true [.agg bg.sig] [] (λa r=>Ix (bg.of (aC a 0))) (λX=>.bool X) (λX=>[])
theorem Z8w:bn pG Zab:=oT (.cons Quw (.cons Z6c (.nil))) Tryz.func135 Tryz.call135 [] [] 2
def Qjy(m:bg)(z:(Int)):Nat:=(5-z).toNat
def Q8(m:bg):Tree bg:=
let E1:=({B2:=m.B2,Mem:=m.Mem,B3:=m.B3,B9:=m.B9,B5:=m.B5,D1:=m.D1,A6:=m.A6,B7:=m.B7,B4:=false,B6:=m.B6}:bg);.br (bb u32 m.B2.C3.a0 (2:Int)==(0:Int)) (.lf (E1)) (.an (Qci E1) (.lv (Lv E1) λ(x0:Int)=>.lp inferInstance (Qjy m 0+1) ((rZ/\rZ/\rE (x0:Int)/\rE (0:Int)/\True)/\(rE m.B2.X.a0/\rE m.B2.X.a1/\rE m.B2.X.a2/\rE m.B2.X.a3/\rE m.B2.X.a4/\rE m.B2.X.a5/\rE m.B2.X.a6/\rE m.B2.X.a7/\rE m.B2.X.a8/\rE m.B2.X.a9/\rE m.B2.X.kz/\rE m.B2.X.kA/\rE m.B2.X.a12/\rE m.B2.X.kB/\rE m.B2.X.kC/\rE m.B2.X.kD/\rE m.B2.Pc/\rE m.B2.C3.a0/\rE m.B2.C3.a1/\rE m.B2.C3.a2/\rE m.B2.C3.a3/\rE m.B2.C3.a4/\rE m.B2.C3.a5/\rE m.B2.C3.a6/\rE m.B2.C3.a7/\((ai.Nil (ai.ints u32 m.Mem)\/rE (1:Nat))/\rE m.Mem)/\rE m.B3.E0/\rE m.B9.F1/\rE m.B9.D3/\rE m.B9.D9/\rE m.B5.ae/\rE m.B5.C8/\rE m.B5.Frame/\rE m.B5.C9/\rE m.B5.F6/\rE m.B5.C5/\rE m.B5.C6/\rE m.B5.C7/\rE m.D1.Frame/\rE m.D1.F7/\rE m.D1.D2/\rE m.D1.D4/\rE m.D1.C4/\rE m.D1.F8/\rE m.A6.A2/\rE m.A6.D0/\rE m.B7/\rE (false:Bool)/\rE m.B6/\True)/\(mE zM True True)/\True) 0 λ(v0:Int)=>.br (decide (v0<5)) (.cn (decide (0<=v0)) (.br (bb u32 x0 (eu u32 1 v0) !=0) (.lv (rb m.B2 (wrap i64 (16+v0)) 0) λ(x1:bu)=>.lf (Sum.inr {B2:=x1,Mem:=m.Mem,B3:=m.B3,B9:=m.B9,B5:=m.B5,D1:=m.D1,A6:=m.A6,B7:=m.B7,B4:=false,B6:=m.B6})) (.nx ((rZ/\rZ/\rE (x0:Int)/\rE ((wrap i64 (v0+1)):Int)/\True)/\(rE m.B2.X.a0/\rE m.B2.X.a1/\rE m.B2.X.a2/\rE m.B2.X.a3/\rE m.B2.X.a4/\rE m.B2.X.a5/\rE m.B2.X.a6/\rE m.B2.X.a7/\rE m.B2.X.a8/\rE m.B2.X.a9/\rE m.B2.X.kz/\rE m.B2.X.kA/\rE m.B2.X.a12/\rE m.B2.X.kB/\rE m.B2.X.kC/\rE m.B2.X.kD/\rE m.B2.Pc/\rE m.B2.C3.a0/\rE m.B2.C3.a1/\rE m.B2.C3.a2/\rE m.B2.C3.a3/\rE m.B2.C3.a4/\rE m.B2.C3.a5/\rE m.B2.C3.a6/\rE m.B2.C3.a7/\((ai.Nil (ai.ints u32 m.Mem)\/rE (1:Nat))/\rE m.Mem)/\rE m.B3.E0/\rE m.B9.F1/\rE m.B9.D3/\rE m.B9.D9/\rE m.B5.ae/\rE m.B5.C8/\rE m.B5.Frame/\rE m.B5.C9/\rE m.B5.F6/\rE m.B5.C5/\rE m.B5.C6/\rE m.B5.C7/\rE m.D1.Frame/\rE m.D1.F7/\rE m.D1.D2/\rE m.D1.D4/\rE m.D1.C4/\rE m.D1.F8/\rE m.A6.A2/\rE m.A6.D0/\rE m.B7/\rE (false:Bool)/\rE m.B6/\True)/\(mE zM True True)/\True) (Sum.inl (wrap i64 (v0+1)))))) (.lf (Sum.inr E1))))
def pd m:=(Q8 m).m
abbrev Qno m:=(Q8 m).p
def Z3:cg:={
 α:=(Int)
 F:=λst a=>([(1,.ptr 0 0 0),(2,.ptr 1 0 0),(3,(lk st 3)),(15,.int i64 a)],[⟨true,43,49,.gen [mB (cT st 1)]⟩,⟨true,43,49,.gen [mB (cT st 2)]⟩])
 a0:=λst=>(lk st 15).toInt
 jb:=λst=>[]++[(rX st 1 0),(rX st 2 1)]}
def Qys:List (Nat×cg):=[(6,Z3)]
def Z6v:bd:=bd.fz<|kU 136 [] false [.agg bg.sig] [] (λa r=>Qno (bg.of (aC a 0))) (λa r=>pd (bg.of (aC a 0))) (λX=>.agg (bg.cells X)) (λX=>[])
theorem Z2z:bn pG Z6v:=sZ<|tG drawn jz (.cons Qm7 (.cons RL (.nil))) Tryz.func136 Tryz.call136 (λa r=>Q8 (bg.of (aC a 0))) [.sl (.ints .u32) false] Qys 3 (λ_ _ _=>by kernel_rfl) (λ_ _=>rfl) (λ_ _ h=>h) (λh=>by cases h)
def Ir(c:iH)(port:Int):Tree (iH×Int):=
.br (port==0) (.br (decide (c.E0=[])) (.lf (c,4294967295)) (.cn (decide ((0:Int)<=(0:Int)/\0<(c.E0.length:Int))) (.cn (decide ((0:Int)<=(1:Int)/\1<=(c.E0.length:Int)/\(c.E0.length:Int)<=(c.E0.length:Int))) (.lf ({E0:=cU (dA (c.E0.length:Int)-dA 1) (cV (dA 1) c.E0)},wrap u32 (↑(iA (c.E0.getD (dA 0) (0:UInt8))):Int)))))) (.br (port==1) (.lf (c,wrap u32 (c.E0.length:Int))) (.lf (c,0)))
def XB c port:=(Ir c port).m
theorem Zb9(c:iH)(port:Int):(Ir c port).p:=by
 unfold Tree.p Ir
 repeat'(first|exact trivial|refine ab (λ_=>?_) (λ_=>?_)|refine ax ?_ ?_|refine c6 ?_ ?_|refine aq (λ_ _=>?_)|refine ei ?_|refine bj ?_|refine And.intro ?_ ?_)
 all_goals(exact nL)
def Zkp:bd:=mS 195 [] true [.agg iH.sig,.one (.int .i64)] [] (λa r=>Ir (iH.of (aC a 0)) (ar a 1)) (λX=>.dw [.agg (iH.cells (X.1)),.int .u32 (X.2)]) (λX=>[])
theorem Zg:bn pG Zkp:=oS (.nil) Tryz.func195 Tryz.call195 [] [] 2 (λ_ _ _=>by kernel_rfl) (λa r=>Zb9 (iH.of (aC a 0)) (ar a 1)) (λ_ X=>by kernel_rfl)
def S3(t:iV):Tree Int:=
.br t.D9 (.lf 1) (.lf 0)
def W4 t:=(S3 t).m
def Zsm:bd:=mS 196 [] true [.agg iV.sig] [] (λa r=>S3 (iV.of (aC a 0))) (λX=>.int .u32 X) (λX=>[])
theorem Zor:bn pG Zsm:=oS (.nil) Tryz.func196 Tryz.call196 [] [] 2
def S4(d0:fv)(port:Int):Tree Int:=
.br (port==4) (.lf d0.C8) (.br (port==5) (.lf d0.Frame) (.br (port==6) (.lf (wrap u32 d0.C9)) (.lf 0)))
def NQ d0 port:=(S4 d0 port).m
def yD:bd:=mS 197 [] true [.agg fv.sig,.one (.int .i64)] [] (λa r=>S4 (fv.of (aC a 0)) (ar a 1)) (λX=>.int .u32 X) (λX=>[])
theorem Ztx:bn pG yD:=oS (.nil) Tryz.func197 Tryz.call197 [] [] 2
def NR(n:gz)(port:Int):Tree Int:=
.br (port==7) (.lf n.Frame) (.br (port==8) (.lf n.F8) (.br (port==9) (.br n.D2 (.br n.C4 (.lf (wrap u32 (wrap u32 ((0:Int)+(1:Int))+2))) (.lf (wrap u32 ((0:Int)+(1:Int))))) (.br n.C4 (.lf (wrap u32 ((0:Int)+(2:Int)))) (.lf 0))) (.lf 0)))
def KQ n port:=(NR n port).m
def yX:bd:=mS 198 [] true [.agg gz.sig,.one (.int .i64)] [] (λa r=>NR (gz.of (aC a 0)) (ar a 1)) (λX=>.int .u32 X) (λX=>[])
theorem vD:bn pG yX:=oS (.nil) Tryz.func198 Tryz.call198 [] [] 2
def KR(b:gm)(port:Int):Tree Int:=
.br (port==10) (.lf b.A2) (.br (port==11) (.an (Qfl b) (.lv (Tv b) λ(x0:Int)=>.lf (wrap u32 x0))) (.lf 0))
def XM b port:=(KR b port).m
abbrev Qv7 b port:=(KR b port).p
def Zjo:bd:=mT 199 [] true [.agg gm.sig,.one (.int .i64)] [] (λa r=>KR (gm.of (aC a 0)) (ar a 1)) (λX=>.int .u32 X) (λX=>[])
theorem Zdv:bn pG Zjo:=oT (.cons Qq1 (.nil)) Tryz.func199 Tryz.call199 [] [] 2
def KP(m:bg)(port clock:Int):Tree (bg×Int):=
let T1:Tree ((bg×Int)):=.lv (XB m.B3 port) λ(x0:iH×Int)=>.lf ({B2:=m.B2,Mem:=m.Mem,B3:=x0.1,B9:=m.B9,B5:=m.B5,D1:=m.D1,A6:=m.A6,B7:=m.B7,B4:=m.B4,B6:=m.B6},x0.2);.br (port==0) T1 (.br (port==1) T1 (.br (port==2) (.lf (m,clock)) (.br (port==3) (.lv (W4 m.B9) λ(x2:Int)=>.lf (m,x2)) (.br (port==4) (.lv (NQ m.B5 port) λ(x3:Int)=>.lf (m,x3)) (.br (port==5) (.lv (NQ m.B5 port) λ(x4:Int)=>.lf (m,x4)) (.br (port==6) (.lv (NQ m.B5 port) λ(x5:Int)=>.lf (m,x5)) (.br (port==7) (.lv (KQ m.D1 port) λ(x6:Int)=>.lf (m,x6)) (.br (port==8) (.lv (KQ m.D1 port) λ(x7:Int)=>.lf (m,x7)) (.br (port==9) (.lv (KQ m.D1 port) λ(x8:Int)=>.lf (m,x8)) (let T2:Tree ((bg×Int)):=.an (Qv7 m.A6 port) (.lv (XM m.A6 port) λ(x9:Int)=>.lf (m,x9));.br (port==10) T2 (.br (port==11) T2 (.lf (m,0)))))))))))))
def uo m port clock:=(KP m port clock).m
abbrev Qi7 m port clock:=(KP m port clock).p
def Qxp:bd:=bd.fz<|kU 138 [] false [.agg bg.sig,.one (.int .i64),.one (.int .u32)] [] (λa r=>Qi7 (bg.of (aC a 0)) (ar a 1) (ar a 2)) (λa r=>uo (bg.of (aC a 0)) (ar a 1) (ar a 2)) (λX=>.dw [.agg (bg.cells (X.1)),.int .u32 (X.2)]) (λX=>[])
theorem Qw0:bn pG Qxp:=sZ<|tG drawn jz (.cons Zg (.cons Zor (.cons Ztx (.cons vD (.cons Zdv (.nil)))))) Tryz.func138 Tryz.call138 (λa r=>KP (bg.of (aC a 0)) (ar a 1) (ar a 2)) [.sl (.ints .u32) false] [] 2 (λ_ _ _=>by kernel_rfl) (λ_ _=>rfl) (λ_ _ h=>h) (λh=>by cases h)
def S0(t:iV)(deadline:Int):Tree iV:=
.lf ({F1:=deadline !=0,D3:=deadline,D9:=false})
def NM t deadline:=(S0 t deadline).m
def Zmd:bd:=mS 200 [] true [.agg iV.sig,.one (.int .u32)] [] (λa r=>S0 (iV.of (aC a 0)) (ar a 1)) (λX=>.agg (iV.cells X)) (λX=>[])
theorem Zm3:bn pG Zmd:=oS (.nil) Tryz.func200 Tryz.call200 [] [] 2
def Qj(m:List Int)(frame:Int):Tree Bool:=
.lv (jU m) λ(x0:Int)=>.lf (decide (wrap u64 frame<wrap u64 x0))
def NJ m frame:=(Qj m frame).m
def Zeb:bd:=mS 280 [] true [.one (.ints .u32),.one (.int .u32)] [] (λa r=>Qj (dh .u32 a 0) (ar a 1)) (λX=>.bool X) (λX=>[])
theorem Zal:bn pG Zeb:=oS (.cons Q2 (.nil)) Tryz.func280 Tryz.call280 [] [] 2
def KG(m:List Int)(frame:Int):Tree Bool:=
.br (decide (frame>=0)) (.lv (jU m) λ(x0:Int)=>.lf (decide (frame<x0))) (.lf false)
def Ev m frame:=(KG m frame).m
def Z3g:bd:=mS 145 [] true [.one (.ints .u32),.one (.int .i64)] [] (λa r=>KG (dh .u32 a 0) (ar a 1)) (λX=>.bool X) (λX=>[])
theorem Qny:bn pG Z3g:=oS (.cons Q2 (.nil)) Tryz.func145 Tryz.call145 [] [] 2
def Qqe(words:List Int)(z:(Int)×(List Int)):Prop:=0<=z.1/\z.1<=words.length/\(z.2.length:Int)=4*z.1
def NF(words:List Int)(z:(Int)×(List Int)):Nat:=(words.length-z.1).toNat
def Ey(words:List Int):Tree (List UInt8):=
.cn (bN 0 1&&bX 1 1&&List.all [D.int u8 0] D.plain&&decide ((0:Int)<=(0:Int)/\0<=wrap i64 (4*(words.length:Int))/\wrap i64 (4*(words.length:Int))<=9223372036854775807/\(↑1:Int)*wrap i64 (4*(words.length:Int))<=140737488355328)) (.lp inferInstance (NF words (0,[])+1) ((True/\((ai.Nil (ai.ints u32 words)\/rE (1:Nat))/\rE (words:List Int))/\rE ((words.length:Int):Int)/\rE (0:Int)/\True)/\rE ([]:List Int)/\True) (0,[]) λ(v0:Int×List Int)=>.br (decide (v0.1<(words.length:Int))) (.cn (bX 1 1&&bN 0 1&&decide (0<=v0.1/\v0.1<(words.length:Int))) (.cn (decide (1*(v0.2.length+4)<=140737488355328)) (let E1:=words.getD v0.1.toNat 0;.nx ((True/\((ai.Nil (ai.ints u32 words)\/rE (1:Nat))/\rE (words:List Int))/\rE ((words.length:Int):Int)/\rE ((wrap i64 (v0.1+1)):Int)/\True)/\rE ((v0.2++[wrap u8 (words.getD v0.1.toNat 0),wrap u8 (bc u32 (words.getD v0.1.toNat 0) 8),wrap u8 (bc u32 (words.getD v0.1.toNat 0) 16),wrap u8 (bc u32 (words.getD v0.1.toNat 0) 24)]):List Int)/\True) (Sum.inl (wrap i64 (v0.1+1),v0.2++[wrap u8 E1,wrap u8 (bc u32 E1 8),wrap u8 (bc u32 E1 16),wrap u8 (bc u32 E1 24)]))))) (.lf (Sum.inr (bytesOf v0.2))))
def Z6z words:=(Ey words).m
def Vs(words:List Int):Prop:=
words.length<=1000000000000
theorem Z80(words:List Int)(hw:Vs words):(Ey words).p:=by
 simp only[Vs]at hw
 unfold Tree.p Ey
 repeat'(first|refine fj (inv:=Qqe words) (μ:=NF words) ?_ (cN _) (λ_ _=>?_)|exact trivial|refine ab (λ_=>?_) (λ_=>?_)|refine ax ?_ ?_|refine c6 ?_ ?_|refine aq (λ_ _=>?_)|refine ei ?_|refine bj ?_|refine And.intro ?_ ?_)
 all_goals((try simp only[Qqe,NF]at*);exact nL)
def Zb4:cg:={
 α:=(Int)×(List Int)
 F:=λst a=>([(3,.all 0),(10,(lk st 10)),(11,(lk st 11)),(12,.int i64 a.1)],[⟨false,5,1,.ints u8 a.2⟩])
 a0:=λst=>((lk st 12).toInt,(nC st.rows (rN st 3)))
 jb:=λst=>[]++[(rX st 3 0)]}
def Z3v:List (Nat×cg):=[(3,Zb4)]
def Ze4:bd:=kU 146 [] true [.one (.ints .u32)] [] (λa r=>Vs (dh .u32 a 0)) (λa r=>Z6z (dh .u32 a 0)) (λX=>.str X) (λX=>[])
theorem Za6:bn pG Ze4:=tG drawn jz (.nil) Tryz.func146 Tryz.call146 (λa r=>Ey (dh .u32 a 0)) [] Z3v 3 (hp:=λa r h=>Z80 (dh .u32 a 0) h)
def DA(m:List Int)(frame:Int):Tree ((List UInt8)×Bool):=
.lv (Ev m frame) λ(x0:Bool)=>.br (!x0) (.lf ([],false)) (.cn (bX 1 1&&bN 0 1&&decide (0<=wrap i64 (frame*32)/\wrap i64 (frame*32)<=wrap i64 (wrap i64 (frame*32)+32)/\wrap i64 (wrap i64 (frame*32)+32)<=(m.length:Int))) (let E1:=cU (dA (wrap i64 (wrap i64 (frame*32)+32))-dA (wrap i64 (frame*32))) (cV (dA (wrap i64 (frame*32))) m);.an (Vs E1) (.lv (Z6z E1) λ(x1:List UInt8)=>.lf (x1,true))))
def jB m frame:=(DA m frame).m
abbrev Ox m frame:=(DA m frame).p
def Zh2:bd:=mT 99 [] true [.one (.ints .u32),.one (.int .i64)] [] (λa r=>DA (dh .u32 a 0) (ar a 1)) (λX=>.dw [.str (X.1),.bool (X.2)]) (λX=>[])
theorem RP:bn pG Zh2:=oT (.cons Qny (.cons Za6 (.nil))) Tryz.func99 Tryz.call99 [] [] 2
def Qv0(d0:fv)(gk:Int):Tree (iq×Bool):=
.br (d0.C9 !=1) (.lf ({C2:=0,At:=0,C8:=0,F2:=[]},false)) (.br (d0.F6==1) (.lf ({C2:=3,At:=gk,C8:=d0.C5,F2:=[]},true)) (.br (d0.F6==2) (.lf ({C2:=4,At:=gk,C8:=d0.C5,F2:=d0.C7},true)) (.lf ({C2:=0,At:=0,C8:=0,F2:=[]},false))))
def XG d0 gk:=(Qv0 d0 gk).m
def Zaq:bd:=mS 281 [] true [.agg fv.sig,.one (.int .u64)] [] (λa r=>Qv0 (fv.of (aC a 0)) (ar a 1)) (λX=>.dw [.agg (iq.cells (X.1)),.bool (X.2)]) (λX=>[])
theorem Z8c:bn pG Zaq:=oS (.nil) Tryz.func281 Tryz.call281 [] [] 2
def KI(d0:fv)(m:List Int)(cmd gk:Int):Tree (fv×(List iq)):=
.br (d0.C9 !=0) (.lf (d0,[])) (let T1:Tree ((fv×(List iq))):=.lf ({ae:=d0.ae,C8:=d0.C8,Frame:=d0.Frame,C9:=3,F6:=d0.F6,C5:=d0.C5,C6:=d0.C6,C7:=d0.C7},[]);.br (decide (d0.C8>=d0.ae)) T1 (.lv (NJ m d0.Frame) λ(x0:Bool)=>.br (!x0) T1 (.br (cmd==2) (.an (Ox m (wrap i64 d0.Frame)) (.lv (jB m (wrap i64 d0.Frame)) λ(x1:List UInt8×Bool)=>.lv (XG {ae:=d0.ae,C8:=d0.C8,Frame:=d0.Frame,C9:=1,F6:=cmd,C5:=d0.C8,C6:=d0.Frame,C7:=x1.1} gk) λ(x2:iq×Bool)=>.lf ({ae:=d0.ae,C8:=d0.C8,Frame:=d0.Frame,C9:=1,F6:=cmd,C5:=d0.C8,C6:=d0.Frame,C7:=x1.1},[x2.1]))) (.lv (XG {ae:=d0.ae,C8:=d0.C8,Frame:=d0.Frame,C9:=1,F6:=cmd,C5:=d0.C8,C6:=d0.Frame,C7:=[]} gk) λ(x3:iq×Bool)=>.lf ({ae:=d0.ae,C8:=d0.C8,Frame:=d0.Frame,C9:=1,F6:=cmd,C5:=d0.C8,C6:=d0.Frame,C7:=[]},[x3.1])))))
def Z16 d0 m cmd gk:=(KI d0 m cmd gk).m
abbrev Qur d0 m cmd gk:=(KI d0 m cmd gk).p
def Zky:bd:=mT 250 [] true [.agg fv.sig,.one (.ints .u32),.one (.int .i64),.one (.int .u64)] [] (λa r=>KI (fv.of (aC a 0)) (dh .u32 a 1) (ar a 2) (ar a 3)) (λX=>.dw [.agg (fv.cells (X.1)),.sl 4 (.ah .bw (X.2)) true]) (λX=>[])
theorem Zdw:bn pG Zky:=oT (.cons Zal (.cons RP (.cons Z8c (.nil)))) Tryz.func250 Tryz.call250 [.sl (.ah .bw) true] [] 2
def KJ(d0:fv)(m:List Int)(port v gk:Int):Tree (fv×(List iq)):=
.br (port==4) (.lf ({ae:=d0.ae,C8:=v,Frame:=d0.Frame,C9:=d0.C9,F6:=d0.F6,C5:=d0.C5,C6:=d0.C6,C7:=d0.C7},[])) (.br (port==5) (.lf ({ae:=d0.ae,C8:=d0.C8,Frame:=v,C9:=d0.C9,F6:=d0.F6,C5:=d0.C5,C6:=d0.C6,C7:=d0.C7},[])) (.br (port==6) (let T1:Tree ((fv×(List iq))):=.an (Qur d0 m (wrap i64 v) gk) (.lv (Z16 d0 m (wrap i64 v) gk) λ(x0:fv×List iq)=>.lf (x0.1,x0.2));.br (v==1) T1 (.br (v==2) T1 (.br (v==0) (.lv (KK d0) λ(x2:Bool)=>.br x2 (.lf ({ae:=d0.ae,C8:=d0.C8,Frame:=d0.Frame,C9:=0,F6:=d0.F6,C5:=d0.C5,C6:=d0.C6,C7:=d0.C7},[])) (.lf (d0,[]))) (.lf (d0,[]))))) (.lf (d0,[]))))
def XE d0 m port v gk:=(KJ d0 m port v gk).m
abbrev Z2o d0 m port v gk:=(KJ d0 m port v gk).p
def Zt2:bd:=mT 201 [] true [.agg fv.sig,.one (.ints .u32),.one (.int .i64),.one (.int .u32),.one (.int .u64)] [] (λa r=>KJ (fv.of (aC a 0)) (dh .u32 a 1) (ar a 2) (ar a 3) (ar a 4)) (λX=>.dw [.agg (fv.cells (X.1)),.sl 4 (.ah .bw (X.2)) true]) (λX=>[])
theorem Zo4:bn pG Zt2:=oT (.cons Zdw (.cons Qt0 (.nil))) Tryz.func201 Tryz.call201 [.sl (.ah .bw) true] [] 2
def SY(m:List Int)(frame:Int):Tree Bool:=
.lv (jU m) λ(x0:Int)=>.lf (decide (wrap u64 frame<wrap u64 x0))
def KH m frame:=(SY m frame).m
def Zks:bd:=mS 253 [] true [.one (.ints .u32),.one (.int .u32)] [] (λa r=>SY (dh .u32 a 0) (ar a 1)) (λX=>.bool X) (λX=>[])
theorem Qxw:bn pG Zks:=oS (.cons Q2 (.nil)) Tryz.func253 Tryz.call253 [] [] 2
def KL(n:gz)(m:List Int)(gk:Int):Tree (List iq):=
.br (decide (n.F7<1)) (.lf ([])) (.br (decide (n.F7>128)) (.lf ([])) (.lv (KH m n.Frame) λ(x0:Bool)=>.br (!x0) (.lf ([])) (.an (Ox m (wrap i64 n.Frame)) (.lv (jB m (wrap i64 n.Frame)) λ(x1:List UInt8×Bool)=>.cn (decide ((0:Int)<=(0:Int)/\0<=n.F7/\n.F7<=(x1.1.length:Int))) (.lf ([{C2:=2,At:=gk,C8:=0,F2:=cU (dA n.F7-dA 0) (cV (dA 0) x1.1)}]))))))
def Zh5 n m gk:=(KL n m gk).m
abbrev Z2u n m gk:=(KL n m gk).p
def Ztl:bd:=mT 252 [] true [.agg gz.sig,.one (.ints .u32),.one (.int .u64)] [] (λa r=>KL (gz.of (aC a 0)) (dh .u32 a 1) (ar a 2)) (λX=>.sl 4 (.ah .bw X) true) (λX=>[])
theorem Zmr:bn pG Ztl:=oT (.cons Qxw (.cons RP (.nil))) Tryz.func252 Tryz.call252 [.sl (.ah .bw) true] [] 2
def KM(n:gz)(m:List Int)(port v gk:Int):Tree (gz×(List iq)):=
.br (port==7) (.lf ({Frame:=v,F7:=n.F7,D2:=n.D2,D4:=n.D4,C4:=n.C4,F8:=n.F8},[])) (.br (port==8) (.lf ({Frame:=n.Frame,F7:=v,D2:=n.D2,D4:=n.D4,C4:=n.C4,F8:=n.F8},[])) (.br (port==9) (.br (v==1) (.an (Z2u n m gk) (.lv (Zh5 n m gk) λ(x0:List iq)=>.lf (n,x0))) (.br (v==2) (.lv (KH m n.Frame) λ(x1:Bool)=>.br x1 (.br (!n.D2) (.br (!n.C4) (.lf ({Frame:=n.Frame,F7:=n.F7,D2:=true,D4:=n.Frame,C4:=n.C4,F8:=n.F8},[])) (.lf (n,[]))) (.lf (n,[]))) (.lf (n,[]))) (.br (v==0) (.lf ({Frame:=n.Frame,F7:=n.F7,D2:=n.D2,D4:=n.D4,C4:=false,F8:=0},[])) (.lf (n,[]))))) (.lf (n,[]))))
def XI n m port v gk:=(KM n m port v gk).m
abbrev Z6f n m port v gk:=(KM n m port v gk).p
def qE:bd:=mT 202 [] true [.agg gz.sig,.one (.ints .u32),.one (.int .i64),.one (.int .u32),.one (.int .u64)] [] (λa r=>KM (gz.of (aC a 0)) (dh .u32 a 1) (ar a 2) (ar a 3) (ar a 4)) (λX=>.dw [.agg (gz.cells (X.1)),.sl 4 (.ah .bw (X.2)) true]) (λX=>[])
theorem Zsi:bn pG qE:=oT (.cons Zmr (.cons Qxw (.nil))) Tryz.func202 Tryz.call202 [.sl (.ah .bw) true] [] 2
def WY(m:List Int)(frame:Int)(s:List UInt8)(z:(Int)×(List Int)):Nat:=(32-z.1).toNat
def Im(m:List Int)(frame:Int)(s:List UInt8):Tree ((List Int)×Bool):=
.an (nP m) (.lv (kF m) λ(x0:List Int)=>.lv (Ev m frame) λ(x1:Bool)=>.br (!x1) (.lf (x0,false)) (.br ((s.length:Int) !=(128:Int)) (.lf (x0,false)) (.lp inferInstance (WY m frame s (0,x0)+1) ((rE (s:List UInt8)/\True/\rE ((wrap i64 (frame*32)):Int)/\rE (0:Int)/\True)/\rE (x0:List Int)/\True) (0,x0) λ(v0:Int×List Int)=>.br (decide (v0.1<32)) (.cn (decide (0<=wrap i64 (4*v0.1)/\wrap i64 (4*v0.1)<=wrap i64 (wrap i64 (4*v0.1)+4)/\wrap i64 (wrap i64 (4*v0.1)+4)<=(s.length:Int))) (let E1:=cU (dA (wrap i64 (wrap i64 (4*v0.1)+4))-dA (wrap i64 (4*v0.1))) (cV (dA (wrap i64 (4*v0.1))) s);.cn (decide ((0:Int)<=(0:Int)/\0<(↑(dF E1):Int))) (.cn (decide ((0:Int)<=(1:Int)/\1<(↑(dF E1):Int))) (.cn (decide ((0:Int)<=(2:Int)/\2<(↑(dF E1):Int))) (.cn (decide ((0:Int)<=(3:Int)/\3<(↑(dF E1):Int))) (.cn (bX 1 1&&bN 0 1&&decide (0<=wrap i64 (wrap i64 (frame*32)+v0.1)/\wrap i64 (wrap i64 (frame*32)+v0.1)<(v0.2.length:Int))) (.nx ((rE (s:List UInt8)/\True/\rE ((wrap i64 (frame*32)):Int)/\rE ((wrap i64 (v0.1+1)):Int)/\True)/\rE ((dB v0.2 (dA (wrap i64 (wrap i64 (frame*32)+v0.1))) (iM u32 (iM u32 (iM u32 (wrap u32 (↑(iA (aV (cU (dA (wrap i64 (wrap i64 (4*v0.1)+4))-dA (wrap i64 (4*v0.1))) (cV (dA (wrap i64 (4*v0.1))) s)) (dA 0) (0:UInt8))):Int)) (eu u32 (wrap u32 (↑(iA (aV (cU (dA (wrap i64 (wrap i64 (4*v0.1)+4))-dA (wrap i64 (4*v0.1))) (cV (dA (wrap i64 (4*v0.1))) s)) (dA 1) (0:UInt8))):Int)) 8)) (eu u32 (wrap u32 (↑(iA (aV (cU (dA (wrap i64 (wrap i64 (4*v0.1)+4))-dA (wrap i64 (4*v0.1))) (cV (dA (wrap i64 (4*v0.1))) s)) (dA 2) (0:UInt8))):Int)) 16)) (eu u32 (wrap u32 (↑(iA (aV (cU (dA (wrap i64 (wrap i64 (4*v0.1)+4))-dA (wrap i64 (4*v0.1))) (cV (dA (wrap i64 (4*v0.1))) s)) (dA 3) (0:UInt8))):Int)) 24))):List Int)/\True) (Sum.inl (wrap i64 (v0.1+1),dB v0.2 (dA (wrap i64 (wrap i64 (frame*32)+v0.1))) (iM u32 (iM u32 (iM u32 (wrap u32 (↑(iA (aV E1 (dA 0) (0:UInt8))):Int)) (eu u32 (wrap u32 (↑(iA (aV E1 (dA 1) (0:UInt8))):Int)) 8)) (eu u32 (wrap u32 (↑(iA (aV E1 (dA 2) (0:UInt8))):Int)) 16)) (eu u32 (wrap u32 (↑(iA (aV E1 (dA 3) (0:UInt8))):Int)) 24))))))))))) (.lf (Sum.inr (v0.2,true))))))
def rL m frame s:=(Im m frame s).m
abbrev TW m frame s:=(Im m frame s).p
def Qzm:cg:={
 α:=(Int)×(List Int)
 F:=λst a=>([(2,(lk st 2)),(8,.all 0),(9,(lk st 9)),(26,.int i64 a.1)],[⟨false,25,1,.ints u32 a.2⟩])
 a0:=λst=>((lk st 26).toInt,(nC st.rows (rN st 8)))
 jb:=λst=>[]++[(rX st 8 0)]}
def Qvl:List (Nat×cg):=[(6,Qzm)]
def Z3q:bd:=mT 205 [] true [.one (.ints .u32),.one (.int .i64),.one (.str)] [] (λa r=>Im (dh .u32 a 0) (ar a 1) (jH a 2)) (λX=>.dw [.all 0,.bool (X.2)]) (λX=>[⟨false,25,1,.ints .u32 (X.1)⟩])
theorem Qmz:bn pG Z3q:=oT (.cons JR (.cons Qny (.nil))) Tryz.func205 Tryz.call205 [.row 25 1 (.ints .u32)] Qvl 3
def strings_Repeat(s:List UInt8)(count:Int):(List UInt8):=
Lib.repeatL s count.toNat
def Qej(s:List UInt8)(count:Int):Prop:=
0<=count/\count<=9223372036854775807/\s.length*count.toNat<=140737488355328
def Qk2(s:List UInt8)(count:Int):List D:=[.str s,.int .i64 count]
def Qkz(s:List UInt8)(count:Int):List Row:=[]
def Qef(X:List UInt8):D:=.str X
def Qeh(X:List UInt8):List Row:=[]
def Qmb:List PT:=[.one (.str),.one (.int .i64)]
def Qkq:List RT:=[]
def Qwm(args:List D)(rows:List Row):(List UInt8):=strings_Repeat (jH args 0) (ar args 1)
def Qyb(args:List D)(rows:List Row):Prop:=Qej (jH args 0) (ar args 1)
def Z3i:bd:=kU 254 [] true Qmb Qkq Qyb Qwm Qef Qeh
theorem Quj(s:List UInt8)(count:Int)(hw:Qej s count):ku pG 254 (Qk2 s count) (Qkz s count) (Qef (strings_Repeat s count)) (Qeh (strings_Repeat s count)):=by
 exact zd Tryz.strings_Repeat hw.1 hw.2.1 hw.2.2
set_option maxRecDepth 100000 in
theorem Qvn(args:List D)(rows:List Row):kW Qmb args 0=Qk2 (jH args 0) (ar args 1):=by kernel_rfl
set_option maxRecDepth 100000 in
theorem Qui(args:List D)(rows:List Row):kv Qkq rows 0=Qkz (jH args 0) (ar args 1):=by kernel_rfl
set_option maxRecDepth 100000 in
theorem Z0l(X:List UInt8):(tj (Qef X)&&jy (Qeh X))=true:=by kernel_rfl
theorem Qz7:bn pG Z3i:=FE Tryz.call254 (λargs rows hp=>by rw[Qvn args rows,Qui args rows];exact Quj (jH args 0) (ar args 1) hp) (λ_ X=>Z0l X)
def DD(b:gm)(m:List Int)(port v:Int):Tree (gm×(List Int)):=
let T1:Tree ((gm×(List Int))):=.an (nP m) (.lv (kF m) λ(x0:List Int)=>.lf (b,x0));.br (decide (v>=32)) T1 (.cn (decide (0<=v)) (.br (port==10) (.lv (jU m) λ(x1:Int)=>.br (decide (wrap i64 v<x1)) (.br (bb u32 b.D0 (eu u32 1 v)==0) (.an (Qej [(0:UInt8)] 128) (.lv (strings_Repeat [(0:UInt8)] 128) λ(x2:List UInt8)=>.an (TW m (wrap i64 v) x2) (.lv (rL m (wrap i64 v) x2) λ(x3:List Int×Bool)=>.lf ({A2:=b.A2,D0:=iM u32 b.D0 (eu u32 1 v)},x3.1)))) T1) T1) (.br (port==11) (.an (nP m) (.lv (kF m) λ(x6:List Int)=>.lf ({A2:=b.A2,D0:=oJ u32 b.D0 (eu u32 1 v)},x6))) T1)))
def GJ b m port v:=(DD b m port v).m
abbrev Qrl b m port v:=(DD b m port v).p
def Zej:bd:=mT 203 [] true [.agg gm.sig,.one (.ints .u32),.one (.int .i64),.one (.int .u32)] [] (λa r=>DD (gm.of (aC a 0)) (dh .u32 a 1) (ar a 2) (ar a 3)) (λX=>.dw [.agg (gm.cells (X.1)),.all 0]) (λX=>[⟨false,25,1,.ints .u32 (X.2)⟩])
theorem Zaw:bn pG Zej:=oT (.cons JR (.cons Q2 (.cons Qmz (.cons Qz7 (.nil))))) Tryz.func203 Tryz.call203 [.row 25 1 (.ints .u32)] [] 2
def KO(m:bg)(port v gk:Int):Tree (bg×(List iq)):=
.br (port==0) (.lf (m,[{C2:=1,At:=gk,C8:=0,F2:=[(λ(n:Int)=>UInt8.ofNat n.toNat) (wrap u8 v)]}])) (.br (port==3) (.lv (NM m.B9 v) λ(x0:iV)=>.lf ({B2:=m.B2,Mem:=m.Mem,B3:=m.B3,B9:=x0,B5:=m.B5,D1:=m.D1,A6:=m.A6,B7:=m.B7,B4:=m.B4,B6:=m.B6},[])) (let T1:Tree ((bg×(List iq))):=.an (Z2o m.B5 m.Mem port v gk) (.lv (XE m.B5 m.Mem port v gk) λ(x1:fv×List iq)=>.lf ({B2:=m.B2,Mem:=m.Mem,B3:=m.B3,B9:=m.B9,B5:=x1.1,D1:=m.D1,A6:=m.A6,B7:=m.B7,B4:=m.B4,B6:=m.B6},x1.2));.br (port==4) T1 (.br (port==5) T1 (.br (port==6) T1 (let T2:Tree ((bg×(List iq))):=.an (Z6f m.D1 m.Mem port v gk) (.lv (XI m.D1 m.Mem port v gk) λ(x4:gz×List iq)=>.lf ({B2:=m.B2,Mem:=m.Mem,B3:=m.B3,B9:=m.B9,B5:=m.B5,D1:=x4.1,A6:=m.A6,B7:=m.B7,B4:=m.B4,B6:=m.B6},x4.2));.br (port==7) T2 (.br (port==8) T2 (.br (port==9) T2 (let T3:Tree ((bg×(List iq))):=.an (Qrl m.A6 m.Mem port v) (.lv (GJ m.A6 m.Mem port v) λ(x7:gm×List Int)=>.lf ({B2:=m.B2,Mem:=x7.2,B3:=m.B3,B9:=m.B9,B5:=m.B5,D1:=m.D1,A6:=x7.1,B7:=m.B7,B4:=m.B4,B6:=m.B6},[]));.br (port==10) T3 (.br (port==11) T3 (.lf (m,[])))))))))))
def EK m port v gk:=(KO m port v gk).m
abbrev Qgs m port v gk:=(KO m port v gk).p
def Qwf:bd:=bd.fz<|kU 139 [] false [.agg bg.sig,.one (.int .i64),.one (.int .u32),.one (.int .u64)] [] (λa r=>Qgs (bg.of (aC a 0)) (ar a 1) (ar a 2) (ar a 3)) (λa r=>EK (bg.of (aC a 0)) (ar a 1) (ar a 2) (ar a 3)) (λX=>.dw [.agg (bg.cells (X.1)),.sl 4 (.ah .bw (X.2)) true]) (λX=>[])
theorem Quk:bn pG Qwf:=sZ<|tG drawn jz (.cons Zm3 (.cons Zo4 (.cons Zsi (.cons Zaw (.nil))))) Tryz.func139 Tryz.call139 (λa r=>KO (bg.of (aC a 0)) (ar a 1) (ar a 2) (ar a 3)) [.sl (.ints .u32) false,.sl (.ah .bw) true] [] 2 (λ_ _ _=>by kernel_rfl) (λ_ _=>rfl) (λ_ _ h=>h) (λh=>by cases h)
def NU(m:bg)(clock:Int):Tree (bg×(List iq)):=
.an (nP m.Mem) (.lv (kF m.Mem) λ(x0:List Int)=>let E1:=({B2:=m.B2,Mem:=x0,B3:=m.B3,B9:=m.B9,B5:=m.B5,D1:=m.D1,A6:=m.A6,B7:=m.B7,B4:=m.B4,B6:=m.B6}:bg);.an (Qqb E1) (.lv (EE E1) λ(x1:Bool)=>.br (!x1) (.lf (E1,[])) (.an (Qno E1) (.lv (pd E1) λ(x2:bg)=>.an (Z1q x2.B2 x2.Mem) (.lv (Cd x2.B2 x2.Mem) λ(x3:bu×List Int×ly)=>let E2:=({B2:=x3.1,Mem:=x3.2.1,B3:=x2.B3,B9:=x2.B9,B5:=x2.B5,D1:=x2.D1,A6:=x2.A6,B7:=x2.B7,B4:=x2.B4,B6:=x2.B6}:bg);.br (x3.2.2.C2==1) (.an (Qi7 E2 x3.2.2.F0 clock) (.lv (uo E2 x3.2.2.F0 clock) λ(x4:bg×Int)=>.br (x3.2.2.F9 !=0) (.cn (bN 0 1&&decide (0<=x3.2.2.F9/\x3.2.2.F9<(↑16:Int))) (.lf ({B2:={X:=ir.of 0 (dB (ir.l x4.1.B2.X) x3.2.2.F9.toNat x4.2),Pc:=x4.1.B2.Pc,C3:=x4.1.B2.C3},Mem:=x4.1.Mem,B3:=x4.1.B3,B9:=x4.1.B9,B5:=x4.1.B5,D1:=x4.1.D1,A6:=x4.1.A6,B7:=wrap u64 (x4.1.B7+1),B4:=x4.1.B4,B6:=x4.1.B6},[]))) (.lf ({B2:=x4.1.B2,Mem:=x4.1.Mem,B3:=x4.1.B3,B9:=x4.1.B9,B5:=x4.1.B5,D1:=x4.1.D1,A6:=x4.1.A6,B7:=wrap u64 (x4.1.B7+1),B4:=x4.1.B4,B6:=x4.1.B6},[])))) (.br (x3.2.2.C2==2) (.an (Qgs E2 x3.2.2.F0 x3.2.2.Value m.B7) (.lv (EK E2 x3.2.2.F0 x3.2.2.Value m.B7) λ(x5:bg×List iq)=>.lf ({B2:=x5.1.B2,Mem:=x5.1.Mem,B3:=x5.1.B3,B9:=x5.1.B9,B5:=x5.1.B5,D1:=x5.1.D1,A6:=x5.1.A6,B7:=wrap u64 (x5.1.B7+1),B4:=x5.1.B4,B6:=x5.1.B6},x5.2))) (.br (x3.2.2.C2==3) (.lf ({B2:=x3.1,Mem:=x3.2.1,B3:=x2.B3,B9:=x2.B9,B5:=x2.B5,D1:=x2.D1,A6:=x2.A6,B7:=wrap u64 (x2.B7+1),B4:=true,B6:=x2.B6},[])) (.br (x3.2.2.C2==4) (.lf ({B2:=x3.1,Mem:=x3.2.1,B3:=x2.B3,B9:=x2.B9,B5:=x2.B5,D1:=x2.D1,A6:=x2.A6,B7:=wrap u64 (x2.B7+1),B4:=x2.B4,B6:=true},[])) (.lf ({B2:=x3.1,Mem:=x3.2.1,B3:=x2.B3,B9:=x2.B9,B5:=x2.B5,D1:=x2.D1,A6:=x2.A6,B7:=wrap u64 (x2.B7+1),B4:=x2.B4,B6:=x2.B6},[]))))))))))
def Ba m clock:=(NU m clock).m
abbrev TR m clock:=(NU m clock).p
def Zax:bd:=bd.fz<|kU 92 [] false [.agg bg.sig,.one (.int .u32)] [] (λa r=>TR (bg.of (aC a 0)) (ar a 1)) (λa r=>Ba (bg.of (aC a 0)) (ar a 1)) (λX=>.dw [.agg (bg.cells (X.1)),.sl 4 (.ah .bw (X.2)) false]) (λX=>[])
theorem Z4t:bn pG Zax:=sZ<|tG drawn jz (.cons JR (.cons Z8w (.cons Z2z (.cons Zoe (.cons Qw0 (.cons Quk (.nil))))))) Tryz.func92 Tryz.call92 (λa r=>NU (bg.of (aC a 0)) (ar a 1)) [.sl (.ints .u32) false,.sl (.ah .bw) false] [] 2 (λ_ _ _=>by kernel_rfl) (λ_ _=>rfl) (λ_ _ h=>h) (λh=>by cases h)
end
noncomputable section
def Z5x(op:Int):Tree Int:=
let T1:Tree (Int):=.br (op==49) (.lf 3) (let T2:Tree (Int):=.br (op==24) (.lf 6) (.br (op==48) (.lf 7) (.br (op==58) (.lf 8) (.br (op==59) (.lf 8) (.br (op==60) (.lf 9) (.br (op==61) (.lf 9) (.br (op==56) (.lf 1) (.br (op==57) (.lf 1) (.br (decide (op>=62)) (.br (decide (op<=64)) (.lf 1) (.lf 0)) (.lf 0)))))))));.br (decide (op>=17)) (.br (decide (op<=19)) (.lf 4) (.br (decide (op>=20)) (.br (decide (op<=22)) (.lf 5) T2) T2)) (.br (decide (op>=20)) (.br (decide (op<=22)) (.lf 5) T2) T2));let T3:Tree (Int):=.br (op==16) (.lf 3) (.br (op==23) (.lf 3) (.br (decide (op>=32)) (.br (decide (op<=36)) (.lf 3) (.br (decide (op>=40)) (.br (decide (op<=45)) (.lf 3) T1) T1)) (.br (decide (op>=40)) (.br (decide (op<=45)) (.lf 3) T1) T1)));.br (decide (op>=1)) (.br (decide (op<=13)) (.lf 2) T3) T3
def oK op:=(Z5x op).m
def Zp3:bd:=mS 178 [] true [.one (.int .i64)] [] (λa r=>Z5x (ar a 0)) (λX=>.int .i64 X) (λX=>[])
theorem RQ:bn pG Zp3:=oS (.nil) Tryz.func178 Tryz.call178 [] [] 2
def Tb(r:Int):Tree Bool:=
.br (decide (r>=0)) (.lf (decide (r<=15))) (.lf false)
def KY r:=(Tb r).m
def Z6d:bd:=mS 233 [] true [.one (.int .i64)] [] (λa r=>Tb (ar a 0)) (λX=>.bool X) (λX=>[])
theorem Z3k:bn pG Z6d:=oS (.nil) Tryz.func233 Tryz.call233 [] [] 2
def Xe(f:Int):Tree (Int×Int):=
.br (f==3) (.lf ((-32768),32767)) (.br (f==7) (.lf ((-32768),32767)) (.br (f==4) (.lf (0,65535)) (.br (f==6) (.lf (0,65535)) (.br (f==5) (.lf (0,31)) (.br (f==8) (.lf (0,7)) (.br (f==9) (.lf (0,11)) (.lf (0,0))))))))
def Xd f:=(Xe f).m
def Zfl:bd:=mS 179 [] true [.one (.int .i64)] [] (λa r=>Xe (ar a 0)) (λX=>.dw [.int .i64 (X.1),.int .i64 (X.2)]) (λX=>[])
theorem Qus:bn pG Zfl:=oS (.nil) Tryz.func179 Tryz.call179 [] [] 2
def NY(i:ib):Tree Bool:=
.lv (oK i.Op) λ(x0:Int)=>.br (x0==0) (.lf false) (.lv (KY i.A) λ(x1:Bool)=>.br (!x1) (.lf false) (.lv (KY i.B) λ(x2:Bool)=>.br (!x2) (.lf false) (.lv (KY i.C) λ(x3:Bool)=>.br (!x3) (.lf false) (.lv (Xd x0) λ(x4:Int×Int)=>.br (decide (wrap i64 i.cf<x4.1)) (.lf false) (.br (decide (wrap i64 i.cf>x4.2)) (.lf false) (let T1:Tree (Bool):=.br (x0==1) (.br (i.A !=0) (.lf false) (.br (i.B==0) (.lf true) (.br (decide (x0>=2)) (.lf (decide (x0<=5))) (.lf false)))) (.br (i.B==0) (.lf true) (.br (decide (x0>=2)) (.lf (decide (x0<=5))) (.lf false)));.br (x0 !=2) (.br (i.C !=0) (.lf false) T1) T1))))))
def EG i:=(NY i).m
def Zke:bd:=mS 177 [] true [.agg ib.sig] [] (λa r=>NY (ib.of (aC a 0))) (λX=>.bool X) (λX=>[])
theorem Qym:bn pG Zke:=oS (.cons RQ (.cons Z3k (.cons Qus (.nil)))) Tryz.func177 Tryz.call177 [] [] 2
def SR(i:ib):Tree (Int×Bool):=
.lv (EG i) λ(x0:Bool)=>.br (!x0) (.lf (0,false)) (.lf (iM u32 (iM u32 (iM u32 (iM u32 (eu u32 (wrap u32 i.Op) 24) (eu u32 (wrap u32 i.A) 20)) (eu u32 (wrap u32 i.B) 16)) (bb u32 (wrap u32 i.cf) 65535)) (wrap u32 i.C),true))
def oI i:=(SR i).m
def Zga:bd:=mS 125 [] true [.agg ib.sig] [] (λa r=>SR (ib.of (aC a 0))) (λX=>.dw [.int .u32 (X.1),.bool (X.2)]) (λX=>[])
theorem Qmv:bn pG Zga:=oS (.cons Qym (.nil)) Tryz.func125 Tryz.call125 [] [] 2
def Zdl:Tree (List Int):=
.lf ([1,2,3,4,5,6,7,8,9,10,11,12,13,16,16,17,18,19,20,21,22,23,24,24,32,32,33,34,35,35,36,40,41,42,43,44,45,48,49,56,57,58,59,60,60,61,61,62,63,64])
def Zf3:(List Int):=(Zdl).m
def Ztg:bd:=mS 180 [] true [] [] (λa r=>Zdl) (λX=>.sl 1 (.ints .i64 X) true) (λX=>[])
theorem Zma:bn pG Ztg:=oS (.nil) Tryz.func180 Tryz.call180 [.sl (.ints .i64) true] [] 2
def Z5f(Dp:Int):Tree (Int×Int):=
let E1:=wrap u64 (rD u64 (wrap u64 (Dp+11400714819323198485)) (bc u64 (wrap u64 (Dp+11400714819323198485)) 30)*13787848793156543929);let E2:=wrap u64 (rD u64 E1 (bc u64 E1 27)*10723151780598845931);.lf (rD u64 E2 (bc u64 E2 31),wrap u64 (Dp+11400714819323198485))
def Zia Dp:=(Z5f Dp).m
def Zp2:bd:=mS 89 [] true [.one (.int .u64)] [] (λa r=>Z5f (ar a 0)) (λX=>.dw [.int .u64 (X.1),.int .u64 (X.2)]) (λX=>[])
theorem Zlt:bn pG Zp2:=oS (.nil) Tryz.func89 Tryz.call89 [] [] 2
def Uj(n k:Int):Tree Int:=
.lv (Zia (rD u64 (wrap u64 n) (wrap u64 (wrap u64 k*11400714819323198485)))) λ(x0:Int×Int)=>.lf (wrap i64 (bc u64 x0.1 1))
def Ui n k:=(Uj n k).m
def Zsj:bd:=mS 42 [] true [.one (.int .i64),.one (.int .i64)] [] (λa r=>Uj (ar a 0) (ar a 1)) (λX=>.int .i64 X) (λX=>[])
theorem Qvo:bn pG Zsj:=oS (.cons Zlt (.nil)) Tryz.func42 Tryz.call42 [] [] 2
def Qsi(n k:Int):Tree Int:=
.cn (decide (k≠0)) (.br (decide (cZ n k<0)) (.lf (wrap i64 (cZ n k+k))) (.lf (cZ n k)))
def Q9 n k:=(Qsi n k).m
abbrev JN n k:=(Qsi n k).p
def Zho:bd:=mT 28 [] true [.one (.int .i64),.one (.int .i64)] [] (λa r=>Qsi (ar a 0) (ar a 1)) (λX=>.int .i64 X) (λX=>[])
theorem Qyu:bn pG Zho:=oT (.nil) Tryz.func28 Tryz.call28 [] [] 2
def Vj(n:Int):Tree ib:=
.lv Zf3 λ(x0:List Int)=>.lv (Ui n 1) λ(x1:Int)=>.an (JN x1 (x0.length:Int)) (.lv (Q9 x1 (x0.length:Int)) λ(x2:Int)=>.cn (bX 1 1&&bN 0 1&&decide (0<=x2/\x2<(x0.length:Int))) (.an (JN (bc i64 x1 8) 6) (.lv (Q9 (bc i64 x1 8) 6) λ(x3:Int)=>.an (JN (bc i64 x1 12) 6) (.lv (Q9 (bc i64 x1 12) 6) λ(x4:Int)=>.an (JN (bc i64 x1 16) 6) (.lv (Q9 (bc i64 x1 16) 6) λ(x5:Int)=>.an (JN (bc i64 x1 20) 24) (.lv (Q9 (bc i64 x1 20) 24) λ(x6:Int)=>.br (decide (x0.getD x2.toNat (0:Int)<=(13:Int))) (.lf ({Op:=x0.getD x2.toNat 0,A:=x3,B:=x4,C:=x5,cf:=0})) (let E4:=({Op:=x0.getD x2.toNat 0,A:=x3,B:=x4,C:=0,cf:=wrap i32 (wrap i64 (wrap i64 (8*x6)-32))}:ib);let T1:Tree (ib):=.br (x0.getD x2.toNat (0:Int)==(49:Int)) (.lf (E4)) (.br (x0.getD x2.toNat (0:Int)==(24:Int)) (.lf ({Op:=x0.getD x2.toNat 0,A:=x3,B:=0,C:=0,cf:=wrap i32 (wrap i64 (x6*bb i64 (bc i64 x1 40) 1))})) (let T2:Tree (ib):=let E6:=({Op:=x0.getD x2.toNat 0,A:=x3,B:=0,C:=0,cf:=wrap i32 (cZ x6 8)}:ib);.br (x0.getD x2.toNat (0:Int)==(58:Int)) (.lf (E6)) (.br (x0.getD x2.toNat (0:Int)==(59:Int)) (.lf (E6)) (let E5:=({Op:=x0.getD x2.toNat 0,A:=x3,B:=0,C:=0,cf:=wrap i32 (cZ x6 12)}:ib);.br (x0.getD x2.toNat (0:Int)==(60:Int)) (.lf (E5)) (.br (x0.getD x2.toNat (0:Int)==(61:Int)) (.lf (E5)) (.lf ({Op:=x0.getD x2.toNat 0,A:=0,B:=0,C:=0,cf:=0})))));.br (decide (x0.getD x2.toNat (0:Int)>=(17:Int))) (.br (decide (x0.getD x2.toNat (0:Int)<=(22:Int))) (.lf ({Op:=x0.getD x2.toNat 0,A:=x3,B:=x4,C:=0,cf:=wrap i32 x6})) T2) T2));let T3:Tree (ib):=.br (x0.getD x2.toNat (0:Int)==(16:Int)) (.lf (E4)) (.br (x0.getD x2.toNat (0:Int)==(23:Int)) (.lf (E4)) (.br (decide (x0.getD x2.toNat (0:Int)>=(32:Int))) (.br (decide (x0.getD x2.toNat (0:Int)<=(36:Int))) (.lf (E4)) T1) T1));.br (decide (x0.getD x2.toNat (0:Int)>=(40:Int))) (.br (decide (x0.getD x2.toNat (0:Int)<=(48:Int))) (.br (x0.getD x2.toNat (0:Int)==(48:Int)) (.lf ({Op:=x0.getD x2.toNat 0,A:=x3,B:=0,C:=0,cf:=wrap i32 (wrap i64 (x6-12))})) (.lf ({Op:=x0.getD x2.toNat 0,A:=x3,B:=x4,C:=0,cf:=wrap i32 (wrap i64 (x6-12))}))) T3) T3)))))))
def Zi3 n:=(Vj n).m
abbrev Qii n:=(Vj n).p
def Zn6:bd:=mT 127 [] true [.one (.int .i64)] [] (λa r=>Vj (ar a 0)) (λX=>.agg (ib.cells X)) (λX=>[])
theorem Zl7:bn pG Zn6:=oT (.cons Zma (.cons Qvo (.cons Qyu (.nil)))) Tryz.func127 Tryz.call127 [] [] 2
def Qv9(l:List Int)(z:(Int)×(List Int)):Prop:=0<=z.1/\z.1<=l.length/\(z.2.length:Int)=z.1
def SS(l:List Int)(z:(Int)×(List Int)):Nat:=(l.length-z.1).toNat
def Ni(l:List Int):Tree (List Int):=
.lp inferInstance (SS l (0,[])+1) ((((ai.Nil (ai.ints i64 l)\/rE (1:Nat))/\rE (l:List Int))/\True/\rE (0:Int)/\True)/\rE ([]:List Int)/\True) (0,[]) λ(v0:Int×List Int)=>.br (decide (v0.1<(l.length:Int))) (let E1:=bX 1 1&&bN 0 1&&decide (0<=v0.1/\v0.1<(l.length:Int));.cn E1 (let E2:=decide (4*(v0.2.length+1)<=140737488355328);.br (cZ (l.getD v0.1.toNat 0) (17:Int)==(0:Int)) (.cn E1 (.cn E2 (.nx ((((ai.Nil (ai.ints i64 l)\/rE (1:Nat))/\rE (l:List Int))/\True/\rE ((wrap i64 (v0.1+1)):Int)/\True)/\rE ((v0.2++[wrap u32 (bb i64 (l.getD v0.1.toNat 0) 4294967295)]):List Int)/\True) (Sum.inl (wrap i64 (v0.1+1),v0.2++[wrap u32 (bb i64 (l.getD v0.1.toNat 0) 4294967295)]))))) (.cn E1 (.an (Qii (l.getD v0.1.toNat 0)) (.lv (Zi3 (l.getD v0.1.toNat 0)) λ(x0:ib)=>.lv (oI x0) λ(x1:Int×Bool)=>.cn E2 (.nx ((((ai.Nil (ai.ints i64 l)\/rE (1:Nat))/\rE (l:List Int))/\True/\rE ((wrap i64 (v0.1+1)):Int)/\True)/\rE ((v0.2++[x1.1]):List Int)/\True) (Sum.inl (wrap i64 (v0.1+1),v0.2++[x1.1])))))))) (.lf (Sum.inr v0.2))
def TQ l:=(Ni l).m
abbrev Qp6 l:=(Ni l).p
def Zlb:cg:={
 α:=(Int)×(List Int)
 F:=λst a=>([(0,(lk st 0)),(3,.all 0),(4,.int i64 a.1)],[⟨false,25,1,.ints u32 a.2⟩])
 a0:=λst=>((lk st 4).toInt,(nC st.rows (rN st 3)))
 jb:=λst=>[]++[(rX st 3 0)]}
def Z9h:List (Nat×cg):=[(3,Zlb)]
def Zn1:bd:=mT 78 [] true [.one (.ints .i64)] [] (λa r=>Ni (dh .i64 a 0)) (λX=>.all 0) (λX=>[⟨false,25,1,.ints .u32 X⟩])
theorem Zkw:bn pG Zn1:=oT (.cons Qmv (.cons Zl7 (.nil))) Tryz.func78 Tryz.call78 [.row 25 1 (.ints .u32)] Z9h 3
def SW(pc:Int):Tree bu:=
.lf ({X:={a0:=0,a1:=0,a2:=0,a3:=0,a4:=0,a5:=0,a6:=0,a7:=0,a8:=0,a9:=0,kz:=0,kA:=0,a12:=0,kB:=0,kC:=0,kD:=0},Pc:=pc,C3:={a0:=1,a1:=0,a2:=0,a3:=0,a4:=0,a5:=0,a6:=0,a7:=0}})
def WS pc:=(SW pc).m
def Zkx:bd:=mS 128 [] true [.one (.int .u32)] [] (λa r=>SW (ar a 0)) (λX=>.agg (bu.cells X)) (λX=>[])
theorem Ze0:bn pG Zkx:=oS (.nil) Tryz.func128 Tryz.call128 [] [] 2
def RC(bm:Int):Tree (List Int):=
.br (decide (bm<1)) (.lf ([])) (.br (decide (bm>32)) (.lf ([])) (.cn (bN 0 1&&bX 1 1&&List.all [D.int u32 0] D.plain&&decide (0<=wrap i64 (bm*32)/\wrap i64 (bm*32)<=wrap i64 (bm*32)/\wrap i64 (bm*32)<=9223372036854775807/\(↑4:Int)*wrap i64 (bm*32)<=140737488355328)) (.lf (List.replicate (dA (wrap i64 (bm*32))) 0))))
def SX bm:=(RC bm).m
abbrev Qm3 bm:=(RC bm).p
def Zsu:bd:=mT 38 [] true [.one (.int .i64)] [] (λa r=>RC (ar a 0)) (λX=>.all 0) (λX=>[⟨false,25,1,.ints .u32 X⟩])
theorem Zmc:bn pG Zsu:=oT (.nil) Tryz.func38 Tryz.call38 [.row 25 1 (.ints .u32)] [] 2
def Qd(bm blocks:Int)(image:List Int):Tree (bg×Bool):=
let T1:Tree ((bg×Bool)):=.lf ({B2:={X:={a0:=0,a1:=0,a2:=0,a3:=0,a4:=0,a5:=0,a6:=0,a7:=0,a8:=0,a9:=0,kz:=0,kA:=0,a12:=0,kB:=0,kC:=0,kD:=0},Pc:=0,C3:={a0:=0,a1:=0,a2:=0,a3:=0,a4:=0,a5:=0,a6:=0,a7:=0}},Mem:=[],B3:={E0:=[]},B9:={F1:=false,D3:=0,D9:=false},B5:={ae:=0,C8:=0,Frame:=0,C9:=0,F6:=0,C5:=0,C6:=0,C7:=[]},D1:={Frame:=0,F7:=0,D2:=false,D4:=0,C4:=false,F8:=0},A6:={A2:=0,D0:=0},B7:=0,B4:=false,B6:=false},false);.br (decide (bm<1)) T1 (.br (decide (bm>32)) T1 (.br (decide (blocks<0)) T1 (.br (decide (blocks>64)) T1 (.br (decide ((image.length:Int)>wrap i64 (bm*32))) T1 (.lv (WS 0) λ(x0:bu)=>.an (Qm3 bm) (.lv (SX bm) λ(x1:List Int)=>.lf ({B2:=x0,Mem:=cU (Min.min (image.length) (x1.length)) image++cV (Min.min (image.length) (x1.length)) x1,B3:={E0:=[]},B9:={F1:=false,D3:=0,D9:=false},B5:={ae:=wrap u32 blocks,C8:=0,Frame:=0,C9:=0,F6:=0,C5:=0,C6:=0,C7:=[]},D1:={Frame:=0,F7:=0,D2:=false,D4:=0,C4:=false,F8:=0},A6:={A2:=0,D0:=0},B7:=0,B4:=false,B6:=false},true)))))))
def lh bm blocks image:=(Qd bm blocks image).m
abbrev Vt bm blocks image:=(Qd bm blocks image).p
def Zsz:bd:=mT 79 [] true [.one (.int .i64),.one (.int .i64),.one (.ints .u32)] [] (λa r=>Qd (ar a 0) (ar a 1) (dh .u32 a 2)) (λX=>.dw [.agg (bg.cj (X.1) (.all 0)),.bool (X.2)]) (λX=>[⟨false,25,1,.ints .u32 (X.1).Mem⟩])
theorem Zml:bn pG Zsz:=oT (.cons Ze0 (.cons Zmc (.nil))) Tryz.func79 Tryz.call79 [.row 25 1 (.ints .u32)] [] 2
def Qki(a b:List Int)(z:(Int)):Prop:=0<=z/\z<=a.length/\a.length=b.length
def I4(a b:List Int)(z:(Int)):Nat:=(a.length-z).toNat
def I3(a b:List Int):Tree Bool:=
.br ((a.length:Int) !=(b.length:Int)) (.lf false) (.lp inferInstance (I4 a b 0+1) ((((ai.Nil (ai.ints u32 a)\/rE (1:Nat))/\rE (a:List Int))/\((ai.Nil (ai.ints u32 b)\/rE (1:Nat))/\rE (b:List Int))/\rE (0:Int)/\True)/\True) 0 λ(v0:Int)=>.br (decide (v0<(a.length:Int))) (.cn (bX 1 1&&bN 0 1&&decide (0<=v0/\v0<(a.length:Int))) (.cn (bX 1 1&&bN 0 1&&decide (0<=v0/\v0<(b.length:Int))) (.br (a.getD v0.toNat 0 !=b.getD v0.toNat 0) (.lf (Sum.inr false)) (.nx ((((ai.Nil (ai.ints u32 a)\/rE (1:Nat))/\rE (a:List Int))/\((ai.Nil (ai.ints u32 b)\/rE (1:Nat))/\rE (b:List Int))/\rE ((wrap i64 (v0+1)):Int)/\True)/\True) (Sum.inl (wrap i64 (v0+1))))))) (.lf (Sum.inr true)))
def Pr a b:=(I3 a b).m
def Vu(a b:List Int):Prop:=
a.length<=1000000000000
theorem Qyq(a b:List Int)(hw:Vu a b):(I3 a b).p:=by
 simp only[Vu]at hw
 unfold Tree.p I3
 repeat'(first|refine fj (inv:=Qki a b) (μ:=I4 a b) ?_ (cN _) (λ_ _=>?_)|exact trivial|refine ab (λ_=>?_) (λ_=>?_)|refine ax ?_ ?_|refine c6 ?_ ?_|refine aq (λ_ _=>?_)|refine ei ?_|refine bj ?_|refine And.intro ?_ ?_)
 all_goals((try simp only[Qki,I4]at*);exact nL)
def Qz4:cg:={
 α:=(Int)
 F:=λst a=>([(0,(lk st 0)),(1,(lk st 1)),(5,.int i64 a)],[])
 a0:=λst=>(lk st 5).toInt
 jb:=λst=>[]++[]}
def Qvi:List (Nat×cg):=[(4,Qz4)]
def Z2w:bd:=kU 67 [] true [.one (.ints .u32),.one (.ints .u32)] [] (λa r=>Vu (dh .u32 a 0) (dh .u32 a 1)) (λa r=>Pr (dh .u32 a 0) (dh .u32 a 1)) (λX=>.bool X) (λX=>[])
theorem Qz5:bn pG Z2w:=tG drawn jz (.nil) Tryz.func67 Tryz.call67 (λa r=>I3 (dh .u32 a 0) (dh .u32 a 1)) [] Qvi 3 (hp:=λa r h=>Qyq (dh .u32 a 0) (dh .u32 a 1) h)
def Pq(a b:bg):Tree Bool:=
.br (eqs [D.int u32 a.B2.X.a0,D.int u32 a.B2.X.a1,D.int u32 a.B2.X.a2,D.int u32 a.B2.X.a3,D.int u32 a.B2.X.a4,D.int u32 a.B2.X.a5,D.int u32 a.B2.X.a6,D.int u32 a.B2.X.a7,D.int u32 a.B2.X.a8,D.int u32 a.B2.X.a9,D.int u32 a.B2.X.kz,D.int u32 a.B2.X.kA,D.int u32 a.B2.X.a12,D.int u32 a.B2.X.kB,D.int u32 a.B2.X.kC,D.int u32 a.B2.X.kD,D.int u32 a.B2.Pc,D.int u32 a.B2.C3.a0,D.int u32 a.B2.C3.a1,D.int u32 a.B2.C3.a2,D.int u32 a.B2.C3.a3,D.int u32 a.B2.C3.a4,D.int u32 a.B2.C3.a5,D.int u32 a.B2.C3.a6,D.int u32 a.B2.C3.a7] [D.int u32 b.B2.X.a0,D.int u32 b.B2.X.a1,D.int u32 b.B2.X.a2,D.int u32 b.B2.X.a3,D.int u32 b.B2.X.a4,D.int u32 b.B2.X.a5,D.int u32 b.B2.X.a6,D.int u32 b.B2.X.a7,D.int u32 b.B2.X.a8,D.int u32 b.B2.X.a9,D.int u32 b.B2.X.kz,D.int u32 b.B2.X.kA,D.int u32 b.B2.X.a12,D.int u32 b.B2.X.kB,D.int u32 b.B2.X.kC,D.int u32 b.B2.X.kD,D.int u32 b.B2.Pc,D.int u32 b.B2.C3.a0,D.int u32 b.B2.C3.a1,D.int u32 b.B2.C3.a2,D.int u32 b.B2.C3.a3,D.int u32 b.B2.C3.a4,D.int u32 b.B2.C3.a5,D.int u32 b.B2.C3.a6,D.int u32 b.B2.C3.a7]) (.an (Vu a.Mem b.Mem) (.lv (Pr a.Mem b.Mem) λ(x0:Bool)=>.br x0 (.br (eqs [D.str a.B3.E0] [D.str b.B3.E0]) (.br (eqs [D.bool a.B9.F1,D.int u32 a.B9.D3,D.bool a.B9.D9] [D.bool b.B9.F1,D.int u32 b.B9.D3,D.bool b.B9.D9]) (.br (eqs [D.int u32 a.B5.ae,D.int u32 a.B5.C8,D.int u32 a.B5.Frame,D.int i64 a.B5.C9,D.int i64 a.B5.F6,D.int u32 a.B5.C5,D.int u32 a.B5.C6,D.str a.B5.C7] [D.int u32 b.B5.ae,D.int u32 b.B5.C8,D.int u32 b.B5.Frame,D.int i64 b.B5.C9,D.int i64 b.B5.F6,D.int u32 b.B5.C5,D.int u32 b.B5.C6,D.str b.B5.C7]) (.br (eqs [D.int u32 a.D1.Frame,D.int u32 a.D1.F7,D.bool a.D1.D2,D.int u32 a.D1.D4,D.bool a.D1.C4,D.int u32 a.D1.F8] [D.int u32 b.D1.Frame,D.int u32 b.D1.F7,D.bool b.D1.D2,D.int u32 b.D1.D4,D.bool b.D1.C4,D.int u32 b.D1.F8]) (.br (eqs [D.int u32 a.A6.A2,D.int u32 a.A6.D0] [D.int u32 b.A6.A2,D.int u32 b.A6.D0]) (.br (a.B7==b.B7) (.br (a.B4==b.B4) (.lf (a.B6==b.B6)) (.lf false)) (.lf false)) (.lf false)) (.lf false)) (.lf false)) (.lf false)) (.lf false)) (.lf false))) (.lf false)
def Um a b:=(Pq a b).m
abbrev Px a b:=(Pq a b).p
def Zo3:bd:=mT 24 [] true [.agg bg.sig,.agg bg.sig] [] (λa r=>Pq (bg.of (aC a 0)) (bg.of (aC a 1))) (λX=>.bool X) (λX=>[])
theorem Z2m:bn pG Zo3:=oT (.cons Qz5 (.nil)) Tryz.func24 Tryz.call24 [] [] 2
