import Derived.Test.YtaemmjbkndlkeaaGreatMigrateTellsFh
import Derived.Test.YtaemmjbkndlkeaaGreatMigrateTellsYx
open List renaming take->cU,drop->cV,length->dF,set->dB,getD->aV
open Int renaming toNat->dA,tmod->cZ
open UInt8 renaming toNat->eQ
open Nat renaming blt->bN,beq->bX,lt_succ_self->cN
set_option maxRecDepth 100000
set_option linter.all false
namespace Go.Proofs.YtaemmjbkndlkeaaGreat
open Go Go.GD Go.IntKind
noncomputable section
def JQ(m:bj):Tree Bool:=
.an (Qb m) (.lv (BO m) λ(x0:Bool)=>.br x0 (.br (!m.B8) (.an (Qth m) (.lv (Vj m) λ(x1:Bool)=>.br (!x1) (.lf (decide (m.B9<1152921504606846976))) (.lf false))) (.lf false)) (.lf false))
def FL m:=(JQ m).m
abbrev Qsy m:=(JQ m).p
def Zge:bd:=mT 135 [] true [.agg bj.sig] [] (λa r=>JQ (bj.of (aC a 0))) (λX=>.bool X) (λX=>[])
theorem Zbu:bu pG Zge:=oT (.cons Qym (.cons Za7 (.nil))) Tryz.func135 Tryz.call135 [] [] 2
def Qnu(m:bj)(z:(Int)):Nat:=(5-z).toNat
def Mt(m:bj):Tree bj:=
let E1:=({B2:=m.B2,Mem:=m.Mem,B3:=m.B3,C1:=m.C1,B6:=m.B6,D4:=m.D4,B0:=m.B0,B9:=m.B9,B4:=false,B8:=m.B8}:bj);.br (bm u32 m.B2.C4.a0 (2:Int)==(0:Int)) (.lf (E1)) (.an (Qek E1) (.lv (MY E1) λ(x0:Int)=>.lp inferInstance (Qnu m 0+1) ((rZ/\rZ/\rE (x0:Int)/\rE (0:Int)/\True)/\(rE m.B2.X.a0/\rE m.B2.X.a1/\rE m.B2.X.a2/\rE m.B2.X.a3/\rE m.B2.X.a4/\rE m.B2.X.a5/\rE m.B2.X.a6/\rE m.B2.X.a7/\rE m.B2.X.a8/\rE m.B2.X.a9/\rE m.B2.X.ug/\rE m.B2.X.uh/\rE m.B2.X.a12/\rE m.B2.X.ui/\rE m.B2.X.uj/\rE m.B2.X.uk/\rE m.B2.Pc/\rE m.B2.C4.a0/\rE m.B2.C4.a1/\rE m.B2.C4.a2/\rE m.B2.C4.a3/\rE m.B2.C4.a4/\rE m.B2.C4.a5/\rE m.B2.C4.a6/\rE m.B2.C4.a7/\((ag.Nil (ag.ints u32 m.Mem)\/rE (1:Nat))/\rE m.Mem)/\rE m.B3.D9/\rE m.C1.E0/\rE m.C1.D0/\rE m.C1.D8/\rE m.B6.ab/\rE m.B6.C8/\rE m.B6.Frame/\rE m.B6.C9/\rE m.B6.F5/\rE m.B6.C5/\rE m.B6.C6/\rE m.B6.C7/\rE m.D4.Frame/\rE m.D4.F7/\rE m.D4.D2/\rE m.D4.D5/\rE m.D4.C3/\rE m.D4.F8/\rE m.B0.A2/\rE m.B0.D1/\rE m.B9/\rE (false:Bool)/\rE m.B8/\True)/\(mE zM True True)/\True) 0 λ(v0:Int)=>.br (decide (v0<5)) (.cn (decide (0<=v0)) (.br (bm u32 x0 (ei u32 1 v0) !=0) (.lv (r4 m.B2 (wrap i64 (16+v0)) 0) λ(x1:cq)=>.lf (Sum.inr {B2:=x1,Mem:=m.Mem,B3:=m.B3,C1:=m.C1,B6:=m.B6,D4:=m.D4,B0:=m.B0,B9:=m.B9,B4:=false,B8:=m.B8})) (.nx ((rZ/\rZ/\rE (x0:Int)/\rE ((wrap i64 (v0+1)):Int)/\True)/\(rE m.B2.X.a0/\rE m.B2.X.a1/\rE m.B2.X.a2/\rE m.B2.X.a3/\rE m.B2.X.a4/\rE m.B2.X.a5/\rE m.B2.X.a6/\rE m.B2.X.a7/\rE m.B2.X.a8/\rE m.B2.X.a9/\rE m.B2.X.ug/\rE m.B2.X.uh/\rE m.B2.X.a12/\rE m.B2.X.ui/\rE m.B2.X.uj/\rE m.B2.X.uk/\rE m.B2.Pc/\rE m.B2.C4.a0/\rE m.B2.C4.a1/\rE m.B2.C4.a2/\rE m.B2.C4.a3/\rE m.B2.C4.a4/\rE m.B2.C4.a5/\rE m.B2.C4.a6/\rE m.B2.C4.a7/\((ag.Nil (ag.ints u32 m.Mem)\/rE (1:Nat))/\rE m.Mem)/\rE m.B3.D9/\rE m.C1.E0/\rE m.C1.D0/\rE m.C1.D8/\rE m.B6.ab/\rE m.B6.C8/\rE m.B6.Frame/\rE m.B6.C9/\rE m.B6.F5/\rE m.B6.C5/\rE m.B6.C6/\rE m.B6.C7/\rE m.D4.Frame/\rE m.D4.F7/\rE m.D4.D2/\rE m.D4.D5/\rE m.D4.C3/\rE m.D4.F8/\rE m.B0.A2/\rE m.B0.D1/\rE m.B9/\rE (false:Bool)/\rE m.B8/\True)/\(mE zM True True)/\True) (Sum.inl (wrap i64 (v0+1)))))) (.lf (Sum.inr E1))))
def pU m:=(Mt m).m
abbrev Qqx m:=(Mt m).p
def Z84:bw:={
 α:=(Int)
 F:=λst a=>([(1,.ptr 0 0 0),(2,.ptr 1 0 0),(3,(lk st 3)),(15,.int i64 a)],[⟨true,43,49,.gen [mB (cT st 1)]⟩,⟨true,43,49,.gen [mB (cT st 2)]⟩])
 a0:=λst=>(lk st 15).toInt
 iU:=λst=>[]++[(rX st 1 0),(rX st 2 1)]}
def Z11:List (Nat×bw):=[(6,Z84)]
def Zav:bd:=bd.fz<|lj 136 [] false [.agg bj.sig] [] (λa r=>Qqx (bj.of (aC a 0))) (λa r=>pU (bj.of (aC a 0))) (λX=>.agg (bj.cells X)) (λX=>[])
theorem Z7g:bu pG Zav:=AF<|sF drawn jL (.cons Qo9 (.cons TR (.nil))) Tryz.func136 Tryz.call136 (λa r=>Mt (bj.of (aC a 0))) [.sl (.ints .u32) false] Z11 3 (λ_ _ _=>by kernel_rfl) (λ_ _=>rfl) (λ_ _ h=>h) (λh=>by cases h)
def JK(c:jn)(port:Int):Tree (jn×Int):=
.br (port==0) (.br (decide (c.D9=[])) (.lf (c,4294967295)) (.cn (decide ((0:Int)<=(0:Int)/\0<(c.D9.length:Int))) (.cn (decide ((0:Int)<=(1:Int)/\1<=(c.D9.length:Int)/\(c.D9.length:Int)<=(c.D9.length:Int))) (.lf ({D9:=cU (dA (c.D9.length:Int)-dA 1) (cV (dA 1) c.D9)},wrap u32 (↑(eQ (c.D9.getD (dA 0) (0:UInt8))):Int)))))) (.br (port==1) (.lf (c,wrap u32 (c.D9.length:Int))) (.lf (c,0)))
def Qx5 c port:=(JK c port).m
theorem Zfi(c:jn)(port:Int):(JK c port).p:=by
 unfold Tree.p JK
 repeat'(first|exact trivial|refine aa (λ_=>?_) (λ_=>?_)|refine ar ?_ ?_|refine bz ?_ ?_|refine ai (λ_ _=>?_)|refine dj ?_|refine aw ?_|refine And.intro ?_ ?_)
 all_goals(exact mC)
def Zng:bd:=mS 195 [] true [.agg jn.sig,.one (.int .i64)] [] (λa r=>JK (jn.of (aC a 0)) (au a 1)) (λX=>.dw [.agg (jn.cells (X.1)),.int .u32 (X.2)]) (λX=>[])
theorem Zk2:bu pG Zng:=oS (.nil) Tryz.func195 Tryz.call195 [] [] 2 (λ_ _ _=>by kernel_rfl) (λa r=>Zfi (jn.of (aC a 0)) (au a 1)) (λ_ X=>by kernel_rfl)
def Vf(t:jx):Tree Int:=
.br t.D8 (.lf 1) (.lf 0)
def ZE t:=(Vf t).m
def Zz1:bd:=mS 196 [] true [.agg jx.sig] [] (λa r=>Vf (jx.of (aC a 0))) (λX=>.int .u32 X) (λX=>[])
theorem Zsh:bu pG Zz1:=oS (.nil) Tryz.func196 Tryz.call196 [] [] 2
def Vg(d0:gk)(port:Int):Tree Int:=
.br (port==4) (.lf d0.C8) (.br (port==5) (.lf d0.Frame) (.br (port==6) (.lf (wrap u32 d0.C9)) (.lf 0)))
def Pq d0 port:=(Vg d0 port).m
def zE:bd:=mS 197 [] true [.agg gk.sig,.one (.int .i64)] [] (λa r=>Vg (gk.of (aC a 0)) (au a 1)) (λX=>.int .u32 X) (λX=>[])
theorem Zxy:bu pG zE:=oS (.nil) Tryz.func197 Tryz.call197 [] [] 2
def Pr(n:iq)(port:Int):Tree Int:=
.br (port==7) (.lf n.Frame) (.br (port==8) (.lf n.F8) (.br (port==9) (.br n.D2 (.br n.C3 (.lf (wrap u32 (wrap u32 ((0:Int)+(1:Int))+2))) (.lf (wrap u32 ((0:Int)+(1:Int))))) (.br n.C3 (.lf (wrap u32 ((0:Int)+(2:Int)))) (.lf 0))) (.lf 0)))
def Mn n port:=(Pr n port).m
def y5:bd:=mS 198 [] true [.agg iq.sig,.one (.int .i64)] [] (λa r=>Pr (iq.of (aC a 0)) (au a 1)) (λX=>.int .u32 X) (λX=>[])
theorem yE:bu pG y5:=oS (.nil) Tryz.func198 Tryz.call198 [] [] 2
def Mo(b:ie)(port:Int):Tree Int:=
.br (port==10) (.lf b.A2) (.br (port==11) (.an (Qhk b) (.lv (VH b) λ(x0:Int)=>.lf (wrap u32 x0))) (.lf 0))
def Qxe b port:=(Mo b port).m
abbrev Qyj b port:=(Mo b port).p
def Zqj:bd:=mT 199 [] true [.agg ie.sig,.one (.int .i64)] [] (λa r=>Mo (ie.of (aC a 0)) (au a 1)) (λX=>.int .u32 X) (λX=>[])
theorem Zmg:bu pG Zqj:=oT (.cons Qt8 (.nil)) Tryz.func199 Tryz.call199 [] [] 2
def Mm(m:bj)(port clock:Int):Tree (bj×Int):=
let T1:Tree ((bj×Int)):=.lv (Qx5 m.B3 port) λ(x0:jn×Int)=>.lf ({B2:=m.B2,Mem:=m.Mem,B3:=x0.1,C1:=m.C1,B6:=m.B6,D4:=m.D4,B0:=m.B0,B9:=m.B9,B4:=m.B4,B8:=m.B8},x0.2);.br (port==0) T1 (.br (port==1) T1 (.br (port==2) (.lf (m,clock)) (.br (port==3) (.lv (ZE m.C1) λ(x2:Int)=>.lf (m,x2)) (.br (port==4) (.lv (Pq m.B6 port) λ(x3:Int)=>.lf (m,x3)) (.br (port==5) (.lv (Pq m.B6 port) λ(x4:Int)=>.lf (m,x4)) (.br (port==6) (.lv (Pq m.B6 port) λ(x5:Int)=>.lf (m,x5)) (.br (port==7) (.lv (Mn m.D4 port) λ(x6:Int)=>.lf (m,x6)) (.br (port==8) (.lv (Mn m.D4 port) λ(x7:Int)=>.lf (m,x7)) (.br (port==9) (.lv (Mn m.D4 port) λ(x8:Int)=>.lf (m,x8)) (let T2:Tree ((bj×Int)):=.an (Qyj m.B0 port) (.lv (Qxe m.B0 port) λ(x9:Int)=>.lf (m,x9));.br (port==10) T2 (.br (port==11) T2 (.lf (m,0)))))))))))))
def wh m port clock:=(Mm m port clock).m
abbrev Qkl m port clock:=(Mm m port clock).p
def Z0k:bd:=bd.fz<|lj 138 [] false [.agg bj.sig,.one (.int .i64),.one (.int .u32)] [] (λa r=>Qkl (bj.of (aC a 0)) (au a 1) (au a 2)) (λa r=>wh (bj.of (aC a 0)) (au a 1) (au a 2)) (λX=>.dw [.agg (bj.cells (X.1)),.int .u32 (X.2)]) (λX=>[])
theorem Qyw:bu pG Z0k:=AF<|sF drawn jL (.cons Zk2 (.cons Zsh (.cons Zxy (.cons yE (.cons Zmg (.nil)))))) Tryz.func138 Tryz.call138 (λa r=>Mm (bj.of (aC a 0)) (au a 1) (au a 2)) [.sl (.ints .u32) false] [] 2 (λ_ _ _=>by kernel_rfl) (λ_ _=>rfl) (λ_ _ h=>h) (λh=>by cases h)
def Vc(t:jx)(deadline:Int):Tree jx:=
.lf ({E0:=deadline !=0,D0:=deadline,D8:=false})
def Pm t deadline:=(Vc t deadline).m
def Ztz:bd:=mS 200 [] true [.agg jx.sig,.one (.int .u32)] [] (λa r=>Vc (jx.of (aC a 0)) (au a 1)) (λX=>.agg (jx.cells X)) (λX=>[])
theorem Zoy:bu pG Ztz:=oS (.nil) Tryz.func200 Tryz.call200 [] [] 2
def Va(m:List Int)(frame:Int):Tree Bool:=
.lv (jX m) λ(x0:Int)=>.lf (decide (wrap u64 frame<wrap u64 x0))
def Ph m frame:=(Va m frame).m
def Zks:bd:=mS 280 [] true [.one (.ints .u32),.one (.int .u32)] [] (λa r=>Va (c9 .u32 a 0) (au a 1)) (λX=>.bool X) (λX=>[])
theorem Zfo:bu pG Zks:=oS (.cons Cg (.nil)) Tryz.func280 Tryz.call280 [] [] 2
def Md(m:List Int)(frame:Int):Tree Bool:=
.br (decide (frame>=0)) (.lv (jX m) λ(x0:Int)=>.lf (decide (frame<x0))) (.lf false)
def FE m frame:=(Md m frame).m
def Z7x:bd:=mS 145 [] true [.one (.ints .u32),.one (.int .i64)] [] (λa r=>Md (c9 .u32 a 0) (au a 1)) (λX=>.bool X) (λX=>[])
theorem Qq8:bu pG Z7x:=oS (.cons Cg (.nil)) Tryz.func145 Tryz.call145 [] [] 2
def Qsz(words:List Int)(z:(Int)×(List Int)):Prop:=0<=z.1/\z.1<=words.length/\(z.2.length:Int)=4*z.1
def Pd(words:List Int)(z:(Int)×(List Int)):Nat:=(words.length-z.1).toNat
def Q6(words:List Int):Tree (List UInt8):=
.cn (bN 0 1&&bX 1 1&&List.all [D.int u8 0] D.plain&&decide ((0:Int)<=(0:Int)/\0<=wrap i64 (4*(words.length:Int))/\wrap i64 (4*(words.length:Int))<=9223372036854775807/\(↑1:Int)*wrap i64 (4*(words.length:Int))<=140737488355328)) (.lp inferInstance (Pd words (0,[])+1) ((True/\((ag.Nil (ag.ints u32 words)\/rE (1:Nat))/\rE (words:List Int))/\rE ((words.length:Int):Int)/\rE (0:Int)/\True)/\rE ([]:List Int)/\True) (0,[]) λ(v0:Int×List Int)=>.br (decide (v0.1<(words.length:Int))) (.cn (bX 1 1&&bN 0 1&&decide (0<=v0.1/\v0.1<(words.length:Int))) (.cn (decide (1*(v0.2.length+4)<=140737488355328)) (let E1:=words.getD v0.1.toNat 0;.nx ((True/\((ag.Nil (ag.ints u32 words)\/rE (1:Nat))/\rE (words:List Int))/\rE ((words.length:Int):Int)/\rE ((wrap i64 (v0.1+1)):Int)/\True)/\rE ((v0.2++[wrap u8 (words.getD v0.1.toNat 0),wrap u8 (bn u32 (words.getD v0.1.toNat 0) 8),wrap u8 (bn u32 (words.getD v0.1.toNat 0) 16),wrap u8 (bn u32 (words.getD v0.1.toNat 0) 24)]):List Int)/\True) (Sum.inl (wrap i64 (v0.1+1),v0.2++[wrap u8 E1,wrap u8 (bn u32 E1 8),wrap u8 (bn u32 E1 16),wrap u8 (bn u32 E1 24)]))))) (.lf (Sum.inr (bytesOf v0.2))))
def Ze words:=(Q6 words).m
def XF(words:List Int):Prop:=
words.length<=1000000000000
theorem Z9k(words:List Int)(hw:XF words):(Q6 words).p:=by
 simp only[XF]at hw
 unfold Tree.p Q6
 repeat'(first|refine ed (inv:=Qsz words) (μ:=Pd words) ?_ (cN _) (λ_ _=>?_)|exact trivial|refine aa (λ_=>?_) (λ_=>?_)|refine ar ?_ ?_|refine bz ?_ ?_|refine ai (λ_ _=>?_)|refine dj ?_|refine aw ?_|refine And.intro ?_ ?_)
 all_goals((try simp only[Qsz,Pd]at*);exact mC)
def Zey:bw:={
 α:=(Int)×(List Int)
 F:=λst a=>([(3,.all 0),(10,(lk st 10)),(11,(lk st 11)),(12,.int i64 a.1)],[⟨false,5,1,.ints u8 a.2⟩])
 a0:=λst=>((lk st 12).toInt,(nS st.rows (rN st 3)))
 iU:=λst=>[]++[(rX st 3 0)]}
def Z7c:List (Nat×bw):=[(3,Zey)]
def Zjh:bd:=lj 146 [] true [.one (.ints .u32)] [] (λa r=>XF (c9 .u32 a 0)) (λa r=>Ze (c9 .u32 a 0)) (λX=>.str X) (λX=>[])
theorem Zf8:bu pG Zjh:=sF drawn jL (.nil) Tryz.func146 Tryz.call146 (λa r=>Q6 (c9 .u32 a 0)) [] Z7c 3 (hp:=λa r h=>Z9k (c9 .u32 a 0) h)
def EG(m:List Int)(frame:Int):Tree ((List UInt8)×Bool):=
.lv (FE m frame) λ(x0:Bool)=>.br (!x0) (.lf ([],false)) (.cn (bX 1 1&&bN 0 1&&decide (0<=wrap i64 (frame*32)/\wrap i64 (frame*32)<=wrap i64 (wrap i64 (frame*32)+32)/\wrap i64 (wrap i64 (frame*32)+32)<=(m.length:Int))) (let E1:=cU (dA (wrap i64 (wrap i64 (frame*32)+32))-dA (wrap i64 (frame*32))) (cV (dA (wrap i64 (frame*32))) m);.an (XF E1) (.lv (Ze E1) λ(x1:List UInt8)=>.lf (x1,true))))
def jO m frame:=(EG m frame).m
abbrev P8 m frame:=(EG m frame).p
def Zkw:bd:=mT 99 [] true [.one (.ints .u32),.one (.int .i64)] [] (λa r=>EG (c9 .u32 a 0) (au a 1)) (λX=>.dw [.str (X.1),.bool (X.2)]) (λX=>[])
theorem TV:bu pG Zkw:=oT (.cons Qq8 (.cons Zf8 (.nil))) Tryz.func99 Tryz.call99 [] [] 2
def Qys(d0:gk)(fw:Int):Tree (ir×Bool):=
.br (d0.C9 !=1) (.lf ({C2:=0,At:=0,C8:=0,F0:=[]},false)) (.br (d0.F5==1) (.lf ({C2:=3,At:=fw,C8:=d0.C5,F0:=[]},true)) (.br (d0.F5==2) (.lf ({C2:=4,At:=fw,C8:=d0.C5,F0:=d0.C7},true)) (.lf ({C2:=0,At:=0,C8:=0,F0:=[]},false))))
def Qow d0 fw:=(Qys d0 fw).m
def Zex:bd:=mS 281 [] true [.agg gk.sig,.one (.int .u64)] [] (λa r=>Qys (gk.of (aC a 0)) (au a 1)) (λX=>.dw [.agg (ir.cells (X.1)),.bool (X.2)]) (λX=>[])
theorem Zat:bu pG Zex:=oS (.nil) Tryz.func281 Tryz.call281 [] [] 2
def Mf(d0:gk)(m:List Int)(cmd fw:Int):Tree (gk×(List ir)):=
.br (d0.C9 !=0) (.lf (d0,[])) (let T1:Tree ((gk×(List ir))):=.lf ({ab:=d0.ab,C8:=d0.C8,Frame:=d0.Frame,C9:=3,F5:=d0.F5,C5:=d0.C5,C6:=d0.C6,C7:=d0.C7},[]);.br (decide (d0.C8>=d0.ab)) T1 (.lv (Ph m d0.Frame) λ(x0:Bool)=>.br (!x0) T1 (.br (cmd==2) (.an (P8 m (wrap i64 d0.Frame)) (.lv (jO m (wrap i64 d0.Frame)) λ(x1:List UInt8×Bool)=>.lv (Qow {ab:=d0.ab,C8:=d0.C8,Frame:=d0.Frame,C9:=1,F5:=cmd,C5:=d0.C8,C6:=d0.Frame,C7:=x1.1} fw) λ(x2:ir×Bool)=>.lf ({ab:=d0.ab,C8:=d0.C8,Frame:=d0.Frame,C9:=1,F5:=cmd,C5:=d0.C8,C6:=d0.Frame,C7:=x1.1},[x2.1]))) (.lv (Qow {ab:=d0.ab,C8:=d0.C8,Frame:=d0.Frame,C9:=1,F5:=cmd,C5:=d0.C8,C6:=d0.Frame,C7:=[]} fw) λ(x3:ir×Bool)=>.lf ({ab:=d0.ab,C8:=d0.C8,Frame:=d0.Frame,C9:=1,F5:=cmd,C5:=d0.C8,C6:=d0.Frame,C7:=[]},[x3.1])))))
def Z32 d0 m cmd fw:=(Mf d0 m cmd fw).m
abbrev Qy4 d0 m cmd fw:=(Mf d0 m cmd fw).p
def Zn0:bd:=mT 250 [] true [.agg gk.sig,.one (.ints .u32),.one (.int .i64),.one (.int .u64)] [] (λa r=>Mf (gk.of (aC a 0)) (c9 .u32 a 1) (au a 2) (au a 3)) (λX=>.dw [.agg (gk.cells (X.1)),.sl 4 (.ao .cu (X.2)) true]) (λX=>[])
theorem Zkb:bu pG Zn0:=oT (.cons Zfo (.cons TV (.cons Zat (.nil)))) Tryz.func250 Tryz.call250 [.sl (.ao .cu) true] [] 2
def Mg(d0:gk)(m:List Int)(port v fw:Int):Tree (gk×(List ir)):=
.br (port==4) (.lf ({ab:=d0.ab,C8:=v,Frame:=d0.Frame,C9:=d0.C9,F5:=d0.F5,C5:=d0.C5,C6:=d0.C6,C7:=d0.C7},[])) (.br (port==5) (.lf ({ab:=d0.ab,C8:=d0.C8,Frame:=v,C9:=d0.C9,F5:=d0.F5,C5:=d0.C5,C6:=d0.C6,C7:=d0.C7},[])) (.br (port==6) (let T1:Tree ((gk×(List ir))):=.an (Qy4 d0 m (wrap i64 v) fw) (.lv (Z32 d0 m (wrap i64 v) fw) λ(x0:gk×List ir)=>.lf (x0.1,x0.2));.br (v==1) T1 (.br (v==2) T1 (.br (v==0) (.lv (Mh d0) λ(x2:Bool)=>.br x2 (.lf ({ab:=d0.ab,C8:=d0.C8,Frame:=d0.Frame,C9:=0,F5:=d0.F5,C5:=d0.C5,C6:=d0.C6,C7:=d0.C7},[])) (.lf (d0,[]))) (.lf (d0,[]))))) (.lf (d0,[]))))
def Z97 d0 m port v fw:=(Mg d0 m port v fw).m
abbrev Z6c d0 m port v fw:=(Mg d0 m port v fw).p
def Zxp:bd:=mT 201 [] true [.agg gk.sig,.one (.ints .u32),.one (.int .i64),.one (.int .u32),.one (.int .u64)] [] (λa r=>Mg (gk.of (aC a 0)) (c9 .u32 a 1) (au a 2) (au a 3) (au a 4)) (λX=>.dw [.agg (gk.cells (X.1)),.sl 4 (.ao .cu (X.2)) true]) (λX=>[])
theorem Ztb:bu pG Zxp:=oT (.cons Zkb (.cons Qv5 (.nil))) Tryz.func201 Tryz.call201 [.sl (.ao .cu) true] [] 2
def Qp(m:List Int)(frame:Int):Tree Bool:=
.lv (jX m) λ(x0:Int)=>.lf (decide (wrap u64 frame<wrap u64 x0))
def Me m frame:=(Qp m frame).m
def Zro:bd:=mS 253 [] true [.one (.ints .u32),.one (.int .u32)] [] (λa r=>Qp (c9 .u32 a 0) (au a 1)) (λX=>.bool X) (λX=>[])
theorem Z1v:bu pG Zro:=oS (.cons Cg (.nil)) Tryz.func253 Tryz.call253 [] [] 2
def Mi(n:iq)(m:List Int)(fw:Int):Tree (List ir):=
.br (decide (n.F7<1)) (.lf ([])) (.br (decide (n.F7>128)) (.lf ([])) (.lv (Me m n.Frame) λ(x0:Bool)=>.br (!x0) (.lf ([])) (.an (P8 m (wrap i64 n.Frame)) (.lv (jO m (wrap i64 n.Frame)) λ(x1:List UInt8×Bool)=>.cn (decide ((0:Int)<=(0:Int)/\0<=n.F7/\n.F7<=(x1.1.length:Int))) (.lf ([{C2:=2,At:=fw,C8:=0,F0:=cU (dA n.F7-dA 0) (cV (dA 0) x1.1)}]))))))
def Zmd n m fw:=(Mi n m fw).m
abbrev Z6d n m fw:=(Mi n m fw).p
def Zzd:bd:=mT 252 [] true [.agg iq.sig,.one (.ints .u32),.one (.int .u64)] [] (λa r=>Mi (iq.of (aC a 0)) (c9 .u32 a 1) (au a 2)) (λX=>.sl 4 (.ao .cu X) true) (λX=>[])
theorem Zu8:bu pG Zzd:=oT (.cons Z1v (.cons TV (.nil))) Tryz.func252 Tryz.call252 [.sl (.ao .cu) true] [] 2
def Mj(n:iq)(m:List Int)(port v fw:Int):Tree (iq×(List ir)):=
.br (port==7) (.lf ({Frame:=v,F7:=n.F7,D2:=n.D2,D5:=n.D5,C3:=n.C3,F8:=n.F8},[])) (.br (port==8) (.lf ({Frame:=n.Frame,F7:=v,D2:=n.D2,D5:=n.D5,C3:=n.C3,F8:=n.F8},[])) (.br (port==9) (.br (v==1) (.an (Z6d n m fw) (.lv (Zmd n m fw) λ(x0:List ir)=>.lf (n,x0))) (.br (v==2) (.lv (Me m n.Frame) λ(x1:Bool)=>.br x1 (.br (!n.D2) (.br (!n.C3) (.lf ({Frame:=n.Frame,F7:=n.F7,D2:=true,D5:=n.Frame,C3:=n.C3,F8:=n.F8},[])) (.lf (n,[]))) (.lf (n,[]))) (.lf (n,[]))) (.br (v==0) (.lf ({Frame:=n.Frame,F7:=n.F7,D2:=n.D2,D5:=n.D5,C3:=false,F8:=0},[])) (.lf (n,[]))))) (.lf (n,[]))))
def Zjn n m port v fw:=(Mj n m port v fw).m
abbrev Z9i n m port v fw:=(Mj n m port v fw).p
def vE:bd:=mT 202 [] true [.agg iq.sig,.one (.ints .u32),.one (.int .i64),.one (.int .u32),.one (.int .u64)] [] (λa r=>Mj (iq.of (aC a 0)) (c9 .u32 a 1) (au a 2) (au a 3) (au a 4)) (λX=>.dw [.agg (iq.cells (X.1)),.sl 4 (.ao .cu (X.2)) true]) (λX=>[])
theorem Zyr:bu pG vE:=oT (.cons Zu8 (.cons Z1v (.nil))) Tryz.func202 Tryz.call202 [.sl (.ao .cu) true] [] 2
def ZA(m:List Int)(frame:Int)(s:List UInt8)(z:(Int)×(List Int)):Nat:=(32-z.1).toNat
def JG(m:List Int)(frame:Int)(s:List UInt8):Tree ((List Int)×Bool):=
.an (oB m) (.lv (kU m) λ(x0:List Int)=>.lv (FE m frame) λ(x1:Bool)=>.br (!x1) (.lf (x0,false)) (.br ((s.length:Int) !=(128:Int)) (.lf (x0,false)) (.lp inferInstance (ZA m frame s (0,x0)+1) ((rE (s:List UInt8)/\True/\rE ((wrap i64 (frame*32)):Int)/\rE (0:Int)/\True)/\rE (x0:List Int)/\True) (0,x0) λ(v0:Int×List Int)=>.br (decide (v0.1<32)) (.cn (decide (0<=wrap i64 (4*v0.1)/\wrap i64 (4*v0.1)<=wrap i64 (wrap i64 (4*v0.1)+4)/\wrap i64 (wrap i64 (4*v0.1)+4)<=(s.length:Int))) (let E1:=cU (dA (wrap i64 (wrap i64 (4*v0.1)+4))-dA (wrap i64 (4*v0.1))) (cV (dA (wrap i64 (4*v0.1))) s);.cn (decide ((0:Int)<=(0:Int)/\0<(↑(dF E1):Int))) (.cn (decide ((0:Int)<=(1:Int)/\1<(↑(dF E1):Int))) (.cn (decide ((0:Int)<=(2:Int)/\2<(↑(dF E1):Int))) (.cn (decide ((0:Int)<=(3:Int)/\3<(↑(dF E1):Int))) (.cn (bX 1 1&&bN 0 1&&decide (0<=wrap i64 (wrap i64 (frame*32)+v0.1)/\wrap i64 (wrap i64 (frame*32)+v0.1)<(v0.2.length:Int))) (.nx ((rE (s:List UInt8)/\True/\rE ((wrap i64 (frame*32)):Int)/\rE ((wrap i64 (v0.1+1)):Int)/\True)/\rE ((dB v0.2 (dA (wrap i64 (wrap i64 (frame*32)+v0.1))) (ja u32 (ja u32 (ja u32 (wrap u32 (↑(eQ (aV (cU (dA (wrap i64 (wrap i64 (4*v0.1)+4))-dA (wrap i64 (4*v0.1))) (cV (dA (wrap i64 (4*v0.1))) s)) (dA 0) (0:UInt8))):Int)) (ei u32 (wrap u32 (↑(eQ (aV (cU (dA (wrap i64 (wrap i64 (4*v0.1)+4))-dA (wrap i64 (4*v0.1))) (cV (dA (wrap i64 (4*v0.1))) s)) (dA 1) (0:UInt8))):Int)) 8)) (ei u32 (wrap u32 (↑(eQ (aV (cU (dA (wrap i64 (wrap i64 (4*v0.1)+4))-dA (wrap i64 (4*v0.1))) (cV (dA (wrap i64 (4*v0.1))) s)) (dA 2) (0:UInt8))):Int)) 16)) (ei u32 (wrap u32 (↑(eQ (aV (cU (dA (wrap i64 (wrap i64 (4*v0.1)+4))-dA (wrap i64 (4*v0.1))) (cV (dA (wrap i64 (4*v0.1))) s)) (dA 3) (0:UInt8))):Int)) 24))):List Int)/\True) (Sum.inl (wrap i64 (v0.1+1),dB v0.2 (dA (wrap i64 (wrap i64 (frame*32)+v0.1))) (ja u32 (ja u32 (ja u32 (wrap u32 (↑(eQ (aV E1 (dA 0) (0:UInt8))):Int)) (ei u32 (wrap u32 (↑(eQ (aV E1 (dA 1) (0:UInt8))):Int)) 8)) (ei u32 (wrap u32 (↑(eQ (aV E1 (dA 2) (0:UInt8))):Int)) 16)) (ei u32 (wrap u32 (↑(eQ (aV E1 (dA 3) (0:UInt8))):Int)) 24))))))))))) (.lf (Sum.inr (v0.2,true))))))
def pR m frame s:=(JG m frame s).m
abbrev V2 m frame s:=(JG m frame s).p
def Z5k:bw:={
 α:=(Int)×(List Int)
 F:=λst a=>([(2,(lk st 2)),(8,.all 0),(9,(lk st 9)),(26,.int i64 a.1)],[⟨false,25,1,.ints u32 a.2⟩])
 a0:=λst=>((lk st 26).toInt,(nS st.rows (rN st 8)))
 iU:=λst=>[]++[(rX st 8 0)]}
def Qzc:List (Nat×bw):=[(6,Z5k)]
def Z7y:bd:=mT 205 [] true [.one (.ints .u32),.one (.int .i64),.one (.str)] [] (λa r=>JG (c9 .u32 a 0) (au a 1) (jT a 2)) (λX=>.dw [.all 0,.bool (X.2)]) (λX=>[⟨false,25,1,.ints .u32 (X.1)⟩])
theorem Qq4:bu pG Z7y:=oT (.cons Li (.cons Qq8 (.nil))) Tryz.func205 Tryz.call205 [.row 25 1 (.ints .u32)] Qzc 3
def strings_Repeat(s:List UInt8)(count:Int):(List UInt8):=
Lib.repeatL s count.toNat
def Qfn(s:List UInt8)(count:Int):Prop:=
0<=count/\count<=9223372036854775807/\s.length*count.toNat<=140737488355328
def Qn6(s:List UInt8)(count:Int):List D:=[.str s,.int .i64 count]
def Qls(s:List UInt8)(count:Int):List Row:=[]
def Qfv(X:List UInt8):D:=.str X
def Qfi(X:List UInt8):List Row:=[]
def Qol:List PT:=[.one (.str),.one (.int .i64)]
def Qni:List RT:=[]
def Z14(args:List D)(rows:List Row):(List UInt8):=strings_Repeat (jT args 0) (au args 1)
def Z0z(args:List D)(rows:List Row):Prop:=Qfn (jT args 0) (au args 1)
def Z89:bd:=lj 254 [] true Qol Qni Z0z Z14 Qfv Qfi
theorem Qxw(s:List UInt8)(count:Int)(hw:Qfn s count):kM pG 254 (Qn6 s count) (Qls s count) (Qfv (strings_Repeat s count)) (Qfi (strings_Repeat s count)):=by
 exact zd Tryz.strings_Repeat hw.1 hw.2.1 hw.2.2
set_option maxRecDepth 100000 in
theorem Qzu(args:List D)(rows:List Row):lN Qol args 0=Qn6 (jT args 0) (au args 1):=by kernel_rfl
set_option maxRecDepth 100000 in
theorem Qxp(args:List D)(rows:List Row):kR Qni rows 0=Qls (jT args 0) (au args 1):=by kernel_rfl
set_option maxRecDepth 100000 in
theorem Z5h(X:List UInt8):(ue (Qfv X)&&jP (Qfi X))=true:=by kernel_rfl
theorem Z3g:bu pG Z89:=GR Tryz.call254 (λargs rows hp=>by rw[Qzu args rows,Qxp args rows];exact Qxw (jT args 0) (au args 1) hp) (λ_ X=>Z5h X)
def EJ(b:ie)(m:List Int)(port v:Int):Tree (ie×(List Int)):=
let T1:Tree ((ie×(List Int))):=.an (oB m) (.lv (kU m) λ(x0:List Int)=>.lf (b,x0));.br (decide (v>=32)) T1 (.cn (decide (0<=v)) (.br (port==10) (.lv (jX m) λ(x1:Int)=>.br (decide (wrap i64 v<x1)) (.br (bm u32 b.D1 (ei u32 1 v)==0) (.an (Qfn [(0:UInt8)] 128) (.lv (strings_Repeat [(0:UInt8)] 128) λ(x2:List UInt8)=>.an (V2 m (wrap i64 v) x2) (.lv (pR m (wrap i64 v) x2) λ(x3:List Int×Bool)=>.lf ({A2:=b.A2,D1:=ja u32 b.D1 (ei u32 1 v)},x3.1)))) T1) T1) (.br (port==11) (.an (oB m) (.lv (kU m) λ(x6:List Int)=>.lf ({A2:=b.A2,D1:=oA u32 b.D1 (ei u32 1 v)},x6))) T1)))
def HN b m port v:=(EJ b m port v).m
abbrev Qw0 b m port v:=(EJ b m port v).p
def Zjg:bd:=mT 203 [] true [.agg ie.sig,.one (.ints .u32),.one (.int .i64),.one (.int .u32)] [] (λa r=>EJ (ie.of (aC a 0)) (c9 .u32 a 1) (au a 2) (au a 3)) (λX=>.dw [.agg (ie.cells (X.1)),.all 0]) (λX=>[⟨false,25,1,.ints .u32 (X.2)⟩])
theorem Zf4:bu pG Zjg:=oT (.cons Li (.cons Cg (.cons Qq4 (.cons Z3g (.nil))))) Tryz.func203 Tryz.call203 [.row 25 1 (.ints .u32)] [] 2
def Ml(m:bj)(port v fw:Int):Tree (bj×(List ir)):=
.br (port==0) (.lf (m,[{C2:=1,At:=fw,C8:=0,F0:=[(λ(n:Int)=>UInt8.ofNat n.toNat) (wrap u8 v)]}])) (.br (port==3) (.lv (Pm m.C1 v) λ(x0:jx)=>.lf ({B2:=m.B2,Mem:=m.Mem,B3:=m.B3,C1:=x0,B6:=m.B6,D4:=m.D4,B0:=m.B0,B9:=m.B9,B4:=m.B4,B8:=m.B8},[])) (let T1:Tree ((bj×(List ir))):=.an (Z6c m.B6 m.Mem port v fw) (.lv (Z97 m.B6 m.Mem port v fw) λ(x1:gk×List ir)=>.lf ({B2:=m.B2,Mem:=m.Mem,B3:=m.B3,C1:=m.C1,B6:=x1.1,D4:=m.D4,B0:=m.B0,B9:=m.B9,B4:=m.B4,B8:=m.B8},x1.2));.br (port==4) T1 (.br (port==5) T1 (.br (port==6) T1 (let T2:Tree ((bj×(List ir))):=.an (Z9i m.D4 m.Mem port v fw) (.lv (Zjn m.D4 m.Mem port v fw) λ(x4:iq×List ir)=>.lf ({B2:=m.B2,Mem:=m.Mem,B3:=m.B3,C1:=m.C1,B6:=m.B6,D4:=x4.1,B0:=m.B0,B9:=m.B9,B4:=m.B4,B8:=m.B8},x4.2));.br (port==7) T2 (.br (port==8) T2 (.br (port==9) T2 (let T3:Tree ((bj×(List ir))):=.an (Qw0 m.B0 m.Mem port v) (.lv (HN m.B0 m.Mem port v) λ(x7:ie×List Int)=>.lf ({B2:=m.B2,Mem:=x7.2,B3:=m.B3,C1:=m.C1,B6:=m.B6,D4:=m.D4,B0:=x7.1,B9:=m.B9,B4:=m.B4,B8:=m.B8},[]));.br (port==10) T3 (.br (port==11) T3 (.lf (m,[])))))))))))
def FQ m port v fw:=(Ml m port v fw).m
abbrev Qj3 m port v fw:=(Ml m port v fw).p
def Qz6:bd:=bd.fz<|lj 139 [] false [.agg bj.sig,.one (.int .i64),.one (.int .u32),.one (.int .u64)] [] (λa r=>Qj3 (bj.of (aC a 0)) (au a 1) (au a 2) (au a 3)) (λa r=>FQ (bj.of (aC a 0)) (au a 1) (au a 2) (au a 3)) (λX=>.dw [.agg (bj.cells (X.1)),.sl 4 (.ao .cu (X.2)) true]) (λX=>[])
theorem Qxn:bu pG Qz6:=AF<|sF drawn jL (.cons Zoy (.cons Ztb (.cons Zyr (.cons Zf4 (.nil))))) Tryz.func139 Tryz.call139 (λa r=>Ml (bj.of (aC a 0)) (au a 1) (au a 2) (au a 3)) [.sl (.ints .u32) false,.sl (.ao .cu) true] [] 2 (λ_ _ _=>by kernel_rfl) (λ_ _=>rfl) (λ_ _ h=>h) (λh=>by cases h)
def Pu(m:bj)(clock:Int):Tree (bj×(List ir)):=
.an (oB m.Mem) (.lv (kU m.Mem) λ(x0:List Int)=>let E1:=({B2:=m.B2,Mem:=x0,B3:=m.B3,C1:=m.C1,B6:=m.B6,D4:=m.D4,B0:=m.B0,B9:=m.B9,B4:=m.B4,B8:=m.B8}:bj);.an (Qsy E1) (.lv (FL E1) λ(x1:Bool)=>.br (!x1) (.lf (E1,[])) (.an (Qqx E1) (.lv (pU E1) λ(x2:bj)=>.an (Z73 x2.B2 x2.Mem) (.lv (Dg x2.B2 x2.Mem) λ(x3:cq×List Int×ma)=>let E2:=({B2:=x3.1,Mem:=x3.2.1,B3:=x2.B3,C1:=x2.C1,B6:=x2.B6,D4:=x2.D4,B0:=x2.B0,B9:=x2.B9,B4:=x2.B4,B8:=x2.B8}:bj);.br (x3.2.2.C2==1) (.an (Qkl E2 x3.2.2.F1 clock) (.lv (wh E2 x3.2.2.F1 clock) λ(x4:bj×Int)=>.br (x3.2.2.F9 !=0) (.cn (bN 0 1&&decide (0<=x3.2.2.F9/\x3.2.2.F9<(↑16:Int))) (.lf ({B2:={X:=jg.of 0 (dB (jg.l x4.1.B2.X) x3.2.2.F9.toNat x4.2),Pc:=x4.1.B2.Pc,C4:=x4.1.B2.C4},Mem:=x4.1.Mem,B3:=x4.1.B3,C1:=x4.1.C1,B6:=x4.1.B6,D4:=x4.1.D4,B0:=x4.1.B0,B9:=wrap u64 (x4.1.B9+1),B4:=x4.1.B4,B8:=x4.1.B8},[]))) (.lf ({B2:=x4.1.B2,Mem:=x4.1.Mem,B3:=x4.1.B3,C1:=x4.1.C1,B6:=x4.1.B6,D4:=x4.1.D4,B0:=x4.1.B0,B9:=wrap u64 (x4.1.B9+1),B4:=x4.1.B4,B8:=x4.1.B8},[])))) (.br (x3.2.2.C2==2) (.an (Qj3 E2 x3.2.2.F1 x3.2.2.Value m.B9) (.lv (FQ E2 x3.2.2.F1 x3.2.2.Value m.B9) λ(x5:bj×List ir)=>.lf ({B2:=x5.1.B2,Mem:=x5.1.Mem,B3:=x5.1.B3,C1:=x5.1.C1,B6:=x5.1.B6,D4:=x5.1.D4,B0:=x5.1.B0,B9:=wrap u64 (x5.1.B9+1),B4:=x5.1.B4,B8:=x5.1.B8},x5.2))) (.br (x3.2.2.C2==3) (.lf ({B2:=x3.1,Mem:=x3.2.1,B3:=x2.B3,C1:=x2.C1,B6:=x2.B6,D4:=x2.D4,B0:=x2.B0,B9:=wrap u64 (x2.B9+1),B4:=true,B8:=x2.B8},[])) (.br (x3.2.2.C2==4) (.lf ({B2:=x3.1,Mem:=x3.2.1,B3:=x2.B3,C1:=x2.C1,B6:=x2.B6,D4:=x2.D4,B0:=x2.B0,B9:=wrap u64 (x2.B9+1),B4:=x2.B4,B8:=true},[])) (.lf ({B2:=x3.1,Mem:=x3.2.1,B3:=x2.B3,C1:=x2.C1,B6:=x2.B6,D4:=x2.D4,B0:=x2.B0,B9:=wrap u64 (x2.B9+1),B4:=x2.B4,B8:=x2.B8},[]))))))))))
def BW m clock:=(Pu m clock).m
abbrev VY m clock:=(Pu m clock).p
def Zfe:bd:=bd.fz<|lj 92 [] false [.agg bj.sig,.one (.int .u32)] [] (λa r=>VY (bj.of (aC a 0)) (au a 1)) (λa r=>BW (bj.of (aC a 0)) (au a 1)) (λX=>.dw [.agg (bj.cells (X.1)),.sl 4 (.ao .cu (X.2)) false]) (λX=>[])
theorem Zcg:bu pG Zfe:=AF<|sF drawn jL (.cons Li (.cons Zbu (.cons Z7g (.cons Ztv (.cons Qyw (.cons Qxn (.nil))))))) Tryz.func92 Tryz.call92 (λa r=>Pu (bj.of (aC a 0)) (au a 1)) [.sl (.ints .u32) false,.sl (.ao .cu) false] [] 2 (λ_ _ _=>by kernel_rfl) (λ_ _=>rfl) (λ_ _ h=>h) (λh=>by cases h)
end
noncomputable section
def Zae(op:Int):Tree Int:=
let T1:Tree (Int):=.br (op==49) (.lf 3) (let T2:Tree (Int):=.br (op==24) (.lf 6) (.br (op==48) (.lf 7) (.br (op==58) (.lf 8) (.br (op==59) (.lf 8) (.br (op==60) (.lf 9) (.br (op==61) (.lf 9) (.br (op==56) (.lf 1) (.br (op==57) (.lf 1) (.br (decide (op>=62)) (.br (decide (op<=64)) (.lf 1) (.lf 0)) (.lf 0)))))))));.br (decide (op>=17)) (.br (decide (op<=19)) (.lf 4) (.br (decide (op>=20)) (.br (decide (op<=22)) (.lf 5) T2) T2)) (.br (decide (op>=20)) (.br (decide (op<=22)) (.lf 5) T2) T2));let T3:Tree (Int):=.br (op==16) (.lf 3) (.br (op==23) (.lf 3) (.br (decide (op>=32)) (.br (decide (op<=36)) (.lf 3) (.br (decide (op>=40)) (.br (decide (op<=45)) (.lf 3) T1) T1)) (.br (decide (op>=40)) (.br (decide (op<=45)) (.lf 3) T1) T1)));.br (decide (op>=1)) (.br (decide (op<=13)) (.lf 2) T3) T3
def pA op:=(Zae op).m
def Zss:bd:=mS 178 [] true [.one (.int .i64)] [] (λa r=>Zae (au a 0)) (λX=>.int .i64 X) (λX=>[])
theorem TW:bu pG Zss:=oS (.nil) Tryz.func178 Tryz.call178 [] [] 2
def Vm(r:Int):Tree Bool:=
.br (decide (r>=0)) (.lf (decide (r<=15))) (.lf false)
def Mx r:=(Vm r).m
def Zb7:bd:=mS 233 [] true [.one (.int .i64)] [] (λa r=>Vm (au a 0)) (λX=>.bool X) (λX=>[])
theorem Z79:bu pG Zb7:=oS (.nil) Tryz.func233 Tryz.call233 [] [] 2
def ZP(f:Int):Tree (Int×Int):=
.br (f==3) (.lf ((-32768),32767)) (.br (f==7) (.lf ((-32768),32767)) (.br (f==4) (.lf (0,65535)) (.br (f==6) (.lf (0,65535)) (.br (f==5) (.lf (0,31)) (.br (f==8) (.lf (0,7)) (.br (f==9) (.lf (0,11)) (.lf (0,0))))))))
def ZO f:=(ZP f).m
def Zmh:bd:=mS 179 [] true [.one (.int .i64)] [] (λa r=>ZP (au a 0)) (λX=>.dw [.int .i64 (X.1),.int .i64 (X.2)]) (λX=>[])
theorem Qyr:bu pG Zmh:=oS (.nil) Tryz.func179 Tryz.call179 [] [] 2
def Py(i:ig):Tree Bool:=
.lv (pA i.Op) λ(x0:Int)=>.br (x0==0) (.lf false) (.lv (Mx i.A) λ(x1:Bool)=>.br (!x1) (.lf false) (.lv (Mx i.B) λ(x2:Bool)=>.br (!x2) (.lf false) (.lv (Mx i.C) λ(x3:Bool)=>.br (!x3) (.lf false) (.lv (ZO x0) λ(x4:Int×Int)=>.br (decide (wrap i64 i.cv<x4.1)) (.lf false) (.br (decide (wrap i64 i.cv>x4.2)) (.lf false) (let T1:Tree (Bool):=.br (x0==1) (.br (i.A !=0) (.lf false) (.br (i.B==0) (.lf true) (.br (decide (x0>=2)) (.lf (decide (x0<=5))) (.lf false)))) (.br (i.B==0) (.lf true) (.br (decide (x0>=2)) (.lf (decide (x0<=5))) (.lf false)));.br (x0 !=2) (.br (i.C !=0) (.lf false) T1) T1))))))
def FN i:=(Py i).m
def Zpj:bd:=mS 177 [] true [.agg ig.sig] [] (λa r=>Py (ig.of (aC a 0))) (λX=>.bool X) (λX=>[])
theorem Z0y:bu pG Zpj:=oS (.cons TW (.cons Z79 (.cons Qyr (.nil)))) Tryz.func177 Tryz.call177 [] [] 2
def U5(i:ig):Tree (Int×Bool):=
.lv (FN i) λ(x0:Bool)=>.br (!x0) (.lf (0,false)) (.lf (ja u32 (ja u32 (ja u32 (ja u32 (ei u32 (wrap u32 i.Op) 24) (ei u32 (wrap u32 i.A) 20)) (ei u32 (wrap u32 i.B) 16)) (bm u32 (wrap u32 i.cv) 65535)) (wrap u32 i.C),true))
def pz i:=(U5 i).m
def Zmw:bd:=mS 125 [] true [.agg ig.sig] [] (λa r=>U5 (ig.of (aC a 0))) (λX=>.dw [.int .u32 (X.1),.bool (X.2)]) (λX=>[])
theorem Qpc:bu pG Zmw:=oS (.cons Z0y (.nil)) Tryz.func125 Tryz.call125 [] [] 2
def Zhd:Tree (List Int):=
.lf ([1,2,3,4,5,6,7,8,9,10,11,12,13,16,16,17,18,19,20,21,22,23,24,24,32,32,33,34,35,35,36,40,41,42,43,44,45,48,49,56,57,58,59,60,60,61,61,62,63,64])
def Zm0:(List Int):=(Zhd).m
def Zy8:bd:=mS 180 [] true [] [] (λa r=>Zhd) (λX=>.sl 1 (.ints .i64 X) true) (λX=>[])
theorem Zry:bu pG Zy8:=oS (.nil) Tryz.func180 Tryz.call180 [.sl (.ints .i64) true] [] 2
def Zdz(Eu:Int):Tree (Int×Int):=
let E1:=wrap u64 (sn u64 (wrap u64 (Eu+11400714819323198485)) (bn u64 (wrap u64 (Eu+11400714819323198485)) 30)*13787848793156543929);let E2:=wrap u64 (sn u64 E1 (bn u64 E1 27)*10723151780598845931);.lf (sn u64 E2 (bn u64 E2 31),wrap u64 (Eu+11400714819323198485))
def Zn6 Eu:=(Zdz Eu).m
def Zt5:bd:=mS 89 [] true [.one (.int .u64)] [] (λa r=>Zdz (au a 0)) (λX=>.dw [.int .u64 (X.1),.int .u64 (X.2)]) (λX=>[])
theorem Zoz:bu pG Zt5:=oS (.nil) Tryz.func89 Tryz.call89 [] [] 2
def Wh(n k:Int):Tree Int:=
.lv (Zn6 (sn u64 (wrap u64 n) (wrap u64 (wrap u64 k*11400714819323198485)))) λ(x0:Int×Int)=>.lf (wrap i64 (bn u64 x0.1 1))
def Wg n k:=(Wh n k).m
def Zz6:bd:=mS 42 [] true [.one (.int .i64),.one (.int .i64)] [] (λa r=>Wh (au a 0) (au a 1)) (λX=>.int .i64 X) (λX=>[])
theorem Qzf:bu pG Zz6:=oS (.cons Zoz (.nil)) Tryz.func42 Tryz.call42 [] [] 2
def Qw9(n k:Int):Tree Int:=
.cn (decide (k≠0)) (.br (decide (cZ n k<0)) (.lf (wrap i64 (cZ n k+k))) (.lf (cZ n k)))
def GS n k:=(Qw9 n k).m
abbrev Ld n k:=(Qw9 n k).p
def Znw:bd:=mT 28 [] true [.one (.int .i64),.one (.int .i64)] [] (λa r=>Qw9 (au a 0) (au a 1)) (λX=>.int .i64 X) (λX=>[])
theorem Z2n:bu pG Znw:=oT (.nil) Tryz.func28 Tryz.call28 [] [] 2
def Xx(n:Int):Tree ig:=
.lv Zm0 λ(x0:List Int)=>.lv (Wg n 1) λ(x1:Int)=>.an (Ld x1 (x0.length:Int)) (.lv (GS x1 (x0.length:Int)) λ(x2:Int)=>.cn (bX 1 1&&bN 0 1&&decide (0<=x2/\x2<(x0.length:Int))) (.an (Ld (bn i64 x1 8) 6) (.lv (GS (bn i64 x1 8) 6) λ(x3:Int)=>.an (Ld (bn i64 x1 12) 6) (.lv (GS (bn i64 x1 12) 6) λ(x4:Int)=>.an (Ld (bn i64 x1 16) 6) (.lv (GS (bn i64 x1 16) 6) λ(x5:Int)=>.an (Ld (bn i64 x1 20) 24) (.lv (GS (bn i64 x1 20) 24) λ(x6:Int)=>.br (decide (x0.getD x2.toNat (0:Int)<=(13:Int))) (.lf ({Op:=x0.getD x2.toNat 0,A:=x3,B:=x4,C:=x5,cv:=0})) (let E4:=({Op:=x0.getD x2.toNat 0,A:=x3,B:=x4,C:=0,cv:=wrap i32 (wrap i64 (wrap i64 (8*x6)-32))}:ig);let T1:Tree (ig):=.br (x0.getD x2.toNat (0:Int)==(49:Int)) (.lf (E4)) (.br (x0.getD x2.toNat (0:Int)==(24:Int)) (.lf ({Op:=x0.getD x2.toNat 0,A:=x3,B:=0,C:=0,cv:=wrap i32 (wrap i64 (x6*bm i64 (bn i64 x1 40) 1))})) (let T2:Tree (ig):=let E6:=({Op:=x0.getD x2.toNat 0,A:=x3,B:=0,C:=0,cv:=wrap i32 (cZ x6 8)}:ig);.br (x0.getD x2.toNat (0:Int)==(58:Int)) (.lf (E6)) (.br (x0.getD x2.toNat (0:Int)==(59:Int)) (.lf (E6)) (let E5:=({Op:=x0.getD x2.toNat 0,A:=x3,B:=0,C:=0,cv:=wrap i32 (cZ x6 12)}:ig);.br (x0.getD x2.toNat (0:Int)==(60:Int)) (.lf (E5)) (.br (x0.getD x2.toNat (0:Int)==(61:Int)) (.lf (E5)) (.lf ({Op:=x0.getD x2.toNat 0,A:=0,B:=0,C:=0,cv:=0})))));.br (decide (x0.getD x2.toNat (0:Int)>=(17:Int))) (.br (decide (x0.getD x2.toNat (0:Int)<=(22:Int))) (.lf ({Op:=x0.getD x2.toNat 0,A:=x3,B:=x4,C:=0,cv:=wrap i32 x6})) T2) T2));let T3:Tree (ig):=.br (x0.getD x2.toNat (0:Int)==(16:Int)) (.lf (E4)) (.br (x0.getD x2.toNat (0:Int)==(23:Int)) (.lf (E4)) (.br (decide (x0.getD x2.toNat (0:Int)>=(32:Int))) (.br (decide (x0.getD x2.toNat (0:Int)<=(36:Int))) (.lf (E4)) T1) T1));.br (decide (x0.getD x2.toNat (0:Int)>=(40:Int))) (.br (decide (x0.getD x2.toNat (0:Int)<=(48:Int))) (.br (x0.getD x2.toNat (0:Int)==(48:Int)) (.lf ({Op:=x0.getD x2.toNat 0,A:=x3,B:=0,C:=0,cv:=wrap i32 (wrap i64 (x6-12))})) (.lf ({Op:=x0.getD x2.toNat 0,A:=x3,B:=x4,C:=0,cv:=wrap i32 (wrap i64 (x6-12))}))) T3) T3)))))))
def Zo0 n:=(Xx n).m
abbrev Ql n:=(Xx n).p
def Zs8:bd:=mT 127 [] true [.one (.int .i64)] [] (λa r=>Xx (au a 0)) (λX=>.agg (ig.cells X)) (λX=>[])
theorem Zq3:bu pG Zs8:=oT (.cons Zry (.cons Qzf (.cons Z2n (.nil)))) Tryz.func127 Tryz.call127 [] [] 2
def Qyb(l:List Int)(z:(Int)×(List Int)):Prop:=0<=z.1/\z.1<=l.length/\(z.2.length:Int)=z.1
def U6(l:List Int)(z:(Int)×(List Int)):Nat:=(l.length-z.1).toNat
def OQ(l:List Int):Tree (List Int):=
.lp inferInstance (U6 l (0,[])+1) ((((ag.Nil (ag.ints i64 l)\/rE (1:Nat))/\rE (l:List Int))/\True/\rE (0:Int)/\True)/\rE ([]:List Int)/\True) (0,[]) λ(v0:Int×List Int)=>.br (decide (v0.1<(l.length:Int))) (let E1:=bX 1 1&&bN 0 1&&decide (0<=v0.1/\v0.1<(l.length:Int));.cn E1 (let E2:=decide (4*(v0.2.length+1)<=140737488355328);.br (cZ (l.getD v0.1.toNat 0) (17:Int)==(0:Int)) (.cn E1 (.cn E2 (.nx ((((ag.Nil (ag.ints i64 l)\/rE (1:Nat))/\rE (l:List Int))/\True/\rE ((wrap i64 (v0.1+1)):Int)/\True)/\rE ((v0.2++[wrap u32 (bm i64 (l.getD v0.1.toNat 0) 4294967295)]):List Int)/\True) (Sum.inl (wrap i64 (v0.1+1),v0.2++[wrap u32 (bm i64 (l.getD v0.1.toNat 0) 4294967295)]))))) (.cn E1 (.an (Ql (l.getD v0.1.toNat 0)) (.lv (Zo0 (l.getD v0.1.toNat 0)) λ(x0:ig)=>.lv (pz x0) λ(x1:Int×Bool)=>.cn E2 (.nx ((((ag.Nil (ag.ints i64 l)\/rE (1:Nat))/\rE (l:List Int))/\True/\rE ((wrap i64 (v0.1+1)):Int)/\True)/\rE ((v0.2++[x1.1]):List Int)/\True) (Sum.inl (wrap i64 (v0.1+1),v0.2++[x1.1])))))))) (.lf (Sum.inr v0.2))
def VX l:=(OQ l).m
abbrev Qs4 l:=(OQ l).p
def Zo:bw:={
 α:=(Int)×(List Int)
 F:=λst a=>([(0,(lk st 0)),(3,.all 0),(4,.int i64 a.1)],[⟨false,25,1,.ints u32 a.2⟩])
 a0:=λst=>((lk st 4).toInt,(nS st.rows (rN st 3)))
 iU:=λst=>[]++[(rX st 3 0)]}
def Zen:List (Nat×bw):=[(3,Zo)]
def Ztx:bd:=mT 78 [] true [.one (.ints .i64)] [] (λa r=>OQ (c9 .i64 a 0)) (λX=>.all 0) (λX=>[⟨false,25,1,.ints .u32 X⟩])
theorem Zq5:bu pG Ztx:=oT (.cons Qpc (.cons Zq3 (.nil))) Tryz.func78 Tryz.call78 [.row 25 1 (.ints .u32)] Zen 3
def U9(pc:Int):Tree cq:=
.lf ({X:={a0:=0,a1:=0,a2:=0,a3:=0,a4:=0,a5:=0,a6:=0,a7:=0,a8:=0,a9:=0,ug:=0,uh:=0,a12:=0,ui:=0,uj:=0,uk:=0},Pc:=pc,C4:={a0:=1,a1:=0,a2:=0,a3:=0,a4:=0,a5:=0,a6:=0,a7:=0}})
def Y5 pc:=(U9 pc).m
def Zpy:bd:=mS 128 [] true [.one (.int .u32)] [] (λa r=>U9 (au a 0)) (λX=>.agg (cq.cells X)) (λX=>[])
theorem Zm2:bu pG Zpy:=oS (.nil) Tryz.func128 Tryz.call128 [] [] 2
def Kr(bq:Int):Tree (List Int):=
.br (decide (bq<1)) (.lf ([])) (.br (decide (bq>32)) (.lf ([])) (.cn (bN 0 1&&bX 1 1&&List.all [D.int u32 0] D.plain&&decide (0<=wrap i64 (bq*32)/\wrap i64 (bq*32)<=wrap i64 (bq*32)/\wrap i64 (bq*32)<=9223372036854775807/\(↑4:Int)*wrap i64 (bq*32)<=140737488355328)) (.lf (List.replicate (dA (wrap i64 (bq*32))) 0))))
def Mb bq:=(Kr bq).m
abbrev RL bq:=(Kr bq).p
def Zxa:bd:=mT 38 [] true [.one (.int .i64)] [] (λa r=>Kr (au a 0)) (λX=>.all 0) (λX=>[⟨false,25,1,.ints .u32 X⟩])
theorem Za3:bu pG Zxa:=oT (.nil) Tryz.func38 Tryz.call38 [.row 25 1 (.ints .u32)] [] 2
def Hw(bq blocks:Int)(image:List Int):Tree (bj×Bool):=
let T1:Tree ((bj×Bool)):=.lf ({B2:={X:={a0:=0,a1:=0,a2:=0,a3:=0,a4:=0,a5:=0,a6:=0,a7:=0,a8:=0,a9:=0,ug:=0,uh:=0,a12:=0,ui:=0,uj:=0,uk:=0},Pc:=0,C4:={a0:=0,a1:=0,a2:=0,a3:=0,a4:=0,a5:=0,a6:=0,a7:=0}},Mem:=[],B3:={D9:=[]},C1:={E0:=false,D0:=0,D8:=false},B6:={ab:=0,C8:=0,Frame:=0,C9:=0,F5:=0,C5:=0,C6:=0,C7:=[]},D4:={Frame:=0,F7:=0,D2:=false,D5:=0,C3:=false,F8:=0},B0:={A2:=0,D1:=0},B9:=0,B4:=false,B8:=false},false);.br (decide (bq<1)) T1 (.br (decide (bq>32)) T1 (.br (decide (blocks<0)) T1 (.br (decide (blocks>64)) T1 (.br (decide ((image.length:Int)>wrap i64 (bq*32))) T1 (.lv (Y5 0) λ(x0:cq)=>.an (RL bq) (.lv (Mb bq) λ(x1:List Int)=>.lf ({B2:=x0,Mem:=cU (Min.min (image.length) (x1.length)) image++cV (Min.min (image.length) (x1.length)) x1,B3:={D9:=[]},C1:={E0:=false,D0:=0,D8:=false},B6:={ab:=wrap u32 blocks,C8:=0,Frame:=0,C9:=0,F5:=0,C5:=0,C6:=0,C7:=[]},D4:={Frame:=0,F7:=0,D2:=false,D5:=0,C3:=false,F8:=0},B0:={A2:=0,D1:=0},B9:=0,B4:=false,B8:=false},true)))))))
def lT bq blocks image:=(Hw bq blocks image).m
abbrev XG bq blocks image:=(Hw bq blocks image).p
def Zyg:bd:=mT 79 [] true [.one (.int .i64),.one (.int .i64),.one (.ints .u32)] [] (λa r=>Hw (au a 0) (au a 1) (c9 .u32 a 2)) (λX=>.dw [.agg (bj.cg (X.1) (.all 0)),.bool (X.2)]) (λX=>[⟨false,25,1,.ints .u32 (X.1).Mem⟩])
theorem Zu7:bu pG Zyg:=oT (.cons Zm2 (.cons Za3 (.nil))) Tryz.func79 Tryz.call79 [.row 25 1 (.ints .u32)] [] 2
def Qn9(a b:List Int)(z:(Int)):Prop:=0<=z/\z<=a.length/\a.length=b.length
def H4(a b:List Int)(z:(Int)):Nat:=(a.length-z).toNat
def Gg(a b:List Int):Tree Bool:=
.br ((a.length:Int) !=(b.length:Int)) (.lf false) (.lp inferInstance (H4 a b 0+1) ((((ag.Nil (ag.ints u32 a)\/rE (1:Nat))/\rE (a:List Int))/\((ag.Nil (ag.ints u32 b)\/rE (1:Nat))/\rE (b:List Int))/\rE (0:Int)/\True)/\True) 0 λ(v0:Int)=>.br (decide (v0<(a.length:Int))) (.cn (bX 1 1&&bN 0 1&&decide (0<=v0/\v0<(a.length:Int))) (.cn (bX 1 1&&bN 0 1&&decide (0<=v0/\v0<(b.length:Int))) (.br (a.getD v0.toNat 0 !=b.getD v0.toNat 0) (.lf (Sum.inr false)) (.nx ((((ag.Nil (ag.ints u32 a)\/rE (1:Nat))/\rE (a:List Int))/\((ag.Nil (ag.ints u32 b)\/rE (1:Nat))/\rE (b:List Int))/\rE ((wrap i64 (v0+1)):Int)/\True)/\True) (Sum.inl (wrap i64 (v0+1))))))) (.lf (Sum.inr true)))
def Nj a b:=(Gg a b).m
def TX(a b:List Int):Prop:=
a.length<=1000000000000
theorem Z2u(a b:List Int)(hw:TX a b):(Gg a b).p:=by
 simp only[TX]at hw
 unfold Tree.p Gg
 repeat'(first|refine ed (inv:=Qn9 a b) (μ:=H4 a b) ?_ (cN _) (λ_ _=>?_)|exact trivial|refine aa (λ_=>?_) (λ_=>?_)|refine ar ?_ ?_|refine bz ?_ ?_|refine ai (λ_ _=>?_)|refine dj ?_|refine aw ?_|refine And.intro ?_ ?_)
 all_goals((try simp only[Qn9,H4]at*);exact mC)
def Z4a:bw:={
 α:=(Int)
 F:=λst a=>([(0,(lk st 0)),(1,(lk st 1)),(5,.int i64 a)],[])
 a0:=λst=>(lk st 5).toInt
 iU:=λst=>[]++[]}
def Qzj:List (Nat×bw):=[(4,Z4a)]
def Z8d:bd:=lj 67 [] true [.one (.ints .u32),.one (.ints .u32)] [] (λa r=>TX (c9 .u32 a 0) (c9 .u32 a 1)) (λa r=>Nj (c9 .u32 a 0) (c9 .u32 a 1)) (λX=>.bool X) (λX=>[])
theorem Qr2:bu pG Z8d:=sF drawn jL (.nil) Tryz.func67 Tryz.call67 (λa r=>Gg (c9 .u32 a 0) (c9 .u32 a 1)) [] Qzj 3 (hp:=λa r h=>Z2u (c9 .u32 a 0) (c9 .u32 a 1) h)
def Ru(a b:bj):Tree Bool:=
.br (eqs [D.int u32 a.B2.X.a0,D.int u32 a.B2.X.a1,D.int u32 a.B2.X.a2,D.int u32 a.B2.X.a3,D.int u32 a.B2.X.a4,D.int u32 a.B2.X.a5,D.int u32 a.B2.X.a6,D.int u32 a.B2.X.a7,D.int u32 a.B2.X.a8,D.int u32 a.B2.X.a9,D.int u32 a.B2.X.ug,D.int u32 a.B2.X.uh,D.int u32 a.B2.X.a12,D.int u32 a.B2.X.ui,D.int u32 a.B2.X.uj,D.int u32 a.B2.X.uk,D.int u32 a.B2.Pc,D.int u32 a.B2.C4.a0,D.int u32 a.B2.C4.a1,D.int u32 a.B2.C4.a2,D.int u32 a.B2.C4.a3,D.int u32 a.B2.C4.a4,D.int u32 a.B2.C4.a5,D.int u32 a.B2.C4.a6,D.int u32 a.B2.C4.a7] [D.int u32 b.B2.X.a0,D.int u32 b.B2.X.a1,D.int u32 b.B2.X.a2,D.int u32 b.B2.X.a3,D.int u32 b.B2.X.a4,D.int u32 b.B2.X.a5,D.int u32 b.B2.X.a6,D.int u32 b.B2.X.a7,D.int u32 b.B2.X.a8,D.int u32 b.B2.X.a9,D.int u32 b.B2.X.ug,D.int u32 b.B2.X.uh,D.int u32 b.B2.X.a12,D.int u32 b.B2.X.ui,D.int u32 b.B2.X.uj,D.int u32 b.B2.X.uk,D.int u32 b.B2.Pc,D.int u32 b.B2.C4.a0,D.int u32 b.B2.C4.a1,D.int u32 b.B2.C4.a2,D.int u32 b.B2.C4.a3,D.int u32 b.B2.C4.a4,D.int u32 b.B2.C4.a5,D.int u32 b.B2.C4.a6,D.int u32 b.B2.C4.a7]) (.an (TX a.Mem b.Mem) (.lv (Nj a.Mem b.Mem) λ(x0:Bool)=>.br x0 (.br (eqs [D.str a.B3.D9] [D.str b.B3.D9]) (.br (eqs [D.bool a.C1.E0,D.int u32 a.C1.D0,D.bool a.C1.D8] [D.bool b.C1.E0,D.int u32 b.C1.D0,D.bool b.C1.D8]) (.br (eqs [D.int u32 a.B6.ab,D.int u32 a.B6.C8,D.int u32 a.B6.Frame,D.int i64 a.B6.C9,D.int i64 a.B6.F5,D.int u32 a.B6.C5,D.int u32 a.B6.C6,D.str a.B6.C7] [D.int u32 b.B6.ab,D.int u32 b.B6.C8,D.int u32 b.B6.Frame,D.int i64 b.B6.C9,D.int i64 b.B6.F5,D.int u32 b.B6.C5,D.int u32 b.B6.C6,D.str b.B6.C7]) (.br (eqs [D.int u32 a.D4.Frame,D.int u32 a.D4.F7,D.bool a.D4.D2,D.int u32 a.D4.D5,D.bool a.D4.C3,D.int u32 a.D4.F8] [D.int u32 b.D4.Frame,D.int u32 b.D4.F7,D.bool b.D4.D2,D.int u32 b.D4.D5,D.bool b.D4.C3,D.int u32 b.D4.F8]) (.br (eqs [D.int u32 a.B0.A2,D.int u32 a.B0.D1] [D.int u32 b.B0.A2,D.int u32 b.B0.D1]) (.br (a.B9==b.B9) (.br (a.B4==b.B4) (.lf (a.B8==b.B8)) (.lf false)) (.lf false)) (.lf false)) (.lf false)) (.lf false)) (.lf false)) (.lf false)) (.lf false))) (.lf false)
def Nv a b:=(Ru a b).m
abbrev Kn a b:=(Ru a b).p
def Zt3:bd:=mT 24 [] true [.agg bj.sig,.agg bj.sig] [] (λa r=>Ru (bj.of (aC a 0)) (bj.of (aC a 1))) (λX=>.bool X) (λX=>[])
theorem XH:bu pG Zt3:=oT (.cons Qr2 (.nil)) Tryz.func24 Tryz.call24 [] [] 2
