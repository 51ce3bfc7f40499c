import Derived.Test.YtaemmjbkndlkeaaGreatMigrateStartsFh
import Derived.Test.YtaemmjbkndlkeaaGreatMigrateStartsYx
open List renaming take->cU,drop->cV,length->dF,set->dB,getD->aV
open Int renaming toNat->dA,tmod->cZ
open UInt8 renaming toNat->iB
open Nat renaming blt->bN,beq->bX,lt_succ_self->cN
set_option maxRecDepth 100000
set_option linter.all false
namespace Go.Proofs.YtaemmjbkndlkeaaGreat
open Go Go.GD Go.IntKind
noncomputable section
def I0(m:bg):Tree Bool:=
.an (VO m) (.lv (AY m) λ(x0:Bool)=>.br x0 (.br (!m.B5) (.an (Qqw m) (.lv (TG m) λ(x1:Bool)=>.br (!x1) (.lf (decide (m.B6<1152921504606846976))) (.lf false))) (.lf false)) (.lf false))
def EK m:=(I0 m).m
abbrev Qqa m:=(I0 m).p
def Zbj:bb:=mT 135 [] true [.agg bg.sig] [] (λa r=>I0 (bg.of (aC a 0))) (λX=>.bool X) (λX=>[])
theorem Z7k:bj pG Zbj:=oT (.cons Qvn (.cons Z72 (.nil))) Tryz.func135 Tryz.call135 [] [] 2
def Qky(m:bg)(z:(Int)):Nat:=(5-z).toNat
def Lu(m:bg):Tree bg:=
let E1:=({B4:=m.B4,Mem:=m.Mem,B1:=m.B1,B8:=m.B8,B7:=m.B7,D4:=m.D4,A6:=m.A6,B6:=m.B6,B2:=false,B5:=m.B5}:bg);.br (bh u32 m.B4.C3.a0 (2:Int)==(0:Int)) (.lf (E1)) (.an (Qd8 E1) (.lv (L2 E1) λ(x0:Int)=>.lp inferInstance (Qky m 0+1) ((rZ/\rZ/\rE (x0:Int)/\rE (0:Int)/\True)/\(rE m.B4.X.a0/\rE m.B4.X.a1/\rE m.B4.X.a2/\rE m.B4.X.a3/\rE m.B4.X.a4/\rE m.B4.X.a5/\rE m.B4.X.a6/\rE m.B4.X.a7/\rE m.B4.X.a8/\rE m.B4.X.a9/\rE m.B4.X.kO/\rE m.B4.X.kP/\rE m.B4.X.a12/\rE m.B4.X.kQ/\rE m.B4.X.kR/\rE m.B4.X.kS/\rE m.B4.Pc/\rE m.B4.C3.a0/\rE m.B4.C3.a1/\rE m.B4.C3.a2/\rE m.B4.C3.a3/\rE m.B4.C3.a4/\rE m.B4.C3.a5/\rE m.B4.C3.a6/\rE m.B4.C3.a7/\((ai.Nil (ai.ints u32 m.Mem)\/rE (1:Nat))/\rE m.Mem)/\rE m.B1.D9/\rE m.B8.F1/\rE m.B8.D3/\rE m.B8.E0/\rE m.B7.ab/\rE m.B7.C8/\rE m.B7.Frame/\rE m.B7.C9/\rE m.B7.F5/\rE m.B7.C5/\rE m.B7.C6/\rE m.B7.C7/\rE m.D4.Frame/\rE m.D4.F6/\rE m.D4.D1/\rE m.D4.D2/\rE m.D4.C4/\rE m.D4.F9/\rE m.A6.A2/\rE m.A6.D0/\rE m.B6/\rE (false:Bool)/\rE m.B5/\True)/\(mE zM True True)/\True) 0 λ(v0:Int)=>.br (decide (v0<5)) (.cn (decide (0<=v0)) (.br (bh u32 x0 (ep u32 1 v0) !=0) (.lv (rb m.B4 (wrap i64 (16+v0)) 0) λ(x1:bq)=>.lf (Sum.inr {B4:=x1,Mem:=m.Mem,B1:=m.B1,B8:=m.B8,B7:=m.B7,D4:=m.D4,A6:=m.A6,B6:=m.B6,B2:=false,B5:=m.B5})) (.nx ((rZ/\rZ/\rE (x0:Int)/\rE ((wrap i64 (v0+1)):Int)/\True)/\(rE m.B4.X.a0/\rE m.B4.X.a1/\rE m.B4.X.a2/\rE m.B4.X.a3/\rE m.B4.X.a4/\rE m.B4.X.a5/\rE m.B4.X.a6/\rE m.B4.X.a7/\rE m.B4.X.a8/\rE m.B4.X.a9/\rE m.B4.X.kO/\rE m.B4.X.kP/\rE m.B4.X.a12/\rE m.B4.X.kQ/\rE m.B4.X.kR/\rE m.B4.X.kS/\rE m.B4.Pc/\rE m.B4.C3.a0/\rE m.B4.C3.a1/\rE m.B4.C3.a2/\rE m.B4.C3.a3/\rE m.B4.C3.a4/\rE m.B4.C3.a5/\rE m.B4.C3.a6/\rE m.B4.C3.a7/\((ai.Nil (ai.ints u32 m.Mem)\/rE (1:Nat))/\rE m.Mem)/\rE m.B1.D9/\rE m.B8.F1/\rE m.B8.D3/\rE m.B8.E0/\rE m.B7.ab/\rE m.B7.C8/\rE m.B7.Frame/\rE m.B7.C9/\rE m.B7.F5/\rE m.B7.C5/\rE m.B7.C6/\rE m.B7.C7/\rE m.D4.Frame/\rE m.D4.F6/\rE m.D4.D1/\rE m.D4.D2/\rE m.D4.C4/\rE m.D4.F9/\rE m.A6.A2/\rE m.A6.D0/\rE m.B6/\rE (false:Bool)/\rE m.B5/\True)/\(mE zM True True)/\True) (Sum.inl (wrap i64 (v0+1)))))) (.lf (Sum.inr E1))))
def pd m:=(Lu m).m
abbrev Qob m:=(Lu m).p
def Z50:bu:={
 α:=(Int)
 F:=λst a=>([(1,.ptr 0 0 0),(2,.ptr 1 0 0),(3,(lk st 3)),(15,.int i64 a)],[⟨true,43,49,.gen [mB (cT st 1)]⟩,⟨true,43,49,.gen [mB (cT st 2)]⟩])
 a0:=λst=>(lk st 15).toInt
 iZ:=λst=>[]++[(rX st 1 0),(rX st 2 1)]}
def Qyl:List (Nat×bu):=[(6,Z50)]
def Z9n:bb:=bb.fz<|kH 136 [] false [.agg bg.sig] [] (λa r=>Qob (bg.of (aC a 0))) (λa r=>pd (bg.of (aC a 0))) (λX=>.agg (bg.cells X)) (λX=>[])
theorem Z4s:bj pG Z9n:=wV<|rU drawn jt (.cons Qmj (.cons Sq (.nil))) Tryz.func136 Tryz.call136 (λa r=>Lu (bg.of (aC a 0))) [.sl (.ints .u32) false] Qyl 3 (λ_ _ _=>by kernel_rfl) (λ_ _=>rfl) (λ_ _ h=>h) (λh=>by cases h)
def IU(c:iV)(port:Int):Tree (iV×Int):=
.br (port==0) (.br (decide (c.D9=[])) (.lf (c,4294967295)) (.cn (decide ((0:Int)<=(0:Int)/\0<(c.D9.length:Int))) (.cn (decide ((0:Int)<=(1:Int)/\1<=(c.D9.length:Int)/\(c.D9.length:Int)<=(c.D9.length:Int))) (.lf ({D9:=cU (dA (c.D9.length:Int)-dA 1) (cV (dA 1) c.D9)},wrap u32 (↑(iB (c.D9.getD (dA 0) (0:UInt8))):Int)))))) (.br (port==1) (.lf (c,wrap u32 (c.D9.length:Int))) (.lf (c,0)))
def X2 c port:=(IU c port).m
theorem Zbb(c:iV)(port:Int):(IU c port).p:=by
 unfold Tree.p IU
 repeat'(first|exact trivial|refine ae (λ_=>?_) (λ_=>?_)|refine av ?_ ?_|refine cg ?_ ?_|refine aq (λ_ _=>?_)|refine ee ?_|refine ba ?_|refine And.intro ?_ ?_)
 all_goals(exact lU)
def Zlt:bb:=mS 195 [] true [.agg iV.sig,.one (.int .i64)] [] (λa r=>IU (iV.of (aC a 0)) (au a 1)) (λX=>.dw [.agg (iV.cells (X.1)),.int .u32 (X.2)]) (λX=>[])
theorem Zhn:bj pG Zlt:=oS (.nil) Tryz.func195 Tryz.call195 [] [] 2 (λ_ _ _=>by kernel_rfl) (λa r=>Zbb (iV.of (aC a 0)) (au a 1)) (λ_ X=>by kernel_rfl)
def TB(t:jc):Tree Int:=
.br t.E0 (.lf 1) (.lf 0)
def Xr t:=(TB t).m
def Zv3:bb:=mS 196 [] true [.agg jc.sig] [] (λa r=>TB (jc.of (aC a 0))) (λX=>.int .u32 X) (λX=>[])
theorem Zpn:bj pG Zv3:=oS (.nil) Tryz.func196 Tryz.call196 [] [] 2
def TC(d0:gh)(port:Int):Tree Int:=
.br (port==4) (.lf d0.C8) (.br (port==5) (.lf d0.Frame) (.br (port==6) (.lf (wrap u32 d0.C9)) (.lf 0)))
def Oi d0 port:=(TC d0 port).m
def vD:bb:=mS 197 [] true [.agg gh.sig,.one (.int .i64)] [] (λa r=>TC (gh.of (aC a 0)) (au a 1)) (λX=>.int .u32 X) (λX=>[])
theorem Ztm:bj pG vD:=oS (.nil) Tryz.func197 Tryz.call197 [] [] 2
def Oj(n:ik)(port:Int):Tree Int:=
.br (port==7) (.lf n.Frame) (.br (port==8) (.lf n.F9) (.br (port==9) (.br n.D1 (.br n.C4 (.lf (wrap u32 (wrap u32 ((0:Int)+(1:Int))+2))) (.lf (wrap u32 ((0:Int)+(1:Int))))) (.br n.C4 (.lf (wrap u32 ((0:Int)+(2:Int)))) (.lf 0))) (.lf 0)))
def Lo n port:=(Oj n port).m
def zZ:bb:=mS 198 [] true [.agg ik.sig,.one (.int .i64)] [] (λa r=>Oj (ik.of (aC a 0)) (au a 1)) (λX=>.int .u32 X) (λX=>[])
theorem qE:bj pG zZ:=oS (.nil) Tryz.func198 Tryz.call198 [] [] 2
def Lp(b:gx)(port:Int):Tree Int:=
.br (port==10) (.lf b.A2) (.br (port==11) (.an (Qfv b) (.lv (Ub b) λ(x0:Int)=>.lf (wrap u32 x0))) (.lf 0))
def Ye b port:=(Lp b port).m
abbrev Qvc b port:=(Lp b port).p
def Zj1:bb:=mT 199 [] true [.agg gx.sig,.one (.int .i64)] [] (λa r=>Lp (gx.of (aC a 0)) (au a 1)) (λX=>.int .u32 X) (λX=>[])
theorem Zgy:bj pG Zj1:=oT (.cons Qql (.nil)) Tryz.func199 Tryz.call199 [] [] 2
def Ln(m:bg)(port clock:Int):Tree (bg×Int):=
let T1:Tree ((bg×Int)):=.lv (X2 m.B1 port) λ(x0:iV×Int)=>.lf ({B4:=m.B4,Mem:=m.Mem,B1:=x0.1,B8:=m.B8,B7:=m.B7,D4:=m.D4,A6:=m.A6,B6:=m.B6,B2:=m.B2,B5:=m.B5},x0.2);.br (port==0) T1 (.br (port==1) T1 (.br (port==2) (.lf (m,clock)) (.br (port==3) (.lv (Xr m.B8) λ(x2:Int)=>.lf (m,x2)) (.br (port==4) (.lv (Oi m.B7 port) λ(x3:Int)=>.lf (m,x3)) (.br (port==5) (.lv (Oi m.B7 port) λ(x4:Int)=>.lf (m,x4)) (.br (port==6) (.lv (Oi m.B7 port) λ(x5:Int)=>.lf (m,x5)) (.br (port==7) (.lv (Lo m.D4 port) λ(x6:Int)=>.lf (m,x6)) (.br (port==8) (.lv (Lo m.D4 port) λ(x7:Int)=>.lf (m,x7)) (.br (port==9) (.lv (Lo m.D4 port) λ(x8:Int)=>.lf (m,x8)) (let T2:Tree ((bg×Int)):=.an (Qvc m.A6 port) (.lv (Ye m.A6 port) λ(x9:Int)=>.lf (m,x9));.br (port==10) T2 (.br (port==11) T2 (.lf (m,0)))))))))))))
def uz m port clock:=(Ln m port clock).m
abbrev Qis m port clock:=(Ln m port clock).p
def Qyx:bb:=bb.fz<|kH 138 [] false [.agg bg.sig,.one (.int .i64),.one (.int .u32)] [] (λa r=>Qis (bg.of (aC a 0)) (au a 1) (au a 2)) (λa r=>uz (bg.of (aC a 0)) (au a 1) (au a 2)) (λX=>.dw [.agg (bg.cells (X.1)),.int .u32 (X.2)]) (λX=>[])
theorem Qwm:bj pG Qyx:=wV<|rU drawn jt (.cons Zhn (.cons Zpn (.cons Ztm (.cons qE (.cons Zgy (.nil)))))) Tryz.func138 Tryz.call138 (λa r=>Ln (bg.of (aC a 0)) (au a 1) (au a 2)) [.sl (.ints .u32) false] [] 2 (λ_ _ _=>by kernel_rfl) (λ_ _=>rfl) (λ_ _ h=>h) (λh=>by cases h)
def Ty(t:jc)(deadline:Int):Tree jc:=
.lf ({F1:=deadline !=0,D3:=deadline,E0:=false})
def Oe t deadline:=(Ty t deadline).m
def Zni:bb:=mS 200 [] true [.agg jc.sig,.one (.int .u32)] [] (λa r=>Ty (jc.of (aC a 0)) (au a 1)) (λX=>.agg (jc.cells X)) (λX=>[])
theorem Zlq:bj pG Zni:=oS (.nil) Tryz.func200 Tryz.call200 [] [] 2
def Tv(m:List Int)(frame:Int):Tree Bool:=
.lv (jP m) λ(x0:Int)=>.lf (decide (wrap u64 frame<wrap u64 x0))
def Oa m frame:=(Tv m frame).m
def Zij:bb:=mS 280 [] true [.one (.ints .u32),.one (.int .u32)] [] (λa r=>Tv (de .u32 a 0) (au a 1)) (λX=>.bool X) (λX=>[])
theorem Zb3:bj pG Zij:=oS (.cons Br (.nil)) Tryz.func280 Tryz.call280 [] [] 2
def Ld(m:List Int)(frame:Int):Tree Bool:=
.br (decide (frame>=0)) (.lv (jP m) λ(x0:Int)=>.lf (decide (frame<x0))) (.lf false)
def EC m frame:=(Ld m frame).m
def Z4m:bb:=mS 145 [] true [.one (.ints .u32),.one (.int .i64)] [] (λa r=>Ld (de .u32 a 0) (au a 1)) (λX=>.bool X) (λX=>[])
theorem Qoq:bj pG Z4m:=oS (.cons Br (.nil)) Tryz.func145 Tryz.call145 [] [] 2
def Qqu(words:List Int)(z:(Int)×(List Int)):Prop:=0<=z.1/\z.1<=words.length/\(z.2.length:Int)=4*z.1
def N6(words:List Int)(z:(Int)×(List Int)):Nat:=(words.length-z.1).toNat
def EE(words:List Int):Tree (List UInt8):=
.cn (bN 0 1&&bX 1 1&&List.all [D.int u8 0] D.plain&&decide ((0:Int)<=(0:Int)/\0<=wrap i64 (4*(words.length:Int))/\wrap i64 (4*(words.length:Int))<=9223372036854775807/\(↑1:Int)*wrap i64 (4*(words.length:Int))<=140737488355328)) (.lp inferInstance (N6 words (0,[])+1) ((True/\((ai.Nil (ai.ints u32 words)\/rE (1:Nat))/\rE (words:List Int))/\rE ((words.length:Int):Int)/\rE (0:Int)/\True)/\rE ([]:List Int)/\True) (0,[]) λ(v0:Int×List Int)=>.br (decide (v0.1<(words.length:Int))) (.cn (bX 1 1&&bN 0 1&&decide (0<=v0.1/\v0.1<(words.length:Int))) (.cn (decide (1*(v0.2.length+4)<=140737488355328)) (let E1:=words.getD v0.1.toNat 0;.nx ((True/\((ai.Nil (ai.ints u32 words)\/rE (1:Nat))/\rE (words:List Int))/\rE ((words.length:Int):Int)/\rE ((wrap i64 (v0.1+1)):Int)/\True)/\rE ((v0.2++[wrap u8 (words.getD v0.1.toNat 0),wrap u8 (bm u32 (words.getD v0.1.toNat 0) 8),wrap u8 (bm u32 (words.getD v0.1.toNat 0) 16),wrap u8 (bm u32 (words.getD v0.1.toNat 0) 24)]):List Int)/\True) (Sum.inl (wrap i64 (v0.1+1),v0.2++[wrap u8 E1,wrap u8 (bm u32 E1 8),wrap u8 (bm u32 E1 16),wrap u8 (bm u32 E1 24)]))))) (.lf (Sum.inr (bytesOf v0.2))))
def Za2 words:=(EE words).m
def VW(words:List Int):Prop:=
words.length<=1000000000000
theorem Za8(words:List Int)(hw:VW words):(EE words).p:=by
 simp only[VW]at hw
 unfold Tree.p EE
 repeat'(first|refine eu (inv:=Qqu words) (μ:=N6 words) ?_ (cN _) (λ_ _=>?_)|exact trivial|refine ae (λ_=>?_) (λ_=>?_)|refine av ?_ ?_|refine cg ?_ ?_|refine aq (λ_ _=>?_)|refine ee ?_|refine ba ?_|refine And.intro ?_ ?_)
 all_goals((try simp only[Qqu,N6]at*);exact lU)
def Zcd:bu:={
 α:=(Int)×(List Int)
 F:=λst a=>([(3,.all 0),(10,(lk st 10)),(11,(lk st 11)),(12,.int i64 a.1)],[⟨false,5,1,.ints u8 a.2⟩])
 a0:=λst=>((lk st 12).toInt,(pZ st.rows (rN st 3)))
 iZ:=λst=>[]++[(rX st 3 0)]}
def Z47:List (Nat×bu):=[(3,Zcd)]
def Zg2:bb:=kH 146 [] true [.one (.ints .u32)] [] (λa r=>VW (de .u32 a 0)) (λa r=>Za2 (de .u32 a 0)) (λX=>.str X) (λX=>[])
theorem Zb5:bj pG Zg2:=rU drawn jt (.nil) Tryz.func146 Tryz.call146 (λa r=>EE (de .u32 a 0)) [] Z47 3 (hp:=λa r h=>Za8 (de .u32 a 0) h)
def DJ(m:List Int)(frame:Int):Tree ((List UInt8)×Bool):=
.lv (EC m frame) λ(x0:Bool)=>.br (!x0) (.lf ([],false)) (.cn (bX 1 1&&bN 0 1&&decide (0<=wrap i64 (frame*32)/\wrap i64 (frame*32)<=wrap i64 (wrap i64 (frame*32)+32)/\wrap i64 (wrap i64 (frame*32)+32)<=(m.length:Int))) (let E1:=cU (dA (wrap i64 (wrap i64 (frame*32)+32))-dA (wrap i64 (frame*32))) (cV (dA (wrap i64 (frame*32))) m);.an (VW E1) (.lv (Za2 E1) λ(x1:List UInt8)=>.lf (x1,true))))
def jG m frame:=(DJ m frame).m
abbrev OZ m frame:=(DJ m frame).p
def Zfs:bb:=mT 99 [] true [.one (.ints .u32),.one (.int .i64)] [] (λa r=>DJ (de .u32 a 0) (au a 1)) (λX=>.dw [.str (X.1),.bool (X.2)]) (λX=>[])
theorem Su:bj pG Zfs:=oT (.cons Qoq (.cons Zb5 (.nil))) Tryz.func99 Tryz.call99 [] [] 2
def Qvs(d0:gh)(gl:Int):Tree (ir×Bool):=
.br (d0.C9 !=1) (.lf ({C2:=0,At:=0,C8:=0,F0:=[]},false)) (.br (d0.F5==1) (.lf ({C2:=3,At:=gl,C8:=d0.C5,F0:=[]},true)) (.br (d0.F5==2) (.lf ({C2:=4,At:=gl,C8:=d0.C5,F0:=d0.C7},true)) (.lf ({C2:=0,At:=0,C8:=0,F0:=[]},false))))
def X7 d0 gl:=(Qvs d0 gl).m
def Zcc:bb:=mS 281 [] true [.agg gh.sig,.one (.int .u64)] [] (λa r=>Qvs (gh.of (aC a 0)) (au a 1)) (λX=>.dw [.agg (ir.cells (X.1)),.bool (X.2)]) (λX=>[])
theorem Z9l:bj pG Zcc:=oS (.nil) Tryz.func281 Tryz.call281 [] [] 2
def Lg(d0:gh)(m:List Int)(cmd gl:Int):Tree (gh×(List ir)):=
.br (d0.C9 !=0) (.lf (d0,[])) (let T1:Tree ((gh×(List ir))):=.lf ({ab:=d0.ab,C8:=d0.C8,Frame:=d0.Frame,C9:=3,F5:=d0.F5,C5:=d0.C5,C6:=d0.C6,C7:=d0.C7},[]);.br (decide (d0.C8>=d0.ab)) T1 (.lv (Oa m d0.Frame) λ(x0:Bool)=>.br (!x0) T1 (.br (cmd==2) (.an (OZ m (wrap i64 d0.Frame)) (.lv (jG m (wrap i64 d0.Frame)) λ(x1:List UInt8×Bool)=>.lv (X7 {ab:=d0.ab,C8:=d0.C8,Frame:=d0.Frame,C9:=1,F5:=cmd,C5:=d0.C8,C6:=d0.Frame,C7:=x1.1} gl) λ(x2:ir×Bool)=>.lf ({ab:=d0.ab,C8:=d0.C8,Frame:=d0.Frame,C9:=1,F5:=cmd,C5:=d0.C8,C6:=d0.Frame,C7:=x1.1},[x2.1]))) (.lv (X7 {ab:=d0.ab,C8:=d0.C8,Frame:=d0.Frame,C9:=1,F5:=cmd,C5:=d0.C8,C6:=d0.Frame,C7:=[]} gl) λ(x3:ir×Bool)=>.lf ({ab:=d0.ab,C8:=d0.C8,Frame:=d0.Frame,C9:=1,F5:=cmd,C5:=d0.C8,C6:=d0.Frame,C7:=[]},[x3.1])))))
def Z24 d0 m cmd gl:=(Lg d0 m cmd gl).m
abbrev Qvr d0 m cmd gl:=(Lg d0 m cmd gl).p
def Zji:bb:=mT 250 [] true [.agg gh.sig,.one (.ints .u32),.one (.int .i64),.one (.int .u64)] [] (λa r=>Lg (gh.of (aC a 0)) (de .u32 a 1) (au a 2) (au a 3)) (λX=>.dw [.agg (gh.cells (X.1)),.sl 4 (.ah .cf (X.2)) true]) (λX=>[])
theorem Zgz:bj pG Zji:=oT (.cons Zb3 (.cons Su (.cons Z9l (.nil)))) Tryz.func250 Tryz.call250 [.sl (.ah .cf) true] [] 2
def Lh(d0:gh)(m:List Int)(port v gl:Int):Tree (gh×(List ir)):=
.br (port==4) (.lf ({ab:=d0.ab,C8:=v,Frame:=d0.Frame,C9:=d0.C9,F5:=d0.F5,C5:=d0.C5,C6:=d0.C6,C7:=d0.C7},[])) (.br (port==5) (.lf ({ab:=d0.ab,C8:=d0.C8,Frame:=v,C9:=d0.C9,F5:=d0.F5,C5:=d0.C5,C6:=d0.C6,C7:=d0.C7},[])) (.br (port==6) (let T1:Tree ((gh×(List ir))):=.an (Qvr d0 m (wrap i64 v) gl) (.lv (Z24 d0 m (wrap i64 v) gl) λ(x0:gh×List ir)=>.lf (x0.1,x0.2));.br (v==1) T1 (.br (v==2) T1 (.br (v==0) (.lv (Li d0) λ(x2:Bool)=>.br x2 (.lf ({ab:=d0.ab,C8:=d0.C8,Frame:=d0.Frame,C9:=0,F5:=d0.F5,C5:=d0.C5,C6:=d0.C6,C7:=d0.C7},[])) (.lf (d0,[]))) (.lf (d0,[]))))) (.lf (d0,[]))))
def X5 d0 m port v gl:=(Lh d0 m port v gl).m
abbrev Z3e d0 m port v gl:=(Lh d0 m port v gl).p
def Zul:bb:=mT 201 [] true [.agg gh.sig,.one (.ints .u32),.one (.int .i64),.one (.int .u32),.one (.int .u64)] [] (λa r=>Lh (gh.of (aC a 0)) (de .u32 a 1) (au a 2) (au a 3) (au a 4)) (λX=>.dw [.agg (gh.cells (X.1)),.sl 4 (.ah .cf (X.2)) true]) (λX=>[])
theorem Zpq:bj pG Zul:=oT (.cons Zgz (.cons Qrm (.nil))) Tryz.func201 Tryz.call201 [.sl (.ah .cf) true] [] 2
def Tw(m:List Int)(frame:Int):Tree Bool:=
.lv (jP m) λ(x0:Int)=>.lf (decide (wrap u64 frame<wrap u64 x0))
def Lf m frame:=(Tw m frame).m
def Zl4:bb:=mS 253 [] true [.one (.ints .u32),.one (.int .u32)] [] (λa r=>Tw (de .u32 a 0) (au a 1)) (λX=>.bool X) (λX=>[])
theorem Qxv:bj pG Zl4:=oS (.cons Br (.nil)) Tryz.func253 Tryz.call253 [] [] 2
def Lj(n:ik)(m:List Int)(gl:Int):Tree (List ir):=
.br (decide (n.F6<1)) (.lf ([])) (.br (decide (n.F6>128)) (.lf ([])) (.lv (Lf m n.Frame) λ(x0:Bool)=>.br (!x0) (.lf ([])) (.an (OZ m (wrap i64 n.Frame)) (.lv (jG m (wrap i64 n.Frame)) λ(x1:List UInt8×Bool)=>.cn (decide ((0:Int)<=(0:Int)/\0<=n.F6/\n.F6<=(x1.1.length:Int))) (.lf ([{C2:=2,At:=gl,C8:=0,F0:=cU (dA n.F6-dA 0) (cV (dA 0) x1.1)}]))))))
def Zf0 n m gl:=(Lj n m gl).m
abbrev Z33 n m gl:=(Lj n m gl).p
def Zuf:bb:=mT 252 [] true [.agg ik.sig,.one (.ints .u32),.one (.int .u64)] [] (λa r=>Lj (ik.of (aC a 0)) (de .u32 a 1) (au a 2)) (λX=>.sl 4 (.ah .cf X) true) (λX=>[])
theorem Zpl:bj pG Zuf:=oT (.cons Qxv (.cons Su (.nil))) Tryz.func252 Tryz.call252 [.sl (.ah .cf) true] [] 2
def Lk(n:ik)(m:List Int)(port v gl:Int):Tree (ik×(List ir)):=
.br (port==7) (.lf ({Frame:=v,F6:=n.F6,D1:=n.D1,D2:=n.D2,C4:=n.C4,F9:=n.F9},[])) (.br (port==8) (.lf ({Frame:=n.Frame,F6:=v,D1:=n.D1,D2:=n.D2,C4:=n.C4,F9:=n.F9},[])) (.br (port==9) (.br (v==1) (.an (Z33 n m gl) (.lv (Zf0 n m gl) λ(x0:List ir)=>.lf (n,x0))) (.br (v==2) (.lv (Lf m n.Frame) λ(x1:Bool)=>.br x1 (.br (!n.D1) (.br (!n.C4) (.lf ({Frame:=n.Frame,F6:=n.F6,D1:=true,D2:=n.Frame,C4:=n.C4,F9:=n.F9},[])) (.lf (n,[]))) (.lf (n,[]))) (.lf (n,[]))) (.br (v==0) (.lf ({Frame:=n.Frame,F6:=n.F6,D1:=n.D1,D2:=n.D2,C4:=false,F9:=0},[])) (.lf (n,[]))))) (.lf (n,[]))))
def X9 n m port v gl:=(Lk n m port v gl).m
abbrev Z94 n m port v gl:=(Lk n m port v gl).p
def xE:bb:=mT 202 [] true [.agg ik.sig,.one (.ints .u32),.one (.int .i64),.one (.int .u32),.one (.int .u64)] [] (λa r=>Lk (ik.of (aC a 0)) (de .u32 a 1) (au a 2) (au a 3) (au a 4)) (λX=>.dw [.agg (ik.cells (X.1)),.sl 4 (.ah .cf (X.2)) true]) (λX=>[])
theorem Zun:bj pG xE:=oT (.cons Zpl (.cons Qxv (.nil))) Tryz.func202 Tryz.call202 [.sl (.ah .cf) true] [] 2
def Xn(m:List Int)(frame:Int)(s:List UInt8)(z:(Int)×(List Int)):Nat:=(32-z.1).toNat
def IP(m:List Int)(frame:Int)(s:List UInt8):Tree ((List Int)×Bool):=
.an (nQ m) (.lv (kD m) λ(x0:List Int)=>.lv (EC m frame) λ(x1:Bool)=>.br (!x1) (.lf (x0,false)) (.br ((s.length:Int) !=(128:Int)) (.lf (x0,false)) (.lp inferInstance (Xn m frame s (0,x0)+1) ((rE (s:List UInt8)/\True/\rE ((wrap i64 (frame*32)):Int)/\rE (0:Int)/\True)/\rE (x0:List Int)/\True) (0,x0) λ(v0:Int×List Int)=>.br (decide (v0.1<32)) (.cn (decide (0<=wrap i64 (4*v0.1)/\wrap i64 (4*v0.1)<=wrap i64 (wrap i64 (4*v0.1)+4)/\wrap i64 (wrap i64 (4*v0.1)+4)<=(s.length:Int))) (let E1:=cU (dA (wrap i64 (wrap i64 (4*v0.1)+4))-dA (wrap i64 (4*v0.1))) (cV (dA (wrap i64 (4*v0.1))) s);.cn (decide ((0:Int)<=(0:Int)/\0<(↑(dF E1):Int))) (.cn (decide ((0:Int)<=(1:Int)/\1<(↑(dF E1):Int))) (.cn (decide ((0:Int)<=(2:Int)/\2<(↑(dF E1):Int))) (.cn (decide ((0:Int)<=(3:Int)/\3<(↑(dF E1):Int))) (.cn (bX 1 1&&bN 0 1&&decide (0<=wrap i64 (wrap i64 (frame*32)+v0.1)/\wrap i64 (wrap i64 (frame*32)+v0.1)<(v0.2.length:Int))) (.nx ((rE (s:List UInt8)/\True/\rE ((wrap i64 (frame*32)):Int)/\rE ((wrap i64 (v0.1+1)):Int)/\True)/\rE ((dB v0.2 (dA (wrap i64 (wrap i64 (frame*32)+v0.1))) (iN u32 (iN u32 (iN u32 (wrap u32 (↑(iB (aV (cU (dA (wrap i64 (wrap i64 (4*v0.1)+4))-dA (wrap i64 (4*v0.1))) (cV (dA (wrap i64 (4*v0.1))) s)) (dA 0) (0:UInt8))):Int)) (ep u32 (wrap u32 (↑(iB (aV (cU (dA (wrap i64 (wrap i64 (4*v0.1)+4))-dA (wrap i64 (4*v0.1))) (cV (dA (wrap i64 (4*v0.1))) s)) (dA 1) (0:UInt8))):Int)) 8)) (ep u32 (wrap u32 (↑(iB (aV (cU (dA (wrap i64 (wrap i64 (4*v0.1)+4))-dA (wrap i64 (4*v0.1))) (cV (dA (wrap i64 (4*v0.1))) s)) (dA 2) (0:UInt8))):Int)) 16)) (ep u32 (wrap u32 (↑(iB (aV (cU (dA (wrap i64 (wrap i64 (4*v0.1)+4))-dA (wrap i64 (4*v0.1))) (cV (dA (wrap i64 (4*v0.1))) s)) (dA 3) (0:UInt8))):Int)) 24))):List Int)/\True) (Sum.inl (wrap i64 (v0.1+1),dB v0.2 (dA (wrap i64 (wrap i64 (frame*32)+v0.1))) (iN u32 (iN u32 (iN u32 (wrap u32 (↑(iB (aV E1 (dA 0) (0:UInt8))):Int)) (ep u32 (wrap u32 (↑(iB (aV E1 (dA 1) (0:UInt8))):Int)) 8)) (ep u32 (wrap u32 (↑(iB (aV E1 (dA 2) (0:UInt8))):Int)) 16)) (ep u32 (wrap u32 (↑(iB (aV E1 (dA 3) (0:UInt8))):Int)) 24))))))))))) (.lf (Sum.inr (v0.2,true))))))
def rO m frame s:=(IP m frame s).m
abbrev UA m frame s:=(IP m frame s).p
def Z1e:bu:={
 α:=(Int)×(List Int)
 F:=λst a=>([(2,(lk st 2)),(8,.all 0),(9,(lk st 9)),(26,.int i64 a.1)],[⟨false,25,1,.ints u32 a.2⟩])
 a0:=λst=>((lk st 26).toInt,(pZ st.rows (rN st 8)))
 iZ:=λst=>[]++[(rX st 8 0)]}
def Qwh:List (Nat×bu):=[(6,Z1e)]
def Z43:bb:=mT 205 [] true [.one (.ints .u32),.one (.int .i64),.one (.str)] [] (λa r=>IP (de .u32 a 0) (au a 1) (jF a 2)) (λX=>.dw [.all 0,.bool (X.2)]) (λX=>[⟨false,25,1,.ints .u32 (X.1)⟩])
theorem Qo8:bj pG Z43:=oT (.cons Kk (.cons Qoq (.nil))) Tryz.func205 Tryz.call205 [.row 25 1 (.ints .u32)] Qwh 3
def strings_Repeat(s:List UInt8)(count:Int):(List UInt8):=
Lib.repeatL s count.toNat
def Qdy(s:List UInt8)(count:Int):Prop:=
0<=count/\count<=9223372036854775807/\s.length*count.toNat<=140737488355328
def Qlc(s:List UInt8)(count:Int):List D:=[.str s,.int .i64 count]
def Qkh(s:List UInt8)(count:Int):List Row:=[]
def Qf1(X:List UInt8):D:=.str X
def Qep(X:List UInt8):List Row:=[]
def Qmm:List PT:=[.one (.str),.one (.int .i64)]
def Ql0:List RT:=[]
def Qyy(args:List D)(rows:List Row):(List UInt8):=strings_Repeat (jF args 0) (au args 1)
def Qzr(args:List D)(rows:List Row):Prop:=Qdy (jF args 0) (au args 1)
def Z46:bb:=kH 254 [] true Qmm Ql0 Qzr Qyy Qf1 Qep
theorem Quu(s:List UInt8)(count:Int)(hw:Qdy s count):kr pG 254 (Qlc s count) (Qkh s count) (Qf1 (strings_Repeat s count)) (Qep (strings_Repeat s count)):=by
 exact zd Tryz.strings_Repeat hw.1 hw.2.1 hw.2.2
set_option maxRecDepth 100000 in
theorem Qww(args:List D)(rows:List Row):kZ Qmm args 0=Qlc (jF args 0) (au args 1):=by kernel_rfl
set_option maxRecDepth 100000 in
theorem Qv4(args:List D)(rows:List Row):kA Ql0 rows 0=Qkh (jF args 0) (au args 1):=by kernel_rfl
set_option maxRecDepth 100000 in
theorem Z0n(X:List UInt8):(tv (Qf1 X)&&jz (Qep X))=true:=by kernel_rfl
theorem Z2:bj pG Z46:=FQ Tryz.call254 (λargs rows hp=>by rw[Qww args rows,Qv4 args rows];exact Quu (jF args 0) (au args 1) hp) (λ_ X=>Z0n X)
def DM(b:gx)(m:List Int)(port v:Int):Tree (gx×(List Int)):=
let T1:Tree ((gx×(List Int))):=.an (nQ m) (.lv (kD m) λ(x0:List Int)=>.lf (b,x0));.br (decide (v>=32)) T1 (.cn (decide (0<=v)) (.br (port==10) (.lv (jP m) λ(x1:Int)=>.br (decide (wrap i64 v<x1)) (.br (bh u32 b.D0 (ep u32 1 v)==0) (.an (Qdy [(0:UInt8)] 128) (.lv (strings_Repeat [(0:UInt8)] 128) λ(x2:List UInt8)=>.an (UA m (wrap i64 v) x2) (.lv (rO m (wrap i64 v) x2) λ(x3:List Int×Bool)=>.lf ({A2:=b.A2,D0:=iN u32 b.D0 (ep u32 1 v)},x3.1)))) T1) T1) (.br (port==11) (.an (nQ m) (.lv (kD m) λ(x6:List Int)=>.lf ({A2:=b.A2,D0:=oM u32 b.D0 (ep u32 1 v)},x6))) T1)))
def GV b m port v:=(DM b m port v).m
abbrev Qsy b m port v:=(DM b m port v).p
def Zfy:bb:=mT 203 [] true [.agg gx.sig,.one (.ints .u32),.one (.int .i64),.one (.int .u32)] [] (λa r=>DM (gx.of (aC a 0)) (de .u32 a 1) (au a 2) (au a 3)) (λX=>.dw [.agg (gx.cells (X.1)),.all 0]) (λX=>[⟨false,25,1,.ints .u32 (X.2)⟩])
theorem Zc4:bj pG Zfy:=oT (.cons Kk (.cons Br (.cons Qo8 (.cons Z2 (.nil))))) Tryz.func203 Tryz.call203 [.row 25 1 (.ints .u32)] [] 2
def Lm(m:bg)(port v gl:Int):Tree (bg×(List ir)):=
.br (port==0) (.lf (m,[{C2:=1,At:=gl,C8:=0,F0:=[(λ(n:Int)=>UInt8.ofNat n.toNat) (wrap u8 v)]}])) (.br (port==3) (.lv (Oe m.B8 v) λ(x0:jc)=>.lf ({B4:=m.B4,Mem:=m.Mem,B1:=m.B1,B8:=x0,B7:=m.B7,D4:=m.D4,A6:=m.A6,B6:=m.B6,B2:=m.B2,B5:=m.B5},[])) (let T1:Tree ((bg×(List ir))):=.an (Z3e m.B7 m.Mem port v gl) (.lv (X5 m.B7 m.Mem port v gl) λ(x1:gh×List ir)=>.lf ({B4:=m.B4,Mem:=m.Mem,B1:=m.B1,B8:=m.B8,B7:=x1.1,D4:=m.D4,A6:=m.A6,B6:=m.B6,B2:=m.B2,B5:=m.B5},x1.2));.br (port==4) T1 (.br (port==5) T1 (.br (port==6) T1 (let T2:Tree ((bg×(List ir))):=.an (Z94 m.D4 m.Mem port v gl) (.lv (X9 m.D4 m.Mem port v gl) λ(x4:ik×List ir)=>.lf ({B4:=m.B4,Mem:=m.Mem,B1:=m.B1,B8:=m.B8,B7:=m.B7,D4:=x4.1,A6:=m.A6,B6:=m.B6,B2:=m.B2,B5:=m.B5},x4.2));.br (port==7) T2 (.br (port==8) T2 (.br (port==9) T2 (let T3:Tree ((bg×(List ir))):=.an (Qsy m.A6 m.Mem port v) (.lv (GV m.A6 m.Mem port v) λ(x7:gx×List Int)=>.lf ({B4:=m.B4,Mem:=x7.2,B1:=m.B1,B8:=m.B8,B7:=m.B7,D4:=m.D4,A6:=x7.1,B6:=m.B6,B2:=m.B2,B5:=m.B5},[]));.br (port==10) T3 (.br (port==11) T3 (.lf (m,[])))))))))))
def ES m port v gl:=(Lm m port v gl).m
abbrev Qh7 m port v gl:=(Lm m port v gl).p
def Qwn:bb:=bb.fz<|kH 139 [] false [.agg bg.sig,.one (.int .i64),.one (.int .u32),.one (.int .u64)] [] (λa r=>Qh7 (bg.of (aC a 0)) (au a 1) (au a 2) (au a 3)) (λa r=>ES (bg.of (aC a 0)) (au a 1) (au a 2) (au a 3)) (λX=>.dw [.agg (bg.cells (X.1)),.sl 4 (.ah .cf (X.2)) true]) (λX=>[])
theorem Qv0:bj pG Qwn:=wV<|rU drawn jt (.cons Zlq (.cons Zpq (.cons Zun (.cons Zc4 (.nil))))) Tryz.func139 Tryz.call139 (λa r=>Lm (bg.of (aC a 0)) (au a 1) (au a 2) (au a 3)) [.sl (.ints .u32) false,.sl (.ah .cf) true] [] 2 (λ_ _ _=>by kernel_rfl) (λ_ _=>rfl) (λ_ _ h=>h) (λh=>by cases h)
def Om(m:bg)(clock:Int):Tree (bg×(List ir)):=
.an (nQ m.Mem) (.lv (kD m.Mem) λ(x0:List Int)=>let E1:=({B4:=m.B4,Mem:=x0,B1:=m.B1,B8:=m.B8,B7:=m.B7,D4:=m.D4,A6:=m.A6,B6:=m.B6,B2:=m.B2,B5:=m.B5}:bg);.an (Qqa E1) (.lv (EK E1) λ(x1:Bool)=>.br (!x1) (.lf (E1,[])) (.an (Qob E1) (.lv (pd E1) λ(x2:bg)=>.an (Z2z x2.B4 x2.Mem) (.lv (Cn x2.B4 x2.Mem) λ(x3:bq×List Int×lD)=>let E2:=({B4:=x3.1,Mem:=x3.2.1,B1:=x2.B1,B8:=x2.B8,B7:=x2.B7,D4:=x2.D4,A6:=x2.A6,B6:=x2.B6,B2:=x2.B2,B5:=x2.B5}:bg);.br (x3.2.2.C2==1) (.an (Qis E2 x3.2.2.D8 clock) (.lv (uz E2 x3.2.2.D8 clock) λ(x4:bg×Int)=>.br (x3.2.2.F7 !=0) (.cn (bN 0 1&&decide (0<=x3.2.2.F7/\x3.2.2.F7<(↑16:Int))) (.lf ({B4:={X:=iI.of 0 (dB (iI.l x4.1.B4.X) x3.2.2.F7.toNat x4.2),Pc:=x4.1.B4.Pc,C3:=x4.1.B4.C3},Mem:=x4.1.Mem,B1:=x4.1.B1,B8:=x4.1.B8,B7:=x4.1.B7,D4:=x4.1.D4,A6:=x4.1.A6,B6:=wrap u64 (x4.1.B6+1),B2:=x4.1.B2,B5:=x4.1.B5},[]))) (.lf ({B4:=x4.1.B4,Mem:=x4.1.Mem,B1:=x4.1.B1,B8:=x4.1.B8,B7:=x4.1.B7,D4:=x4.1.D4,A6:=x4.1.A6,B6:=wrap u64 (x4.1.B6+1),B2:=x4.1.B2,B5:=x4.1.B5},[])))) (.br (x3.2.2.C2==2) (.an (Qh7 E2 x3.2.2.D8 x3.2.2.Value m.B6) (.lv (ES E2 x3.2.2.D8 x3.2.2.Value m.B6) λ(x5:bg×List ir)=>.lf ({B4:=x5.1.B4,Mem:=x5.1.Mem,B1:=x5.1.B1,B8:=x5.1.B8,B7:=x5.1.B7,D4:=x5.1.D4,A6:=x5.1.A6,B6:=wrap u64 (x5.1.B6+1),B2:=x5.1.B2,B5:=x5.1.B5},x5.2))) (.br (x3.2.2.C2==3) (.lf ({B4:=x3.1,Mem:=x3.2.1,B1:=x2.B1,B8:=x2.B8,B7:=x2.B7,D4:=x2.D4,A6:=x2.A6,B6:=wrap u64 (x2.B6+1),B2:=true,B5:=x2.B5},[])) (.br (x3.2.2.C2==4) (.lf ({B4:=x3.1,Mem:=x3.2.1,B1:=x2.B1,B8:=x2.B8,B7:=x2.B7,D4:=x2.D4,A6:=x2.A6,B6:=wrap u64 (x2.B6+1),B2:=x2.B2,B5:=true},[])) (.lf ({B4:=x3.1,Mem:=x3.2.1,B1:=x2.B1,B8:=x2.B8,B7:=x2.B7,D4:=x2.D4,A6:=x2.A6,B6:=wrap u64 (x2.B6+1),B2:=x2.B2,B5:=x2.B5},[]))))))))))
def DW m clock:=(Om m clock).m
abbrev Uv m clock:=(Om m clock).p
def Zbg:bb:=bb.fz<|kH 92 [] false [.agg bg.sig,.one (.int .u32)] [] (λa r=>Uv (bg.of (aC a 0)) (au a 1)) (λa r=>DW (bg.of (aC a 0)) (au a 1)) (λX=>.dw [.agg (bg.cells (X.1)),.sl 4 (.ah .cf (X.2)) false]) (λX=>[])
theorem Z9z:bj pG Zbg:=wV<|rU drawn jt (.cons Kk (.cons Z7k (.cons Z4s (.cons Zq3 (.cons Qwm (.cons Qv0 (.nil))))))) Tryz.func92 Tryz.call92 (λa r=>Om (bg.of (aC a 0)) (au a 1)) [.sl (.ints .u32) false,.sl (.ah .cf) false] [] 2 (λ_ _ _=>by kernel_rfl) (λ_ _=>rfl) (λ_ _ h=>h) (λh=>by cases h)
end
noncomputable section
def Za(op:Int):Tree Int:=
let T1:Tree (Int):=.br (op==49) (.lf 3) (let T2:Tree (Int):=.br (op==24) (.lf 6) (.br (op==48) (.lf 7) (.br (op==58) (.lf 8) (.br (op==59) (.lf 8) (.br (op==60) (.lf 9) (.br (op==61) (.lf 9) (.br (op==56) (.lf 1) (.br (op==57) (.lf 1) (.br (decide (op>=62)) (.br (decide (op<=64)) (.lf 1) (.lf 0)) (.lf 0)))))))));.br (decide (op>=17)) (.br (decide (op<=19)) (.lf 4) (.br (decide (op>=20)) (.br (decide (op<=22)) (.lf 5) T2) T2)) (.br (decide (op>=20)) (.br (decide (op<=22)) (.lf 5) T2) T2));let T3:Tree (Int):=.br (op==16) (.lf 3) (.br (op==23) (.lf 3) (.br (decide (op>=32)) (.br (decide (op<=36)) (.lf 3) (.br (decide (op>=40)) (.br (decide (op<=45)) (.lf 3) T1) T1)) (.br (decide (op>=40)) (.br (decide (op<=45)) (.lf 3) T1) T1)));.br (decide (op>=1)) (.br (decide (op<=13)) (.lf 2) T3) T3
def oO op:=(Za op).m
def Zq:bb:=mS 178 [] true [.one (.int .i64)] [] (λa r=>Za (au a 0)) (λX=>.int .i64 X) (λX=>[])
theorem Sv:bj pG Zq:=oS (.nil) Tryz.func178 Tryz.call178 [] [] 2
def TL(r:Int):Tree Bool:=
.br (decide (r>=0)) (.lf (decide (r<=15))) (.lf false)
def Lw r:=(TL r).m
def Zaf:bb:=mS 233 [] true [.one (.int .i64)] [] (λa r=>TL (au a 0)) (λX=>.bool X) (λX=>[])
theorem Z4h:bj pG Zaf:=oS (.nil) Tryz.func233 Tryz.call233 [] [] 2
def XE(f:Int):Tree (Int×Int):=
.br (f==3) (.lf ((-32768),32767)) (.br (f==7) (.lf ((-32768),32767)) (.br (f==4) (.lf (0,65535)) (.br (f==6) (.lf (0,65535)) (.br (f==5) (.lf (0,31)) (.br (f==8) (.lf (0,7)) (.br (f==9) (.lf (0,11)) (.lf (0,0))))))))
def XD f:=(XE f).m
def Zg5:bb:=mS 179 [] true [.one (.int .i64)] [] (λa r=>XE (au a 0)) (λX=>.dw [.int .i64 (X.1),.int .i64 (X.2)]) (λX=>[])
theorem Qw0:bj pG Zg5:=oS (.nil) Tryz.func179 Tryz.call179 [] [] 2
def Ot(i:ib):Tree Bool:=
.lv (oO i.Op) λ(x0:Int)=>.br (x0==0) (.lf false) (.lv (Lw i.A) λ(x1:Bool)=>.br (!x1) (.lf false) (.lv (Lw i.B) λ(x2:Bool)=>.br (!x2) (.lf false) (.lv (Lw i.C) λ(x3:Bool)=>.br (!x3) (.lf false) (.lv (XD x0) λ(x4:Int×Int)=>.br (decide (wrap i64 i.bz<x4.1)) (.lf false) (.br (decide (wrap i64 i.bz>x4.2)) (.lf false) (let T1:Tree (Bool):=.br (x0==1) (.br (i.A !=0) (.lf false) (.br (i.B==0) (.lf true) (.br (decide (x0>=2)) (.lf (decide (x0<=5))) (.lf false)))) (.br (i.B==0) (.lf true) (.br (decide (x0>=2)) (.lf (decide (x0<=5))) (.lf false)));.br (x0 !=2) (.br (i.C !=0) (.lf false) T1) T1))))))
def EM i:=(Ot i).m
def Zjg:bb:=mS 177 [] true [.agg ib.sig] [] (λa r=>Ot (ib.of (aC a 0))) (λX=>.bool X) (λX=>[])
theorem Qxb:bj pG Zjg:=oS (.cons Sv (.cons Z4h (.cons Qw0 (.nil)))) Tryz.func177 Tryz.call177 [] [] 2
def Tp(i:ib):Tree (Int×Bool):=
.lv (EM i) λ(x0:Bool)=>.br (!x0) (.lf (0,false)) (.lf (iN u32 (iN u32 (iN u32 (iN u32 (ep u32 (wrap u32 i.Op) 24) (ep u32 (wrap u32 i.A) 20)) (ep u32 (wrap u32 i.B) 16)) (bh u32 (wrap u32 i.bz) 65535)) (wrap u32 i.C),true))
def oL i:=(Tp i).m
def Zhz:bb:=mS 125 [] true [.agg ib.sig] [] (λa r=>Tp (ib.of (aC a 0))) (λX=>.dw [.int .u32 (X.1),.bool (X.2)]) (λX=>[])
theorem Qnb:bj pG Zhz:=oS (.cons Qxb (.nil)) Tryz.func125 Tryz.call125 [] [] 2
def Zd1:Tree (List Int):=
.lf ([1,2,3,4,5,6,7,8,9,10,11,12,13,16,16,17,18,19,20,21,22,23,24,24,32,32,33,34,35,35,36,40,41,42,43,44,45,48,49,56,57,58,59,60,60,61,61,62,63,64])
def Zfu:(List Int):=(Zd1).m
def Zsg:bb:=mS 180 [] true [] [] (λa r=>Zd1) (λX=>.sl 1 (.ints .i64 X) true) (λX=>[])
theorem Znz:bj pG Zsg:=oS (.nil) Tryz.func180 Tryz.call180 [.sl (.ints .i64) true] [] 2
def Z8g(Dy:Int):Tree (Int×Int):=
let E1:=wrap u64 (rD u64 (wrap u64 (Dy+11400714819323198485)) (bm u64 (wrap u64 (Dy+11400714819323198485)) 30)*13787848793156543929);let E2:=wrap u64 (rD u64 E1 (bm u64 E1 27)*10723151780598845931);.lf (rD u64 E2 (bm u64 E2 31),wrap u64 (Dy+11400714819323198485))
def Zn9 Dy:=(Z8g Dy).m
def Zoe:bb:=mS 89 [] true [.one (.int .u64)] [] (λa r=>Z8g (au a 0)) (λX=>.dw [.int .u64 (X.1),.int .u64 (X.2)]) (λX=>[])
theorem Zml:bj pG Zoe:=oS (.nil) Tryz.func89 Tryz.call89 [] [] 2
def Zet(n k:Int):Tree Int:=
.lv (Zn9 (rD u64 (wrap u64 n) (wrap u64 (wrap u64 k*11400714819323198485)))) λ(x0:Int×Int)=>.lf (wrap i64 (bm u64 x0.1 1))
def Zft n k:=(Zet n k).m
def Zt2:bb:=mS 42 [] true [.one (.int .i64),.one (.int .i64)] [] (λa r=>Zet (au a 0) (au a 1)) (λX=>.int .i64 X) (λX=>[])
theorem Z9g:bj pG Zt2:=oS (.cons Zml (.nil)) Tryz.func42 Tryz.call42 [] [] 2
def Qrt(n k:Int):Tree Int:=
.cn (decide (k≠0)) (.br (decide (cZ n k<0)) (.lf (wrap i64 (cZ n k+k))) (.lf (cZ n k)))
def FR n k:=(Qrt n k).m
abbrev Q6 n k:=(Qrt n k).p
def Zmg:bb:=mT 28 [] true [.one (.int .i64),.one (.int .i64)] [] (λa r=>Qrt (au a 0) (au a 1)) (λX=>.int .i64 X) (λX=>[])
theorem Qzi:bj pG Zmg:=oT (.nil) Tryz.func28 Tryz.call28 [] [] 2
def VN(n:Int):Tree ib:=
.lv Zfu λ(x0:List Int)=>.lv (Zft n 1) λ(x1:Int)=>.an (Q6 x1 (x0.length:Int)) (.lv (FR x1 (x0.length:Int)) λ(x2:Int)=>.cn (bX 1 1&&bN 0 1&&decide (0<=x2/\x2<(x0.length:Int))) (.an (Q6 (bm i64 x1 8) 6) (.lv (FR (bm i64 x1 8) 6) λ(x3:Int)=>.an (Q6 (bm i64 x1 12) 6) (.lv (FR (bm i64 x1 12) 6) λ(x4:Int)=>.an (Q6 (bm i64 x1 16) 6) (.lv (FR (bm i64 x1 16) 6) λ(x5:Int)=>.an (Q6 (bm i64 x1 20) 24) (.lv (FR (bm i64 x1 20) 24) λ(x6:Int)=>.br (decide (x0.getD x2.toNat (0:Int)<=(13:Int))) (.lf ({Op:=x0.getD x2.toNat 0,A:=x3,B:=x4,C:=x5,bz:=0})) (let E4:=({Op:=x0.getD x2.toNat 0,A:=x3,B:=x4,C:=0,bz:=wrap i32 (wrap i64 (wrap i64 (8*x6)-32))}:ib);let T1:Tree (ib):=.br (x0.getD x2.toNat (0:Int)==(49:Int)) (.lf (E4)) (.br (x0.getD x2.toNat (0:Int)==(24:Int)) (.lf ({Op:=x0.getD x2.toNat 0,A:=x3,B:=0,C:=0,bz:=wrap i32 (wrap i64 (x6*bh i64 (bm i64 x1 40) 1))})) (let T2:Tree (ib):=let E6:=({Op:=x0.getD x2.toNat 0,A:=x3,B:=0,C:=0,bz:=wrap i32 (cZ x6 8)}:ib);.br (x0.getD x2.toNat (0:Int)==(58:Int)) (.lf (E6)) (.br (x0.getD x2.toNat (0:Int)==(59:Int)) (.lf (E6)) (let E5:=({Op:=x0.getD x2.toNat 0,A:=x3,B:=0,C:=0,bz:=wrap i32 (cZ x6 12)}:ib);.br (x0.getD x2.toNat (0:Int)==(60:Int)) (.lf (E5)) (.br (x0.getD x2.toNat (0:Int)==(61:Int)) (.lf (E5)) (.lf ({Op:=x0.getD x2.toNat 0,A:=0,B:=0,C:=0,bz:=0})))));.br (decide (x0.getD x2.toNat (0:Int)>=(17:Int))) (.br (decide (x0.getD x2.toNat (0:Int)<=(22:Int))) (.lf ({Op:=x0.getD x2.toNat 0,A:=x3,B:=x4,C:=0,bz:=wrap i32 x6})) T2) T2));let T3:Tree (ib):=.br (x0.getD x2.toNat (0:Int)==(16:Int)) (.lf (E4)) (.br (x0.getD x2.toNat (0:Int)==(23:Int)) (.lf (E4)) (.br (decide (x0.getD x2.toNat (0:Int)>=(32:Int))) (.br (decide (x0.getD x2.toNat (0:Int)<=(36:Int))) (.lf (E4)) T1) T1));.br (decide (x0.getD x2.toNat (0:Int)>=(40:Int))) (.br (decide (x0.getD x2.toNat (0:Int)<=(48:Int))) (.br (x0.getD x2.toNat (0:Int)==(48:Int)) (.lf ({Op:=x0.getD x2.toNat 0,A:=x3,B:=0,C:=0,bz:=wrap i32 (wrap i64 (x6-12))})) (.lf ({Op:=x0.getD x2.toNat 0,A:=x3,B:=x4,C:=0,bz:=wrap i32 (wrap i64 (x6-12))}))) T3) T3)))))))
def Zmc n:=(VN n).m
abbrev Qjc n:=(VN n).p
def Znv:bb:=mT 127 [] true [.one (.int .i64)] [] (λa r=>VN (au a 0)) (λX=>.agg (ib.cells X)) (λX=>[])
theorem Zjt:bj pG Znv:=oT (.cons Znz (.cons Z9g (.cons Qzi (.nil)))) Tryz.func127 Tryz.call127 [] [] 2
def Qvz(l:List Int)(z:(Int)×(List Int)):Prop:=0<=z.1/\z.1<=l.length/\(z.2.length:Int)=z.1
def Tq(l:List Int)(z:(Int)×(List Int)):Nat:=(l.length-z.1).toNat
def NL(l:List Int):Tree (List Int):=
.lp inferInstance (Tq l (0,[])+1) ((((ai.Nil (ai.ints i64 l)\/rE (1:Nat))/\rE (l:List Int))/\True/\rE (0:Int)/\True)/\rE ([]:List Int)/\True) (0,[]) λ(v0:Int×List Int)=>.br (decide (v0.1<(l.length:Int))) (let E1:=bX 1 1&&bN 0 1&&decide (0<=v0.1/\v0.1<(l.length:Int));.cn E1 (let E2:=decide (4*(v0.2.length+1)<=140737488355328);.br (cZ (l.getD v0.1.toNat 0) (17:Int)==(0:Int)) (.cn E1 (.cn E2 (.nx ((((ai.Nil (ai.ints i64 l)\/rE (1:Nat))/\rE (l:List Int))/\True/\rE ((wrap i64 (v0.1+1)):Int)/\True)/\rE ((v0.2++[wrap u32 (bh i64 (l.getD v0.1.toNat 0) 4294967295)]):List Int)/\True) (Sum.inl (wrap i64 (v0.1+1),v0.2++[wrap u32 (bh i64 (l.getD v0.1.toNat 0) 4294967295)]))))) (.cn E1 (.an (Qjc (l.getD v0.1.toNat 0)) (.lv (Zmc (l.getD v0.1.toNat 0)) λ(x0:ib)=>.lv (oL x0) λ(x1:Int×Bool)=>.cn E2 (.nx ((((ai.Nil (ai.ints i64 l)\/rE (1:Nat))/\rE (l:List Int))/\True/\rE ((wrap i64 (v0.1+1)):Int)/\True)/\rE ((v0.2++[x1.1]):List Int)/\True) (Sum.inl (wrap i64 (v0.1+1),v0.2++[x1.1])))))))) (.lf (Sum.inr v0.2))
def Uu l:=(NL l).m
abbrev Qpt l:=(NL l).p
def Zl1:bu:={
 α:=(Int)×(List Int)
 F:=λst a=>([(0,(lk st 0)),(3,.all 0),(4,.int i64 a.1)],[⟨false,25,1,.ints u32 a.2⟩])
 a0:=λst=>((lk st 4).toInt,(pZ st.rows (rN st 3)))
 iZ:=λst=>[]++[(rX st 3 0)]}
def Zbl:List (Nat×bu):=[(3,Zl1)]
def Znk:bb:=mT 78 [] true [.one (.ints .i64)] [] (λa r=>NL (de .i64 a 0)) (λX=>.all 0) (λX=>[⟨false,25,1,.ints .u32 X⟩])
theorem Zjp:bj pG Znk:=oT (.cons Qnb (.cons Zjt (.nil))) Tryz.func78 Tryz.call78 [.row 25 1 (.ints .u32)] Zbl 3
def Tu(pc:Int):Tree bq:=
.lf ({X:={a0:=0,a1:=0,a2:=0,a3:=0,a4:=0,a5:=0,a6:=0,a7:=0,a8:=0,a9:=0,kO:=0,kP:=0,a12:=0,kQ:=0,kR:=0,kS:=0},Pc:=pc,C3:={a0:=1,a1:=0,a2:=0,a3:=0,a4:=0,a5:=0,a6:=0,a7:=0}})
def Qu pc:=(Tu pc).m
def Zks:bb:=mS 128 [] true [.one (.int .u32)] [] (λa r=>Tu (au a 0)) (λX=>.agg (bq.cells X)) (λX=>[])
theorem Zin:bj pG Zks:=oS (.nil) Tryz.func128 Tryz.call128 [] [] 2
def JA(bc:Int):Tree (List Int):=
.br (decide (bc<1)) (.lf ([])) (.br (decide (bc>32)) (.lf ([])) (.cn (bN 0 1&&bX 1 1&&List.all [D.int u32 0] D.plain&&decide (0<=wrap i64 (bc*32)/\wrap i64 (bc*32)<=wrap i64 (bc*32)/\wrap i64 (bc*32)<=9223372036854775807/\(↑4:Int)*wrap i64 (bc*32)<=140737488355328)) (.lf (List.replicate (dA (wrap i64 (bc*32))) 0))))
def Lb bc:=(JA bc).m
abbrev QF bc:=(JA bc).p
def Zut:bb:=mT 38 [] true [.one (.int .i64)] [] (λa r=>JA (au a 0)) (λX=>.all 0) (λX=>[⟨false,25,1,.ints .u32 X⟩])
theorem Za4:bj pG Zut:=oT (.nil) Tryz.func38 Tryz.call38 [.row 25 1 (.ints .u32)] [] 2
def GC(bc blocks:Int)(image:List Int):Tree (bg×Bool):=
let T1:Tree ((bg×Bool)):=.lf ({B4:={X:={a0:=0,a1:=0,a2:=0,a3:=0,a4:=0,a5:=0,a6:=0,a7:=0,a8:=0,a9:=0,kO:=0,kP:=0,a12:=0,kQ:=0,kR:=0,kS:=0},Pc:=0,C3:={a0:=0,a1:=0,a2:=0,a3:=0,a4:=0,a5:=0,a6:=0,a7:=0}},Mem:=[],B1:={D9:=[]},B8:={F1:=false,D3:=0,E0:=false},B7:={ab:=0,C8:=0,Frame:=0,C9:=0,F5:=0,C5:=0,C6:=0,C7:=[]},D4:={Frame:=0,F6:=0,D1:=false,D2:=0,C4:=false,F9:=0},A6:={A2:=0,D0:=0},B6:=0,B2:=false,B5:=false},false);.br (decide (bc<1)) T1 (.br (decide (bc>32)) T1 (.br (decide (blocks<0)) T1 (.br (decide (blocks>64)) T1 (.br (decide ((image.length:Int)>wrap i64 (bc*32))) T1 (.lv (Qu 0) λ(x0:bq)=>.an (QF bc) (.lv (Lb bc) λ(x1:List Int)=>.lf ({B4:=x0,Mem:=cU (Min.min (image.length) (x1.length)) image++cV (Min.min (image.length) (x1.length)) x1,B1:={D9:=[]},B8:={F1:=false,D3:=0,E0:=false},B7:={ab:=wrap u32 blocks,C8:=0,Frame:=0,C9:=0,F5:=0,C5:=0,C6:=0,C7:=[]},D4:={Frame:=0,F6:=0,D1:=false,D2:=0,C4:=false,F9:=0},A6:={A2:=0,D0:=0},B6:=0,B2:=false,B5:=false},true)))))))
def lr bc blocks image:=(GC bc blocks image).m
abbrev VX bc blocks image:=(GC bc blocks image).p
def Zty:bb:=mT 79 [] true [.one (.int .i64),.one (.int .i64),.one (.ints .u32)] [] (λa r=>GC (au a 0) (au a 1) (de .u32 a 2)) (λX=>.dw [.agg (bg.cq (X.1) (.all 0)),.bool (X.2)]) (λX=>[⟨false,25,1,.ints .u32 (X.1).Mem⟩])
theorem Zno:bj pG Zty:=oT (.cons Zin (.cons Za4 (.nil))) Tryz.func79 Tryz.call79 [.row 25 1 (.ints .u32)] [] 2
def Qk0(a b:List Int)(z:(Int)):Prop:=0<=z/\z<=a.length/\a.length=b.length
def Jw(a b:List Int)(z:(Int)):Nat:=(a.length-z).toNat
def Jv(a b:List Int):Tree Bool:=
.br ((a.length:Int) !=(b.length:Int)) (.lf false) (.lp inferInstance (Jw a b 0+1) ((((ai.Nil (ai.ints u32 a)\/rE (1:Nat))/\rE (a:List Int))/\((ai.Nil (ai.ints u32 b)\/rE (1:Nat))/\rE (b:List Int))/\rE (0:Int)/\True)/\True) 0 λ(v0:Int)=>.br (decide (v0<(a.length:Int))) (.cn (bX 1 1&&bN 0 1&&decide (0<=v0/\v0<(a.length:Int))) (.cn (bX 1 1&&bN 0 1&&decide (0<=v0/\v0<(b.length:Int))) (.br (a.getD v0.toNat 0 !=b.getD v0.toNat 0) (.lf (Sum.inr false)) (.nx ((((ai.Nil (ai.ints u32 a)\/rE (1:Nat))/\rE (a:List Int))/\((ai.Nil (ai.ints u32 b)\/rE (1:Nat))/\rE (b:List Int))/\rE ((wrap i64 (v0+1)):Int)/\True)/\True) (Sum.inl (wrap i64 (v0+1))))))) (.lf (Sum.inr true)))
def PQ a b:=(Jv a b).m
def VY(a b:List Int):Prop:=
a.length<=1000000000000
theorem Qyn(a b:List Int)(hw:VY a b):(Jv a b).p:=by
 simp only[VY]at hw
 unfold Tree.p Jv
 repeat'(first|refine eu (inv:=Qk0 a b) (μ:=Jw a b) ?_ (cN _) (λ_ _=>?_)|exact trivial|refine ae (λ_=>?_) (λ_=>?_)|refine av ?_ ?_|refine cg ?_ ?_|refine aq (λ_ _=>?_)|refine ee ?_|refine ba ?_|refine And.intro ?_ ?_)
 all_goals((try simp only[Qk0,Jw]at*);exact lU)
def Z06:bu:={
 α:=(Int)
 F:=λst a=>([(0,(lk st 0)),(1,(lk st 1)),(5,.int i64 a)],[])
 a0:=λst=>(lk st 5).toInt
 iZ:=λst=>[]++[]}
def Qwu:List (Nat×bu):=[(4,Z06)]
def Z4w:bb:=kH 67 [] true [.one (.ints .u32),.one (.ints .u32)] [] (λa r=>VY (de .u32 a 0) (de .u32 a 1)) (λa r=>PQ (de .u32 a 0) (de .u32 a 1)) (λX=>.bool X) (λX=>[])
theorem Z1i:bj pG Z4w:=rU drawn jt (.nil) Tryz.func67 Tryz.call67 (λa r=>Jv (de .u32 a 0) (de .u32 a 1)) [] Qwu 3 (hp:=λa r h=>Qyn (de .u32 a 0) (de .u32 a 1) h)
def PO(a b:bg):Tree Bool:=
.br (eqs [D.int u32 a.B4.X.a0,D.int u32 a.B4.X.a1,D.int u32 a.B4.X.a2,D.int u32 a.B4.X.a3,D.int u32 a.B4.X.a4,D.int u32 a.B4.X.a5,D.int u32 a.B4.X.a6,D.int u32 a.B4.X.a7,D.int u32 a.B4.X.a8,D.int u32 a.B4.X.a9,D.int u32 a.B4.X.kO,D.int u32 a.B4.X.kP,D.int u32 a.B4.X.a12,D.int u32 a.B4.X.kQ,D.int u32 a.B4.X.kR,D.int u32 a.B4.X.kS,D.int u32 a.B4.Pc,D.int u32 a.B4.C3.a0,D.int u32 a.B4.C3.a1,D.int u32 a.B4.C3.a2,D.int u32 a.B4.C3.a3,D.int u32 a.B4.C3.a4,D.int u32 a.B4.C3.a5,D.int u32 a.B4.C3.a6,D.int u32 a.B4.C3.a7] [D.int u32 b.B4.X.a0,D.int u32 b.B4.X.a1,D.int u32 b.B4.X.a2,D.int u32 b.B4.X.a3,D.int u32 b.B4.X.a4,D.int u32 b.B4.X.a5,D.int u32 b.B4.X.a6,D.int u32 b.B4.X.a7,D.int u32 b.B4.X.a8,D.int u32 b.B4.X.a9,D.int u32 b.B4.X.kO,D.int u32 b.B4.X.kP,D.int u32 b.B4.X.a12,D.int u32 b.B4.X.kQ,D.int u32 b.B4.X.kR,D.int u32 b.B4.X.kS,D.int u32 b.B4.Pc,D.int u32 b.B4.C3.a0,D.int u32 b.B4.C3.a1,D.int u32 b.B4.C3.a2,D.int u32 b.B4.C3.a3,D.int u32 b.B4.C3.a4,D.int u32 b.B4.C3.a5,D.int u32 b.B4.C3.a6,D.int u32 b.B4.C3.a7]) (.an (VY a.Mem b.Mem) (.lv (PQ a.Mem b.Mem) λ(x0:Bool)=>.br x0 (.br (eqs [D.str a.B1.D9] [D.str b.B1.D9]) (.br (eqs [D.bool a.B8.F1,D.int u32 a.B8.D3,D.bool a.B8.E0] [D.bool b.B8.F1,D.int u32 b.B8.D3,D.bool b.B8.E0]) (.br (eqs [D.int u32 a.B7.ab,D.int u32 a.B7.C8,D.int u32 a.B7.Frame,D.int i64 a.B7.C9,D.int i64 a.B7.F5,D.int u32 a.B7.C5,D.int u32 a.B7.C6,D.str a.B7.C7] [D.int u32 b.B7.ab,D.int u32 b.B7.C8,D.int u32 b.B7.Frame,D.int i64 b.B7.C9,D.int i64 b.B7.F5,D.int u32 b.B7.C5,D.int u32 b.B7.C6,D.str b.B7.C7]) (.br (eqs [D.int u32 a.D4.Frame,D.int u32 a.D4.F6,D.bool a.D4.D1,D.int u32 a.D4.D2,D.bool a.D4.C4,D.int u32 a.D4.F9] [D.int u32 b.D4.Frame,D.int u32 b.D4.F6,D.bool b.D4.D1,D.int u32 b.D4.D2,D.bool b.D4.C4,D.int u32 b.D4.F9]) (.br (eqs [D.int u32 a.A6.A2,D.int u32 a.A6.D0] [D.int u32 b.A6.A2,D.int u32 b.A6.D0]) (.br (a.B6==b.B6) (.br (a.B2==b.B2) (.lf (a.B5==b.B5)) (.lf false)) (.lf false)) (.lf false)) (.lf false)) (.lf false)) (.lf false)) (.lf false)) (.lf false))) (.lf false)
def Qya a b:=(PO a b).m
abbrev Qe a b:=(PO a b).p
def Zoy:bb:=mT 24 [] true [.agg bg.sig,.agg bg.sig] [] (λa r=>PO (bg.of (aC a 0)) (bg.of (aC a 1))) (λX=>.bool X) (λX=>[])
theorem Qt9:bj pG Zoy:=oT (.cons Z1i (.nil)) Tryz.func24 Tryz.call24 [] [] 2
