import Derived.Test.YtaemmjbkndlkeaaGreatMigrateCancelsFh
import Derived.Test.YtaemmjbkndlkeaaGreatMigrateCancelsYx
open List renaming take->cU,drop->cV,length->dF,set->dB,getD->aV
open Int renaming toNat->dA,tmod->cZ
open UInt8 renaming toNat->hY
open Nat renaming blt->bN,beq->bX,lt_succ_self->cN
set_option maxRecDepth 100000
set_option linter.all false
namespace Go.Proofs.YtaemmjbkndlkeaaGreat
open Go Go.GD Go.IntKind
noncomputable section
def IM(m:bd):Tree Bool:=
.an (VB m) (.lv (Bc m) λ(x0:Bool)=>.br x0 (.br (!m.B6) (.an (Qpv m) (.lv (Tl m) λ(x1:Bool)=>.br (!x1) (.lf (decide (m.B7<1152921504606846976))) (.lf false))) (.lf false)) (.lf false))
def EP m:=(IM m).m
abbrev Qq9 m:=(IM m).p
def Zas:bc:=mT 135 [] true [.agg bd.sig] [] (λa r=>IM (bd.of (aC a 0))) (λX=>.bool X) (λX=>[])
theorem Z54:bm pG Zas:=oT (.cons Quj (.cons Z68 (.nil))) Tryz.func135 Tryz.call135 [] [] 2
def Qjb(m:bd)(z:(Int)):Nat:=(5-z).toNat
def Ll(m:bd):Tree bd:=
let E1:=({B2:=m.B2,Mem:=m.Mem,B3:=m.B3,B8:=m.B8,B5:=m.B5,D1:=m.D1,A7:=m.A7,B7:=m.B7,B4:=false,B6:=m.B6}:bd);.br (ba u32 m.B2.C3.a0 (2:Int)==(0:Int)) (.lf (E1)) (.an (Qcs E1) (.lv (LX E1) λ(x0:Int)=>.lp inferInstance (Qjb m 0+1) ((rZ/\rZ/\rE (x0:Int)/\rE (0:Int)/\True)/\(rE m.B2.X.a0/\rE m.B2.X.a1/\rE m.B2.X.a2/\rE m.B2.X.a3/\rE m.B2.X.a4/\rE m.B2.X.a5/\rE m.B2.X.a6/\rE m.B2.X.a7/\rE m.B2.X.a8/\rE m.B2.X.a9/\rE m.B2.X.kq/\rE m.B2.X.kr/\rE m.B2.X.a12/\rE m.B2.X.ku/\rE m.B2.X.kv/\rE m.B2.X.ky/\rE m.B2.Pc/\rE m.B2.C3.a0/\rE m.B2.C3.a1/\rE m.B2.C3.a2/\rE m.B2.C3.a3/\rE m.B2.C3.a4/\rE m.B2.C3.a5/\rE m.B2.C3.a6/\rE m.B2.C3.a7/\((ai.Nil (ai.ints u32 m.Mem)\/rE (1:Nat))/\rE m.Mem)/\rE m.B3.D9/\rE m.B8.F0/\rE m.B8.D3/\rE m.B8.D8/\rE m.B5.ab/\rE m.B5.C9/\rE m.B5.Frame/\rE m.B5.C8/\rE m.B5.F6/\rE m.B5.C5/\rE m.B5.C6/\rE m.B5.C7/\rE m.D1.Frame/\rE m.D1.F7/\rE m.D1.D2/\rE m.D1.D4/\rE m.D1.C4/\rE m.D1.F8/\rE m.A7.A2/\rE m.A7.D0/\rE m.B7/\rE (false:Bool)/\rE m.B6/\True)/\(mE zM True True)/\True) 0 λ(v0:Int)=>.br (decide (v0<5)) (.cn (decide (0<=v0)) (.br (ba u32 x0 (fh u32 1 v0) !=0) (.lv (rC m.B2 (wrap i64 (16+v0)) 0) λ(x1:bq)=>.lf (Sum.inr {B2:=x1,Mem:=m.Mem,B3:=m.B3,B8:=m.B8,B5:=m.B5,D1:=m.D1,A7:=m.A7,B7:=m.B7,B4:=false,B6:=m.B6})) (.nx ((rZ/\rZ/\rE (x0:Int)/\rE ((wrap i64 (v0+1)):Int)/\True)/\(rE m.B2.X.a0/\rE m.B2.X.a1/\rE m.B2.X.a2/\rE m.B2.X.a3/\rE m.B2.X.a4/\rE m.B2.X.a5/\rE m.B2.X.a6/\rE m.B2.X.a7/\rE m.B2.X.a8/\rE m.B2.X.a9/\rE m.B2.X.kq/\rE m.B2.X.kr/\rE m.B2.X.a12/\rE m.B2.X.ku/\rE m.B2.X.kv/\rE m.B2.X.ky/\rE m.B2.Pc/\rE m.B2.C3.a0/\rE m.B2.C3.a1/\rE m.B2.C3.a2/\rE m.B2.C3.a3/\rE m.B2.C3.a4/\rE m.B2.C3.a5/\rE m.B2.C3.a6/\rE m.B2.C3.a7/\((ai.Nil (ai.ints u32 m.Mem)\/rE (1:Nat))/\rE m.Mem)/\rE m.B3.D9/\rE m.B8.F0/\rE m.B8.D3/\rE m.B8.D8/\rE m.B5.ab/\rE m.B5.C9/\rE m.B5.Frame/\rE m.B5.C8/\rE m.B5.F6/\rE m.B5.C5/\rE m.B5.C6/\rE m.B5.C7/\rE m.D1.Frame/\rE m.D1.F7/\rE m.D1.D2/\rE m.D1.D4/\rE m.D1.C4/\rE m.D1.F8/\rE m.A7.A2/\rE m.A7.D0/\rE m.B7/\rE (false:Bool)/\rE m.B6/\True)/\(mE zM True True)/\True) (Sum.inl (wrap i64 (v0+1)))))) (.lf (Sum.inr E1))))
def pE m:=(Ll m).m
abbrev Qn m:=(Ll m).p
def Z2u:cg:={
 α:=(Int)
 F:=λst a=>([(1,.ptr 0 0 0),(2,.ptr 1 0 0),(3,(lk st 3)),(15,.int i64 a)],[⟨true,43,49,.gen [mB (cT st 1)]⟩,⟨true,43,49,.gen [mB (cT st 2)]⟩])
 a0:=λst=>(lk st 15).toInt
 jo:=λst=>[]++[(rX st 1 0),(rX st 2 1)]}
def Qwx:List (Nat×cg):=[(6,Z2u)]
def Z7k:bc:=bc.fz<|lF 136 [] false [.agg bd.sig] [] (λa r=>Qn (bd.of (aC a 0))) (λa r=>pE (bd.of (aC a 0))) (λX=>.agg (bd.cells X)) (λX=>[])
theorem Z2m:bm pG Z7k:=w4<|wa drawn jG (.cons Qlx (.cons RZ (.nil))) Tryz.func136 Tryz.call136 (λa r=>Ll (bd.of (aC a 0))) [.sl (.ints .u32) false] Qwx 3 (λ_ _ _=>by kernel_rfl) (λ_ _=>rfl) (λ_ _ h=>h) (λh=>by cases h)
def IH(c:iH)(port:Int):Tree (iH×Int):=
.br (port==0) (.br (decide (c.D9=[])) (.lf (c,4294967295)) (.cn (decide ((0:Int)<=(0:Int)/\0<(c.D9.length:Int))) (.cn (decide ((0:Int)<=(1:Int)/\1<=(c.D9.length:Int)/\(c.D9.length:Int)<=(c.D9.length:Int))) (.lf ({D9:=cU (dA (c.D9.length:Int)-dA 1) (cV (dA 1) c.D9)},wrap u32 (↑(hY (c.D9.getD (dA 0) (0:UInt8))):Int)))))) (.br (port==1) (.lf (c,wrap u32 (c.D9.length:Int))) (.lf (c,0)))
def XM c port:=(IH c port).m
theorem Zao(c:iH)(port:Int):(IH c port).p:=by
 unfold Tree.p IH
 repeat'(first|exact trivial|refine ae (λ_=>?_) (λ_=>?_)|refine aw ?_ ?_|refine df ?_ ?_|refine aq (λ_ _=>?_)|refine ff ?_|refine bh ?_|refine And.intro ?_ ?_)
 all_goals(exact nY)
def Zld:bc:=mS 195 [] true [.agg iH.sig,.one (.int .i64)] [] (λa r=>IH (iH.of (aC a 0)) (au a 1)) (λX=>.ee [.agg (iH.cells (X.1)),.int .u32 (X.2)]) (λX=>[])
theorem Zgi:bm pG Zld:=oS (.nil) Tryz.func195 Tryz.call195 [] [] 2 (λ_ _ _=>by kernel_rfl) (λa r=>Zao (iH.of (aC a 0)) (au a 1)) (λ_ X=>by kernel_rfl)
def Th(t:iW):Tree Int:=
.br t.D8 (.lf 1) (.lf 0)
def Xe t:=(Th t).m
def Zt3:bc:=mS 196 [] true [.agg iW.sig] [] (λa r=>Th (iW.of (aC a 0))) (λX=>.int .u32 X) (λX=>[])
theorem Zo3:bm pG Zt3:=oS (.nil) Tryz.func196 Tryz.call196 [] [] 2
def Ti(d0:gg)(port:Int):Tree Int:=
.br (port==4) (.lf d0.C9) (.br (port==5) (.lf d0.Frame) (.br (port==6) (.lf (wrap u32 d0.C8)) (.lf 0)))
def Oc d0 port:=(Ti d0 port).m
def qD:bc:=mS 197 [] true [.agg gg.sig,.one (.int .i64)] [] (λa r=>Ti (gg.of (aC a 0)) (au a 1)) (λX=>.int .u32 X) (λX=>[])
theorem Zs0:bm pG qD:=oS (.nil) Tryz.func197 Tryz.call197 [] [] 2
def Od(n:ic)(port:Int):Tree Int:=
.br (port==7) (.lf n.Frame) (.br (port==8) (.lf n.F8) (.br (port==9) (.br n.D2 (.br n.C4 (.lf (wrap u32 (wrap u32 ((0:Int)+(1:Int))+2))) (.lf (wrap u32 ((0:Int)+(1:Int))))) (.br n.C4 (.lf (wrap u32 ((0:Int)+(2:Int)))) (.lf 0))) (.lf 0)))
def Lf n port:=(Od n port).m
def zX:bc:=mS 198 [] true [.agg ic.sig,.one (.int .i64)] [] (λa r=>Od (ic.of (aC a 0)) (au a 1)) (λX=>.int .u32 X) (λX=>[])
theorem xD:bm pG zX:=oS (.nil) Tryz.func198 Tryz.call198 [] [] 2
def Lg(b:gw)(port:Int):Tree Int:=
.br (port==10) (.lf b.A2) (.br (port==11) (.an (Qfs b) (.lv (Qe b) λ(x0:Int)=>.lf (wrap u32 x0))) (.lf 0))
def XY b port:=(Lg b port).m
abbrev Qud b port:=(Lg b port).p
def Zj:bc:=mT 199 [] true [.agg gw.sig,.one (.int .i64)] [] (λa r=>Lg (gw.of (aC a 0)) (au a 1)) (λX=>.int .u32 X) (λX=>[])
theorem Zek:bm pG Zj:=oT (.cons Qpy (.nil)) Tryz.func199 Tryz.call199 [] [] 2
def Ld(m:bd)(port clock:Int):Tree (bd×Int):=
let T1:Tree ((bd×Int)):=.lv (XM m.B3 port) λ(x0:iH×Int)=>.lf ({B2:=m.B2,Mem:=m.Mem,B3:=x0.1,B8:=m.B8,B5:=m.B5,D1:=m.D1,A7:=m.A7,B7:=m.B7,B4:=m.B4,B6:=m.B6},x0.2);.br (port==0) T1 (.br (port==1) T1 (.br (port==2) (.lf (m,clock)) (.br (port==3) (.lv (Xe m.B8) λ(x2:Int)=>.lf (m,x2)) (.br (port==4) (.lv (Oc m.B5 port) λ(x3:Int)=>.lf (m,x3)) (.br (port==5) (.lv (Oc m.B5 port) λ(x4:Int)=>.lf (m,x4)) (.br (port==6) (.lv (Oc m.B5 port) λ(x5:Int)=>.lf (m,x5)) (.br (port==7) (.lv (Lf m.D1 port) λ(x6:Int)=>.lf (m,x6)) (.br (port==8) (.lv (Lf m.D1 port) λ(x7:Int)=>.lf (m,x7)) (.br (port==9) (.lv (Lf m.D1 port) λ(x8:Int)=>.lf (m,x8)) (let T2:Tree ((bd×Int)):=.an (Qud m.A7 port) (.lv (XY m.A7 port) λ(x9:Int)=>.lf (m,x9));.br (port==10) T2 (.br (port==11) T2 (.lf (m,0)))))))))))))
def uF m port clock:=(Ld m port clock).m
abbrev Qi0 m port clock:=(Ld m port clock).p
def Qx7:bc:=bc.fz<|lF 138 [] false [.agg bd.sig,.one (.int .i64),.one (.int .u32)] [] (λa r=>Qi0 (bd.of (aC a 0)) (au a 1) (au a 2)) (λa r=>uF (bd.of (aC a 0)) (au a 1) (au a 2)) (λX=>.ee [.agg (bd.cells (X.1)),.int .u32 (X.2)]) (λX=>[])
theorem Qvv:bm pG Qx7:=w4<|wa drawn jG (.cons Zgi (.cons Zo3 (.cons Zs0 (.cons xD (.cons Zek (.nil)))))) Tryz.func138 Tryz.call138 (λa r=>Ld (bd.of (aC a 0)) (au a 1) (au a 2)) [.sl (.ints .u32) false] [] 2 (λ_ _ _=>by kernel_rfl) (λ_ _=>rfl) (λ_ _ h=>h) (λh=>by cases h)
def Te(t:iW)(deadline:Int):Tree iW:=
.lf ({F0:=deadline !=0,D3:=deadline,D8:=false})
def N8 t deadline:=(Te t deadline).m
def Zn8:bc:=mS 200 [] true [.agg iW.sig,.one (.int .u32)] [] (λa r=>Te (iW.of (aC a 0)) (au a 1)) (λX=>.agg (iW.cells X)) (λX=>[])
theorem Zk2:bm pG Zn8:=oS (.nil) Tryz.func200 Tryz.call200 [] [] 2
def Tb(m:List Int)(frame:Int):Tree Bool:=
.lv (jW m) λ(x0:Int)=>.lf (decide (wrap u64 frame<wrap u64 x0))
def N4 m frame:=(Tb m frame).m
def Zfp:bc:=mS 280 [] true [.one (.ints .u32),.one (.int .u32)] [] (λa r=>Tb (dq .u32 a 0) (au a 1)) (λX=>.bool X) (λX=>[])
theorem Za7:bm pG Zfp:=oS (.cons Bv (.nil)) Tryz.func280 Tryz.call280 [] [] 2
def K4(m:List Int)(frame:Int):Tree Bool:=
.br (decide (frame>=0)) (.lv (jW m) λ(x0:Int)=>.lf (decide (frame<x0))) (.lf false)
def EH m frame:=(K4 m frame).m
def Z33:bc:=mS 145 [] true [.one (.ints .u32),.one (.int .i64)] [] (λa r=>K4 (dq .u32 a 0) (au a 1)) (λX=>.bool X) (λX=>[])
theorem Qnc:bm pG Z33:=oS (.cons Bv (.nil)) Tryz.func145 Tryz.call145 [] [] 2
def Qqa(words:List Int)(z:(Int)×(List Int)):Prop:=0<=z.1/\z.1<=words.length/\(z.2.length:Int)=4*z.1
def N1(words:List Int)(z:(Int)×(List Int)):Nat:=(words.length-z.1).toNat
def EJ(words:List Int):Tree (List UInt8):=
.cn (bN 0 1&&bX 1 1&&List.all [D.int u8 0] D.plain&&decide ((0:Int)<=(0:Int)/\0<=wrap i64 (4*(words.length:Int))/\wrap i64 (4*(words.length:Int))<=9223372036854775807/\(↑1:Int)*wrap i64 (4*(words.length:Int))<=140737488355328)) (.lp inferInstance (N1 words (0,[])+1) ((True/\((ai.Nil (ai.ints u32 words)\/rE (1:Nat))/\rE (words:List Int))/\rE ((words.length:Int):Int)/\rE (0:Int)/\True)/\rE ([]:List Int)/\True) (0,[]) λ(v0:Int×List Int)=>.br (decide (v0.1<(words.length:Int))) (.cn (bX 1 1&&bN 0 1&&decide (0<=v0.1/\v0.1<(words.length:Int))) (.cn (decide (1*(v0.2.length+4)<=140737488355328)) (let E1:=words.getD v0.1.toNat 0;.nx ((True/\((ai.Nil (ai.ints u32 words)\/rE (1:Nat))/\rE (words:List Int))/\rE ((words.length:Int):Int)/\rE ((wrap i64 (v0.1+1)):Int)/\True)/\rE ((v0.2++[wrap u8 (words.getD v0.1.toNat 0),wrap u8 (bb u32 (words.getD v0.1.toNat 0) 8),wrap u8 (bb u32 (words.getD v0.1.toNat 0) 16),wrap u8 (bb u32 (words.getD v0.1.toNat 0) 24)]):List Int)/\True) (Sum.inl (wrap i64 (v0.1+1),v0.2++[wrap u8 E1,wrap u8 (bb u32 E1 8),wrap u8 (bb u32 E1 16),wrap u8 (bb u32 E1 24)]))))) (.lf (Sum.inr (bytesOf v0.2))))
def Z5q words:=(EJ words).m
def VJ(words:List Int):Prop:=
words.length<=1000000000000
theorem Z5h(words:List Int)(hw:VJ words):(EJ words).p:=by
 simp only[VJ]at hw
 unfold Tree.p EJ
 repeat'(first|refine fv (inv:=Qqa words) (μ:=N1 words) ?_ (cN _) (λ_ _=>?_)|exact trivial|refine ae (λ_=>?_) (λ_=>?_)|refine aw ?_ ?_|refine df ?_ ?_|refine aq (λ_ _=>?_)|refine ff ?_|refine bh ?_|refine And.intro ?_ ?_)
 all_goals((try simp only[Qqa,N1]at*);exact nY)
def Z8y:cg:={
 α:=(Int)×(List Int)
 F:=λst a=>([(3,.all 0),(10,(lk st 10)),(11,(lk st 11)),(12,.int i64 a.1)],[⟨false,5,1,.ints u8 a.2⟩])
 a0:=λst=>((lk st 12).toInt,(nP st.rows (rN st 3)))
 jo:=λst=>[]++[(rX st 3 0)]}
def Z3b:List (Nat×cg):=[(3,Z8y)]
def Zea:bc:=lF 146 [] true [.one (.ints .u32)] [] (λa r=>VJ (dq .u32 a 0)) (λa r=>Z5q (dq .u32 a 0)) (λX=>.str X) (λX=>[])
theorem Z9x:bm pG Zea:=wa drawn jG (.nil) Tryz.func146 Tryz.call146 (λa r=>EJ (dq .u32 a 0)) [] Z3b 3 (hp:=λa r h=>Z5h (dq .u32 a 0) h)
def DN(m:List Int)(frame:Int):Tree ((List UInt8)×Bool):=
.lv (EH m frame) λ(x0:Bool)=>.br (!x0) (.lf ([],false)) (.cn (bX 1 1&&bN 0 1&&decide (0<=wrap i64 (frame*32)/\wrap i64 (frame*32)<=wrap i64 (wrap i64 (frame*32)+32)/\wrap i64 (wrap i64 (frame*32)+32)<=(m.length:Int))) (let E1:=cU (dA (wrap i64 (wrap i64 (frame*32)+32))-dA (wrap i64 (frame*32))) (cV (dA (wrap i64 (frame*32))) m);.an (VJ E1) (.lv (Z5q E1) λ(x1:List UInt8)=>.lf (x1,true))))
def jD m frame:=(DN m frame).m
abbrev OP m frame:=(DN m frame).p
def Zfm:bc:=mT 99 [] true [.one (.ints .u32),.one (.int .i64)] [] (λa r=>DN (dq .u32 a 0) (au a 1)) (λX=>.ee [.str (X.1),.bool (X.2)]) (λX=>[])
theorem R6:bm pG Zfm:=oT (.cons Qnc (.cons Z9x (.nil))) Tryz.func99 Tryz.call99 [] [] 2
def Qun(d0:gg)(gv:Int):Tree (iB×Bool):=
.br (d0.C8 !=1) (.lf ({C2:=0,At:=0,C9:=0,F1:=[]},false)) (.br (d0.F6==1) (.lf ({C2:=3,At:=gv,C9:=d0.C5,F1:=[]},true)) (.br (d0.F6==2) (.lf ({C2:=4,At:=gv,C9:=d0.C5,F1:=d0.C7},true)) (.lf ({C2:=0,At:=0,C9:=0,F1:=[]},false))))
def XR d0 gv:=(Qun d0 gv).m
def Zaq:bc:=mS 281 [] true [.agg gg.sig,.one (.int .u64)] [] (λa r=>Qun (gg.of (aC a 0)) (au a 1)) (λX=>.ee [.agg (iB.cells (X.1)),.bool (X.2)]) (λX=>[])
theorem Z8o:bm pG Zaq:=oS (.nil) Tryz.func281 Tryz.call281 [] [] 2
def K6(d0:gg)(m:List Int)(cmd gv:Int):Tree (gg×(List iB)):=
.br (d0.C8 !=0) (.lf (d0,[])) (let T1:Tree ((gg×(List iB))):=.lf ({ab:=d0.ab,C9:=d0.C9,Frame:=d0.Frame,C8:=3,F6:=d0.F6,C5:=d0.C5,C6:=d0.C6,C7:=d0.C7},[]);.br (decide (d0.C9>=d0.ab)) T1 (.lv (N4 m d0.Frame) λ(x0:Bool)=>.br (!x0) T1 (.br (cmd==2) (.an (OP m (wrap i64 d0.Frame)) (.lv (jD m (wrap i64 d0.Frame)) λ(x1:List UInt8×Bool)=>.lv (XR {ab:=d0.ab,C9:=d0.C9,Frame:=d0.Frame,C8:=1,F6:=cmd,C5:=d0.C9,C6:=d0.Frame,C7:=x1.1} gv) λ(x2:iB×Bool)=>.lf ({ab:=d0.ab,C9:=d0.C9,Frame:=d0.Frame,C8:=1,F6:=cmd,C5:=d0.C9,C6:=d0.Frame,C7:=x1.1},[x2.1]))) (.lv (XR {ab:=d0.ab,C9:=d0.C9,Frame:=d0.Frame,C8:=1,F6:=cmd,C5:=d0.C9,C6:=d0.Frame,C7:=[]} gv) λ(x3:iB×Bool)=>.lf ({ab:=d0.ab,C9:=d0.C9,Frame:=d0.Frame,C8:=1,F6:=cmd,C5:=d0.C9,C6:=d0.Frame,C7:=[]},[x3.1])))))
def Z0n d0 m cmd gv:=(K6 d0 m cmd gv).m
abbrev Quk d0 m cmd gv:=(K6 d0 m cmd gv).p
def Zhv:bc:=mT 250 [] true [.agg gg.sig,.one (.ints .u32),.one (.int .i64),.one (.int .u64)] [] (λa r=>K6 (gg.of (aC a 0)) (dq .u32 a 1) (au a 2) (au a 3)) (λX=>.ee [.agg (gg.cells (X.1)),.sl 4 (.ah .cf (X.2)) true]) (λX=>[])
theorem Zdn:bm pG Zhv:=oT (.cons Za7 (.cons R6 (.cons Z8o (.nil)))) Tryz.func250 Tryz.call250 [.sl (.ah .cf) true] [] 2
def K7(d0:gg)(m:List Int)(port v gv:Int):Tree (gg×(List iB)):=
.br (port==4) (.lf ({ab:=d0.ab,C9:=v,Frame:=d0.Frame,C8:=d0.C8,F6:=d0.F6,C5:=d0.C5,C6:=d0.C6,C7:=d0.C7},[])) (.br (port==5) (.lf ({ab:=d0.ab,C9:=d0.C9,Frame:=v,C8:=d0.C8,F6:=d0.F6,C5:=d0.C5,C6:=d0.C6,C7:=d0.C7},[])) (.br (port==6) (let T1:Tree ((gg×(List iB))):=.an (Quk d0 m (wrap i64 v) gv) (.lv (Z0n d0 m (wrap i64 v) gv) λ(x0:gg×List iB)=>.lf (x0.1,x0.2));.br (v==1) T1 (.br (v==2) T1 (.br (v==0) (.lv (K8 d0) λ(x2:Bool)=>.br x2 (.lf ({ab:=d0.ab,C9:=d0.C9,Frame:=d0.Frame,C8:=0,F6:=d0.F6,C5:=d0.C5,C6:=d0.C6,C7:=d0.C7},[])) (.lf (d0,[]))) (.lf (d0,[]))))) (.lf (d0,[]))))
def XP d0 m port v gv:=(K7 d0 m port v gv).m
abbrev Z1n d0 m port v gv:=(K7 d0 m port v gv).p
def Zr5:bc:=mT 201 [] true [.agg gg.sig,.one (.ints .u32),.one (.int .i64),.one (.int .u32),.one (.int .u64)] [] (λa r=>K7 (gg.of (aC a 0)) (dq .u32 a 1) (au a 2) (au a 3) (au a 4)) (λX=>.ee [.agg (gg.cells (X.1)),.sl 4 (.ah .cf (X.2)) true]) (λX=>[])
theorem Zms:bm pG Zr5:=oT (.cons Zdn (.cons Qr3 (.nil))) Tryz.func201 Tryz.call201 [.sl (.ah .cf) true] [] 2
def Tc(m:List Int)(frame:Int):Tree Bool:=
.lv (jW m) λ(x0:Int)=>.lf (decide (wrap u64 frame<wrap u64 x0))
def K5 m frame:=(Tc m frame).m
def Zim:bc:=mS 253 [] true [.one (.ints .u32),.one (.int .u32)] [] (λa r=>Tc (dq .u32 a 0) (au a 1)) (λX=>.bool X) (λX=>[])
theorem Qw9:bm pG Zim:=oS (.cons Bv (.nil)) Tryz.func253 Tryz.call253 [] [] 2
def K9(n:ic)(m:List Int)(gv:Int):Tree (List iB):=
.br (decide (n.F7<1)) (.lf ([])) (.br (decide (n.F7>128)) (.lf ([])) (.lv (K5 m n.Frame) λ(x0:Bool)=>.br (!x0) (.lf ([])) (.an (OP m (wrap i64 n.Frame)) (.lv (jD m (wrap i64 n.Frame)) λ(x1:List UInt8×Bool)=>.cn (decide ((0:Int)<=(0:Int)/\0<=n.F7/\n.F7<=(x1.1.length:Int))) (.lf ([{C2:=2,At:=gv,C9:=0,F1:=cU (dA n.F7-dA 0) (cV (dA 0) x1.1)}]))))))
def Zft n m gv:=(K9 n m gv).m
abbrev Z1o n m gv:=(K9 n m gv).p
def Zsn:bc:=mT 252 [] true [.agg ic.sig,.one (.ints .u32),.one (.int .u64)] [] (λa r=>K9 (ic.of (aC a 0)) (dq .u32 a 1) (au a 2)) (λX=>.sl 4 (.ah .cf X) true) (λX=>[])
theorem Znp:bm pG Zsn:=oT (.cons Qw9 (.cons R6 (.nil))) Tryz.func252 Tryz.call252 [.sl (.ah .cf) true] [] 2
def La(n:ic)(m:List Int)(port v gv:Int):Tree (ic×(List iB)):=
.br (port==7) (.lf ({Frame:=v,F7:=n.F7,D2:=n.D2,D4:=n.D4,C4:=n.C4,F8:=n.F8},[])) (.br (port==8) (.lf ({Frame:=n.Frame,F7:=v,D2:=n.D2,D4:=n.D4,C4:=n.C4,F8:=n.F8},[])) (.br (port==9) (.br (v==1) (.an (Z1o n m gv) (.lv (Zft n m gv) λ(x0:List iB)=>.lf (n,x0))) (.br (v==2) (.lv (K5 m n.Frame) λ(x1:Bool)=>.br x1 (.br (!n.D2) (.br (!n.C4) (.lf ({Frame:=n.Frame,F7:=n.F7,D2:=true,D4:=n.Frame,C4:=n.C4,F8:=n.F8},[])) (.lf (n,[]))) (.lf (n,[]))) (.lf (n,[]))) (.br (v==0) (.lf ({Frame:=n.Frame,F7:=n.F7,D2:=n.D2,D4:=n.D4,C4:=false,F8:=0},[])) (.lf (n,[]))))) (.lf (n,[]))))
def XT n m port v gv:=(La n m port v gv).m
abbrev Z7a n m port v gv:=(La n m port v gv).p
def zD:bc:=mT 202 [] true [.agg ic.sig,.one (.ints .u32),.one (.int .i64),.one (.int .u32),.one (.int .u64)] [] (λa r=>La (ic.of (aC a 0)) (dq .u32 a 1) (au a 2) (au a 3) (au a 4)) (λX=>.ee [.agg (ic.cells (X.1)),.sl 4 (.ah .cf (X.2)) true]) (λX=>[])
theorem Ztm:bm pG zD:=oT (.cons Znp (.cons Qw9 (.nil))) Tryz.func202 Tryz.call202 [.sl (.ah .cf) true] [] 2
def Xa(m:List Int)(frame:Int)(s:List UInt8)(z:(Int)×(List Int)):Nat:=(32-z.1).toNat
def ID(m:List Int)(frame:Int)(s:List UInt8):Tree ((List Int)×Bool):=
.an (oc m) (.lv (kK m) λ(x0:List Int)=>.lv (EH m frame) λ(x1:Bool)=>.br (!x1) (.lf (x0,false)) (.br ((s.length:Int) !=(128:Int)) (.lf (x0,false)) (.lp inferInstance (Xa m frame s (0,x0)+1) ((rE (s:List UInt8)/\True/\rE ((wrap i64 (frame*32)):Int)/\rE (0:Int)/\True)/\rE (x0:List Int)/\True) (0,x0) λ(v0:Int×List Int)=>.br (decide (v0.1<32)) (.cn (decide (0<=wrap i64 (4*v0.1)/\wrap i64 (4*v0.1)<=wrap i64 (wrap i64 (4*v0.1)+4)/\wrap i64 (wrap i64 (4*v0.1)+4)<=(s.length:Int))) (let E1:=cU (dA (wrap i64 (wrap i64 (4*v0.1)+4))-dA (wrap i64 (4*v0.1))) (cV (dA (wrap i64 (4*v0.1))) s);.cn (decide ((0:Int)<=(0:Int)/\0<(↑(dF E1):Int))) (.cn (decide ((0:Int)<=(1:Int)/\1<(↑(dF E1):Int))) (.cn (decide ((0:Int)<=(2:Int)/\2<(↑(dF E1):Int))) (.cn (decide ((0:Int)<=(3:Int)/\3<(↑(dF E1):Int))) (.cn (bX 1 1&&bN 0 1&&decide (0<=wrap i64 (wrap i64 (frame*32)+v0.1)/\wrap i64 (wrap i64 (frame*32)+v0.1)<(v0.2.length:Int))) (.nx ((rE (s:List UInt8)/\True/\rE ((wrap i64 (frame*32)):Int)/\rE ((wrap i64 (v0.1+1)):Int)/\True)/\rE ((dB v0.2 (dA (wrap i64 (wrap i64 (frame*32)+v0.1))) (iU u32 (iU u32 (iU u32 (wrap u32 (↑(hY (aV (cU (dA (wrap i64 (wrap i64 (4*v0.1)+4))-dA (wrap i64 (4*v0.1))) (cV (dA (wrap i64 (4*v0.1))) s)) (dA 0) (0:UInt8))):Int)) (fh u32 (wrap u32 (↑(hY (aV (cU (dA (wrap i64 (wrap i64 (4*v0.1)+4))-dA (wrap i64 (4*v0.1))) (cV (dA (wrap i64 (4*v0.1))) s)) (dA 1) (0:UInt8))):Int)) 8)) (fh u32 (wrap u32 (↑(hY (aV (cU (dA (wrap i64 (wrap i64 (4*v0.1)+4))-dA (wrap i64 (4*v0.1))) (cV (dA (wrap i64 (4*v0.1))) s)) (dA 2) (0:UInt8))):Int)) 16)) (fh u32 (wrap u32 (↑(hY (aV (cU (dA (wrap i64 (wrap i64 (4*v0.1)+4))-dA (wrap i64 (4*v0.1))) (cV (dA (wrap i64 (4*v0.1))) s)) (dA 3) (0:UInt8))):Int)) 24))):List Int)/\True) (Sum.inl (wrap i64 (v0.1+1),dB v0.2 (dA (wrap i64 (wrap i64 (frame*32)+v0.1))) (iU u32 (iU u32 (iU u32 (wrap u32 (↑(hY (aV E1 (dA 0) (0:UInt8))):Int)) (fh u32 (wrap u32 (↑(hY (aV E1 (dA 1) (0:UInt8))):Int)) 8)) (fh u32 (wrap u32 (↑(hY (aV E1 (dA 2) (0:UInt8))):Int)) 16)) (fh u32 (wrap u32 (↑(hY (aV E1 (dA 3) (0:UInt8))):Int)) 24))))))))))) (.lf (Sum.inr (v0.2,true))))))
def rY m frame s:=(ID m frame s).m
abbrev Ug m frame s:=(ID m frame s).p
def Qyz:cg:={
 α:=(Int)×(List Int)
 F:=λst a=>([(2,(lk st 2)),(8,.all 0),(9,(lk st 9)),(26,.int i64 a.1)],[⟨false,25,1,.ints u32 a.2⟩])
 a0:=λst=>((lk st 26).toInt,(nP st.rows (rN st 8)))
 jo:=λst=>[]++[(rX st 8 0)]}
def Qv3:List (Nat×cg):=[(6,Qyz)]
def Z34:bc:=mT 205 [] true [.one (.ints .u32),.one (.int .i64),.one (.str)] [] (λa r=>ID (dq .u32 a 0) (au a 1) (jK a 2)) (λX=>.ee [.all 0,.bool (X.2)]) (λX=>[⟨false,25,1,.ints .u32 (X.1)⟩])
theorem Qms:bm pG Z34:=oT (.cons Kc (.cons Qnc (.nil))) Tryz.func205 Tryz.call205 [.row 25 1 (.ints .u32)] Qv3 3
def strings_Repeat(s:List UInt8)(count:Int):(List UInt8):=
Lib.repeatL s count.toNat
def Qdu(s:List UInt8)(count:Int):Prop:=
0<=count/\count<=9223372036854775807/\s.length*count.toNat<=140737488355328
def Qkf(s:List UInt8)(count:Int):List D:=[.str s,.int .i64 count]
def Qke(s:List UInt8)(count:Int):List Row:=[]
def Qdy(X:List UInt8):D:=.str X
def Qdp(X:List UInt8):List Row:=[]
def Qlw:List PT:=[.one (.str),.one (.int .i64)]
def Qjk:List RT:=[]
def Qwp(args:List D)(rows:List Row):(List UInt8):=strings_Repeat (jK args 0) (au args 1)
def Qyi(args:List D)(rows:List Row):Prop:=Qdu (jK args 0) (au args 1)
def Z31:bc:=lF 254 [] true Qlw Qjk Qyi Qwp Qdy Qdp
theorem Qu8(s:List UInt8)(count:Int)(hw:Qdu s count):kG pG 254 (Qkf s count) (Qke s count) (Qdy (strings_Repeat s count)) (Qdp (strings_Repeat s count)):=by
 exact zd Tryz.strings_Repeat hw.1 hw.2.1 hw.2.2
set_option maxRecDepth 100000 in
theorem Qvu(args:List D)(rows:List Row):lg Qlw args 0=Qkf (jK args 0) (au args 1):=by kernel_rfl
set_option maxRecDepth 100000 in
theorem Qu6(args:List D)(rows:List Row):kH Qjk rows 0=Qke (jK args 0) (au args 1):=by kernel_rfl
set_option maxRecDepth 100000 in
theorem Z0y(X:List UInt8):(tD (Qdy X)&&jC (Qdp X))=true:=by kernel_rfl
theorem Z0x:bm pG Z31:=FQ Tryz.call254 (λargs rows hp=>by rw[Qvu args rows,Qu6 args rows];exact Qu8 (jK args 0) (au args 1) hp) (λ_ X=>Z0y X)
def DQ(b:gw)(m:List Int)(port v:Int):Tree (gw×(List Int)):=
let T1:Tree ((gw×(List Int))):=.an (oc m) (.lv (kK m) λ(x0:List Int)=>.lf (b,x0));.br (decide (v>=32)) T1 (.cn (decide (0<=v)) (.br (port==10) (.lv (jW m) λ(x1:Int)=>.br (decide (wrap i64 v<x1)) (.br (ba u32 b.D0 (fh u32 1 v)==0) (.an (Qdu [(0:UInt8)] 128) (.lv (strings_Repeat [(0:UInt8)] 128) λ(x2:List UInt8)=>.an (Ug m (wrap i64 v) x2) (.lv (rY m (wrap i64 v) x2) λ(x3:List Int×Bool)=>.lf ({A2:=b.A2,D0:=iU u32 b.D0 (fh u32 1 v)},x3.1)))) T1) T1) (.br (port==11) (.an (oc m) (.lv (kK m) λ(x6:List Int)=>.lf ({A2:=b.A2,D0:=o4 u32 b.D0 (fh u32 1 v)},x6))) T1)))
def GW b m port v:=(DQ b m port v).m
abbrev Qr4 b m port v:=(DQ b m port v).p
def Zfq:bc:=mT 203 [] true [.agg gw.sig,.one (.ints .u32),.one (.int .i64),.one (.int .u32)] [] (λa r=>DQ (gw.of (aC a 0)) (dq .u32 a 1) (au a 2) (au a 3)) (λX=>.ee [.agg (gw.cells (X.1)),.all 0]) (λX=>[⟨false,25,1,.ints .u32 (X.2)⟩])
theorem Zax:bm pG Zfq:=oT (.cons Kc (.cons Bv (.cons Qms (.cons Z0x (.nil))))) Tryz.func203 Tryz.call203 [.row 25 1 (.ints .u32)] [] 2
def Lc(m:bd)(port v gv:Int):Tree (bd×(List iB)):=
.br (port==0) (.lf (m,[{C2:=1,At:=gv,C9:=0,F1:=[(λ(n:Int)=>UInt8.ofNat n.toNat) (wrap u8 v)]}])) (.br (port==3) (.lv (N8 m.B8 v) λ(x0:iW)=>.lf ({B2:=m.B2,Mem:=m.Mem,B3:=m.B3,B8:=x0,B5:=m.B5,D1:=m.D1,A7:=m.A7,B7:=m.B7,B4:=m.B4,B6:=m.B6},[])) (let T1:Tree ((bd×(List iB))):=.an (Z1n m.B5 m.Mem port v gv) (.lv (XP m.B5 m.Mem port v gv) λ(x1:gg×List iB)=>.lf ({B2:=m.B2,Mem:=m.Mem,B3:=m.B3,B8:=m.B8,B5:=x1.1,D1:=m.D1,A7:=m.A7,B7:=m.B7,B4:=m.B4,B6:=m.B6},x1.2));.br (port==4) T1 (.br (port==5) T1 (.br (port==6) T1 (let T2:Tree ((bd×(List iB))):=.an (Z7a m.D1 m.Mem port v gv) (.lv (XT m.D1 m.Mem port v gv) λ(x4:ic×List iB)=>.lf ({B2:=m.B2,Mem:=m.Mem,B3:=m.B3,B8:=m.B8,B5:=m.B5,D1:=x4.1,A7:=m.A7,B7:=m.B7,B4:=m.B4,B6:=m.B6},x4.2));.br (port==7) T2 (.br (port==8) T2 (.br (port==9) T2 (let T3:Tree ((bd×(List iB))):=.an (Qr4 m.A7 m.Mem port v) (.lv (GW m.A7 m.Mem port v) λ(x7:gw×List Int)=>.lf ({B2:=m.B2,Mem:=x7.2,B3:=m.B3,B8:=m.B8,B5:=m.B5,D1:=m.D1,A7:=x7.1,B7:=m.B7,B4:=m.B4,B6:=m.B6},[]));.br (port==10) T3 (.br (port==11) T3 (.lf (m,[])))))))))))
def EW m port v gv:=(Lc m port v gv).m
abbrev Qh3 m port v gv:=(Lc m port v gv).p
def Qw1:bc:=bc.fz<|lF 139 [] false [.agg bd.sig,.one (.int .i64),.one (.int .u32),.one (.int .u64)] [] (λa r=>Qh3 (bd.of (aC a 0)) (au a 1) (au a 2) (au a 3)) (λa r=>EW (bd.of (aC a 0)) (au a 1) (au a 2) (au a 3)) (λX=>.ee [.agg (bd.cells (X.1)),.sl 4 (.ah .cf (X.2)) true]) (λX=>[])
theorem Qu4:bm pG Qw1:=w4<|wa drawn jG (.cons Zk2 (.cons Zms (.cons Ztm (.cons Zax (.nil))))) Tryz.func139 Tryz.call139 (λa r=>Lc (bd.of (aC a 0)) (au a 1) (au a 2) (au a 3)) [.sl (.ints .u32) false,.sl (.ah .cf) true] [] 2 (λ_ _ _=>by kernel_rfl) (λ_ _=>rfl) (λ_ _ h=>h) (λh=>by cases h)
def Qc(m:bd)(clock:Int):Tree (bd×(List iB)):=
.an (oc m.Mem) (.lv (kK m.Mem) λ(x0:List Int)=>let E1:=({B2:=m.B2,Mem:=x0,B3:=m.B3,B8:=m.B8,B5:=m.B5,D1:=m.D1,A7:=m.A7,B7:=m.B7,B4:=m.B4,B6:=m.B6}:bd);.an (Qq9 E1) (.lv (EP E1) λ(x1:Bool)=>.br (!x1) (.lf (E1,[])) (.an (Qn E1) (.lv (pE E1) λ(x2:bd)=>.an (Z28 x2.B2 x2.Mem) (.lv (Cr x2.B2 x2.Mem) λ(x3:bq×List Int×lG)=>let E2:=({B2:=x3.1,Mem:=x3.2.1,B3:=x2.B3,B8:=x2.B8,B5:=x2.B5,D1:=x2.D1,A7:=x2.A7,B7:=x2.B7,B4:=x2.B4,B6:=x2.B6}:bd);.br (x3.2.2.C2==1) (.an (Qi0 E2 x3.2.2.E0 clock) (.lv (uF E2 x3.2.2.E0 clock) λ(x4:bd×Int)=>.br (x3.2.2.F9 !=0) (.cn (bN 0 1&&decide (0<=x3.2.2.F9/\x3.2.2.F9<(↑16:Int))) (.lf ({B2:={X:=iv.of 0 (dB (iv.l x4.1.B2.X) x3.2.2.F9.toNat x4.2),Pc:=x4.1.B2.Pc,C3:=x4.1.B2.C3},Mem:=x4.1.Mem,B3:=x4.1.B3,B8:=x4.1.B8,B5:=x4.1.B5,D1:=x4.1.D1,A7:=x4.1.A7,B7:=wrap u64 (x4.1.B7+1),B4:=x4.1.B4,B6:=x4.1.B6},[]))) (.lf ({B2:=x4.1.B2,Mem:=x4.1.Mem,B3:=x4.1.B3,B8:=x4.1.B8,B5:=x4.1.B5,D1:=x4.1.D1,A7:=x4.1.A7,B7:=wrap u64 (x4.1.B7+1),B4:=x4.1.B4,B6:=x4.1.B6},[])))) (.br (x3.2.2.C2==2) (.an (Qh3 E2 x3.2.2.E0 x3.2.2.Value m.B7) (.lv (EW E2 x3.2.2.E0 x3.2.2.Value m.B7) λ(x5:bd×List iB)=>.lf ({B2:=x5.1.B2,Mem:=x5.1.Mem,B3:=x5.1.B3,B8:=x5.1.B8,B5:=x5.1.B5,D1:=x5.1.D1,A7:=x5.1.A7,B7:=wrap u64 (x5.1.B7+1),B4:=x5.1.B4,B6:=x5.1.B6},x5.2))) (.br (x3.2.2.C2==3) (.lf ({B2:=x3.1,Mem:=x3.2.1,B3:=x2.B3,B8:=x2.B8,B5:=x2.B5,D1:=x2.D1,A7:=x2.A7,B7:=wrap u64 (x2.B7+1),B4:=true,B6:=x2.B6},[])) (.br (x3.2.2.C2==4) (.lf ({B2:=x3.1,Mem:=x3.2.1,B3:=x2.B3,B8:=x2.B8,B5:=x2.B5,D1:=x2.D1,A7:=x2.A7,B7:=wrap u64 (x2.B7+1),B4:=x2.B4,B6:=true},[])) (.lf ({B2:=x3.1,Mem:=x3.2.1,B3:=x2.B3,B8:=x2.B8,B5:=x2.B5,D1:=x2.D1,A7:=x2.A7,B7:=wrap u64 (x2.B7+1),B4:=x2.B4,B6:=x2.B6},[]))))))))))
def Ea m clock:=(Qc m clock).m
abbrev Ub m clock:=(Qc m clock).p
def Z98:bc:=bc.fz<|lF 92 [] false [.agg bd.sig,.one (.int .u32)] [] (λa r=>Ub (bd.of (aC a 0)) (au a 1)) (λa r=>Ea (bd.of (aC a 0)) (au a 1)) (λX=>.ee [.agg (bd.cells (X.1)),.sl 4 (.ah .cf (X.2)) false]) (λX=>[])
theorem Z8p:bm pG Z98:=w4<|wa drawn jG (.cons Kc (.cons Z54 (.cons Z2m (.cons Znk (.cons Qvv (.cons Qu4 (.nil))))))) Tryz.func92 Tryz.call92 (λa r=>Qc (bd.of (aC a 0)) (au a 1)) [.sl (.ints .u32) false,.sl (.ah .cf) false] [] 2 (λ_ _ _=>by kernel_rfl) (λ_ _=>rfl) (λ_ _ h=>h) (λh=>by cases h)
end
noncomputable section
def Z89(op:Int):Tree Int:=
let T1:Tree (Int):=.br (op==49) (.lf 3) (let T2:Tree (Int):=.br (op==24) (.lf 6) (.br (op==48) (.lf 7) (.br (op==58) (.lf 8) (.br (op==59) (.lf 8) (.br (op==60) (.lf 9) (.br (op==61) (.lf 9) (.br (op==56) (.lf 1) (.br (op==57) (.lf 1) (.br (decide (op>=62)) (.br (decide (op<=64)) (.lf 1) (.lf 0)) (.lf 0)))))))));.br (decide (op>=17)) (.br (decide (op<=19)) (.lf 4) (.br (decide (op>=20)) (.br (decide (op<=22)) (.lf 5) T2) T2)) (.br (decide (op>=20)) (.br (decide (op<=22)) (.lf 5) T2) T2));let T3:Tree (Int):=.br (op==16) (.lf 3) (.br (op==23) (.lf 3) (.br (decide (op>=32)) (.br (decide (op<=36)) (.lf 3) (.br (decide (op>=40)) (.br (decide (op<=45)) (.lf 3) T1) T1)) (.br (decide (op>=40)) (.br (decide (op<=45)) (.lf 3) T1) T1)));.br (decide (op>=1)) (.br (decide (op<=13)) (.lf 2) T3) T3
def o5 op:=(Z89 op).m
def Zof:bc:=mS 178 [] true [.one (.int .i64)] [] (λa r=>Z89 (au a 0)) (λX=>.int .i64 X) (λX=>[])
theorem R7:bm pG Zof:=oS (.nil) Tryz.func178 Tryz.call178 [] [] 2
def Tp(r:Int):Tree Bool:=
.br (decide (r>=0)) (.lf (decide (r<=15))) (.lf false)
def Lo r:=(Tp r).m
def Z80:bc:=mS 233 [] true [.one (.int .i64)] [] (λa r=>Tp (au a 0)) (λX=>.bool X) (λX=>[])
theorem Z3d:bm pG Z80:=oS (.nil) Tryz.func233 Tryz.call233 [] [] 2
def Xp(f:Int):Tree (Int×Int):=
.br (f==3) (.lf ((-32768),32767)) (.br (f==7) (.lf ((-32768),32767)) (.br (f==4) (.lf (0,65535)) (.br (f==6) (.lf (0,65535)) (.br (f==5) (.lf (0,31)) (.br (f==8) (.lf (0,7)) (.br (f==9) (.lf (0,11)) (.lf (0,0))))))))
def Xo f:=(Xp f).m
def Zf1:bc:=mS 179 [] true [.one (.int .i64)] [] (λa r=>Xp (au a 0)) (λX=>.ee [.int .i64 (X.1),.int .i64 (X.2)]) (λX=>[])
theorem Quy:bm pG Zf1:=oS (.nil) Tryz.func179 Tryz.call179 [] [] 2
def Oj(i:ik):Tree Bool:=
.lv (o5 i.Op) λ(x0:Int)=>.br (x0==0) (.lf false) (.lv (Lo i.A) λ(x1:Bool)=>.br (!x1) (.lf false) (.lv (Lo i.B) λ(x2:Bool)=>.br (!x2) (.lf false) (.lv (Lo i.C) λ(x3:Bool)=>.br (!x3) (.lf false) (.lv (Xo x0) λ(x4:Int×Int)=>.br (decide (wrap i64 i.bz<x4.1)) (.lf false) (.br (decide (wrap i64 i.bz>x4.2)) (.lf false) (let T1:Tree (Bool):=.br (x0==1) (.br (i.A !=0) (.lf false) (.br (i.B==0) (.lf true) (.br (decide (x0>=2)) (.lf (decide (x0<=5))) (.lf false)))) (.br (i.B==0) (.lf true) (.br (decide (x0>=2)) (.lf (decide (x0<=5))) (.lf false)));.br (x0 !=2) (.br (i.C !=0) (.lf false) T1) T1))))))
def Q9 i:=(Oj i).m
def Zln:bc:=mS 177 [] true [.agg ik.sig] [] (λa r=>Oj (ik.of (aC a 0))) (λX=>.bool X) (λX=>[])
theorem Qwv:bm pG Zln:=oS (.cons R7 (.cons Z3d (.cons Quy (.nil)))) Tryz.func177 Tryz.call177 [] [] 2
def S6(i:ik):Tree (Int×Bool):=
.lv (Q9 i) λ(x0:Bool)=>.br (!x0) (.lf (0,false)) (.lf (iU u32 (iU u32 (iU u32 (iU u32 (fh u32 (wrap u32 i.Op) 24) (fh u32 (wrap u32 i.A) 20)) (fh u32 (wrap u32 i.B) 16)) (ba u32 (wrap u32 i.bz) 65535)) (wrap u32 i.C),true))
def oZ i:=(S6 i).m
def Zdw:bc:=mS 125 [] true [.agg ik.sig] [] (λa r=>S6 (ik.of (aC a 0))) (λX=>.ee [.int .u32 (X.1),.bool (X.2)]) (λX=>[])
theorem Qmg:bm pG Zdw:=oS (.cons Qwv (.nil)) Tryz.func125 Tryz.call125 [] [] 2
def Zd9:Tree (List Int):=
.lf ([1,2,3,4,5,6,7,8,9,10,11,12,13,16,16,17,18,19,20,21,22,23,24,24,32,32,33,34,35,35,36,40,41,42,43,44,45,48,49,56,57,58,59,60,60,61,61,62,63,64])
def Zfa:(List Int):=(Zd9).m
def Zt7:bc:=mS 180 [] true [] [] (λa r=>Zd9) (λX=>.sl 1 (.ints .i64 X) true) (λX=>[])
theorem Zny:bm pG Zt7:=oS (.nil) Tryz.func180 Tryz.call180 [.sl (.ints .i64) true] [] 2
def Z4s(DA:Int):Tree (Int×Int):=
let E1:=wrap u64 (rP u64 (wrap u64 (DA+11400714819323198485)) (bb u64 (wrap u64 (DA+11400714819323198485)) 30)*13787848793156543929);let E2:=wrap u64 (rP u64 E1 (bb u64 E1 27)*10723151780598845931);.lf (rP u64 E2 (bb u64 E2 31),wrap u64 (DA+11400714819323198485))
def Zjn DA:=(Z4s DA).m
def Zoe:bc:=mS 89 [] true [.one (.int .u64)] [] (λa r=>Z4s (au a 0)) (λX=>.ee [.int .u64 (X.1),.int .u64 (X.2)]) (λX=>[])
theorem Zj7:bm pG Zoe:=oS (.nil) Tryz.func89 Tryz.call89 [] [] 2
def Ux(n k:Int):Tree Int:=
.lv (Zjn (rP u64 (wrap u64 n) (wrap u64 (wrap u64 k*11400714819323198485)))) λ(x0:Int×Int)=>.lf (wrap i64 (bb u64 x0.1 1))
def Uw n k:=(Ux n k).m
def Zsc:bc:=mS 42 [] true [.one (.int .i64),.one (.int .i64)] [] (λa r=>Ux (au a 0) (au a 1)) (λX=>.int .i64 X) (λX=>[])
theorem Qv7:bm pG Zsc:=oS (.cons Zj7 (.nil)) Tryz.func42 Tryz.call42 [] [] 2
def Qss(n k:Int):Tree Int:=
.cn (decide (k≠0)) (.br (decide (cZ n k<0)) (.lf (wrap i64 (cZ n k+k))) (.lf (cZ n k)))
def FR n k:=(Qss n k).m
abbrev J8 n k:=(Qss n k).p
def Zll:bc:=mT 28 [] true [.one (.int .i64),.one (.int .i64)] [] (λa r=>Qss (au a 0) (au a 1)) (λX=>.int .i64 X) (λX=>[])
theorem Qxk:bm pG Zll:=oT (.nil) Tryz.func28 Tryz.call28 [] [] 2
def VA(n:Int):Tree ik:=
.lv Zfa λ(x0:List Int)=>.lv (Uw n 1) λ(x1:Int)=>.an (J8 x1 (x0.length:Int)) (.lv (FR x1 (x0.length:Int)) λ(x2:Int)=>.cn (bX 1 1&&bN 0 1&&decide (0<=x2/\x2<(x0.length:Int))) (.an (J8 (bb i64 x1 8) 6) (.lv (FR (bb i64 x1 8) 6) λ(x3:Int)=>.an (J8 (bb i64 x1 12) 6) (.lv (FR (bb i64 x1 12) 6) λ(x4:Int)=>.an (J8 (bb i64 x1 16) 6) (.lv (FR (bb i64 x1 16) 6) λ(x5:Int)=>.an (J8 (bb i64 x1 20) 24) (.lv (FR (bb i64 x1 20) 24) λ(x6:Int)=>.br (decide (x0.getD x2.toNat (0:Int)<=(13:Int))) (.lf ({Op:=x0.getD x2.toNat 0,A:=x3,B:=x4,C:=x5,bz:=0})) (let E4:=({Op:=x0.getD x2.toNat 0,A:=x3,B:=x4,C:=0,bz:=wrap i32 (wrap i64 (wrap i64 (8*x6)-32))}:ik);let T1:Tree (ik):=.br (x0.getD x2.toNat (0:Int)==(49:Int)) (.lf (E4)) (.br (x0.getD x2.toNat (0:Int)==(24:Int)) (.lf ({Op:=x0.getD x2.toNat 0,A:=x3,B:=0,C:=0,bz:=wrap i32 (wrap i64 (x6*ba i64 (bb i64 x1 40) 1))})) (let T2:Tree (ik):=let E6:=({Op:=x0.getD x2.toNat 0,A:=x3,B:=0,C:=0,bz:=wrap i32 (cZ x6 8)}:ik);.br (x0.getD x2.toNat (0:Int)==(58:Int)) (.lf (E6)) (.br (x0.getD x2.toNat (0:Int)==(59:Int)) (.lf (E6)) (let E5:=({Op:=x0.getD x2.toNat 0,A:=x3,B:=0,C:=0,bz:=wrap i32 (cZ x6 12)}:ik);.br (x0.getD x2.toNat (0:Int)==(60:Int)) (.lf (E5)) (.br (x0.getD x2.toNat (0:Int)==(61:Int)) (.lf (E5)) (.lf ({Op:=x0.getD x2.toNat 0,A:=0,B:=0,C:=0,bz:=0})))));.br (decide (x0.getD x2.toNat (0:Int)>=(17:Int))) (.br (decide (x0.getD x2.toNat (0:Int)<=(22:Int))) (.lf ({Op:=x0.getD x2.toNat 0,A:=x3,B:=x4,C:=0,bz:=wrap i32 x6})) T2) T2));let T3:Tree (ik):=.br (x0.getD x2.toNat (0:Int)==(16:Int)) (.lf (E4)) (.br (x0.getD x2.toNat (0:Int)==(23:Int)) (.lf (E4)) (.br (decide (x0.getD x2.toNat (0:Int)>=(32:Int))) (.br (decide (x0.getD x2.toNat (0:Int)<=(36:Int))) (.lf (E4)) T1) T1));.br (decide (x0.getD x2.toNat (0:Int)>=(40:Int))) (.br (decide (x0.getD x2.toNat (0:Int)<=(48:Int))) (.br (x0.getD x2.toNat (0:Int)==(48:Int)) (.lf ({Op:=x0.getD x2.toNat 0,A:=x3,B:=0,C:=0,bz:=wrap i32 (wrap i64 (x6-12))})) (.lf ({Op:=x0.getD x2.toNat 0,A:=x3,B:=x4,C:=0,bz:=wrap i32 (wrap i64 (x6-12))}))) T3) T3)))))))
def Zid n:=(VA n).m
abbrev Qi7 n:=(VA n).p
def Zmo:bc:=mT 127 [] true [.one (.int .i64)] [] (λa r=>VA (au a 0)) (λX=>.agg (ik.cells X)) (λX=>[])
theorem Zjt:bm pG Zmo:=oT (.cons Zny (.cons Qv7 (.cons Qxk (.nil)))) Tryz.func127 Tryz.call127 [] [] 2
def Quc(l:List Int)(z:(Int)×(List Int)):Prop:=0<=z.1/\z.1<=l.length/\(z.2.length:Int)=z.1
def S7(l:List Int)(z:(Int)×(List Int)):Nat:=(l.length-z.1).toNat
def NF(l:List Int):Tree (List Int):=
.lp inferInstance (S7 l (0,[])+1) ((((ai.Nil (ai.ints i64 l)\/rE (1:Nat))/\rE (l:List Int))/\True/\rE (0:Int)/\True)/\rE ([]:List Int)/\True) (0,[]) λ(v0:Int×List Int)=>.br (decide (v0.1<(l.length:Int))) (let E1:=bX 1 1&&bN 0 1&&decide (0<=v0.1/\v0.1<(l.length:Int));.cn E1 (let E2:=decide (4*(v0.2.length+1)<=140737488355328);.br (cZ (l.getD v0.1.toNat 0) (17:Int)==(0:Int)) (.cn E1 (.cn E2 (.nx ((((ai.Nil (ai.ints i64 l)\/rE (1:Nat))/\rE (l:List Int))/\True/\rE ((wrap i64 (v0.1+1)):Int)/\True)/\rE ((v0.2++[wrap u32 (ba i64 (l.getD v0.1.toNat 0) 4294967295)]):List Int)/\True) (Sum.inl (wrap i64 (v0.1+1),v0.2++[wrap u32 (ba i64 (l.getD v0.1.toNat 0) 4294967295)]))))) (.cn E1 (.an (Qi7 (l.getD v0.1.toNat 0)) (.lv (Zid (l.getD v0.1.toNat 0)) λ(x0:ik)=>.lv (oZ x0) λ(x1:Int×Bool)=>.cn E2 (.nx ((((ai.Nil (ai.ints i64 l)\/rE (1:Nat))/\rE (l:List Int))/\True/\rE ((wrap i64 (v0.1+1)):Int)/\True)/\rE ((v0.2++[x1.1]):List Int)/\True) (Sum.inl (wrap i64 (v0.1+1),v0.2++[x1.1])))))))) (.lf (Sum.inr v0.2))
def Ua l:=(NF l).m
abbrev Qo5 l:=(NF l).p
def Ziv:cg:={
 α:=(Int)×(List Int)
 F:=λst a=>([(0,(lk st 0)),(3,.all 0),(4,.int i64 a.1)],[⟨false,25,1,.ints u32 a.2⟩])
 a0:=λst=>((lk st 4).toInt,(nP st.rows (rN st 3)))
 jo:=λst=>[]++[(rX st 3 0)]}
def Za:List (Nat×cg):=[(3,Ziv)]
def Zn9:bc:=mT 78 [] true [.one (.ints .i64)] [] (λa r=>NF (dq .i64 a 0)) (λX=>.all 0) (λX=>[⟨false,25,1,.ints .u32 X⟩])
theorem Zh2:bm pG Zn9:=oT (.cons Qmg (.cons Zjt (.nil))) Tryz.func78 Tryz.call78 [.row 25 1 (.ints .u32)] Za 3
def S9(pc:Int):Tree bq:=
.lf ({X:={a0:=0,a1:=0,a2:=0,a3:=0,a4:=0,a5:=0,a6:=0,a7:=0,a8:=0,a9:=0,kq:=0,kr:=0,a12:=0,ku:=0,kv:=0,ky:=0},Pc:=pc,C3:={a0:=1,a1:=0,a2:=0,a3:=0,a4:=0,a5:=0,a6:=0,a7:=0}})
def W4 pc:=(S9 pc).m
def Zih:bc:=mS 128 [] true [.one (.int .u32)] [] (λa r=>S9 (au a 0)) (λX=>.agg (bq.cells X)) (λX=>[])
theorem Zfu:bm pG Zih:=oS (.nil) Tryz.func128 Tryz.call128 [] [] 2
def RS(bj:Int):Tree (List Int):=
.br (decide (bj<1)) (.lf ([])) (.br (decide (bj>32)) (.lf ([])) (.cn (bN 0 1&&bX 1 1&&List.all [D.int u32 0] D.plain&&decide (0<=wrap i64 (bj*32)/\wrap i64 (bj*32)<=wrap i64 (bj*32)/\wrap i64 (bj*32)<=9223372036854775807/\(↑4:Int)*wrap i64 (bj*32)<=140737488355328)) (.lf (List.replicate (dA (wrap i64 (bj*32))) 0))))
def Ta bj:=(RS bj).m
abbrev Qlk bj:=(RS bj).p
def Ztq:bc:=mT 38 [] true [.one (.int .i64)] [] (λa r=>RS (au a 0)) (λX=>.all 0) (λX=>[⟨false,25,1,.ints .u32 X⟩])
theorem Zna:bm pG Ztq:=oT (.nil) Tryz.func38 Tryz.call38 [.row 25 1 (.ints .u32)] [] 2
def GF(bj blocks:Int)(image:List Int):Tree (bd×Bool):=
let T1:Tree ((bd×Bool)):=.lf ({B2:={X:={a0:=0,a1:=0,a2:=0,a3:=0,a4:=0,a5:=0,a6:=0,a7:=0,a8:=0,a9:=0,kq:=0,kr:=0,a12:=0,ku:=0,kv:=0,ky:=0},Pc:=0,C3:={a0:=0,a1:=0,a2:=0,a3:=0,a4:=0,a5:=0,a6:=0,a7:=0}},Mem:=[],B3:={D9:=[]},B8:={F0:=false,D3:=0,D8:=false},B5:={ab:=0,C9:=0,Frame:=0,C8:=0,F6:=0,C5:=0,C6:=0,C7:=[]},D1:={Frame:=0,F7:=0,D2:=false,D4:=0,C4:=false,F8:=0},A7:={A2:=0,D0:=0},B7:=0,B4:=false,B6:=false},false);.br (decide (bj<1)) T1 (.br (decide (bj>32)) T1 (.br (decide (blocks<0)) T1 (.br (decide (blocks>64)) T1 (.br (decide ((image.length:Int)>wrap i64 (bj*32))) T1 (.lv (W4 0) λ(x0:bq)=>.an (Qlk bj) (.lv (Ta bj) λ(x1:List Int)=>.lf ({B2:=x0,Mem:=cU (Min.min (image.length) (x1.length)) image++cV (Min.min (image.length) (x1.length)) x1,B3:={D9:=[]},B8:={F0:=false,D3:=0,D8:=false},B5:={ab:=wrap u32 blocks,C9:=0,Frame:=0,C8:=0,F6:=0,C5:=0,C6:=0,C7:=[]},D1:={Frame:=0,F7:=0,D2:=false,D4:=0,C4:=false,F8:=0},A7:={A2:=0,D0:=0},B7:=0,B4:=false,B6:=false},true)))))))
def lr bj blocks image:=(GF bj blocks image).m
abbrev VK bj blocks image:=(GF bj blocks image).p
def Zr7:bc:=mT 79 [] true [.one (.int .i64),.one (.int .i64),.one (.ints .u32)] [] (λa r=>GF (au a 0) (au a 1) (dq .u32 a 2)) (λX=>.ee [.agg (bd.cu (X.1) (.all 0)),.bool (X.2)]) (λX=>[⟨false,25,1,.ints .u32 (X.1).Mem⟩])
theorem Zmq:bm pG Zr7:=oT (.cons Zfu (.cons Zna (.nil))) Tryz.func79 Tryz.call79 [.row 25 1 (.ints .u32)] [] 2
def Qk5(a b:List Int)(z:(Int)):Prop:=0<=z/\z<=a.length/\a.length=b.length
def Jk(a b:List Int)(z:(Int)):Nat:=(a.length-z).toNat
def Jj(a b:List Int):Tree Bool:=
.br ((a.length:Int) !=(b.length:Int)) (.lf false) (.lp inferInstance (Jk a b 0+1) ((((ai.Nil (ai.ints u32 a)\/rE (1:Nat))/\rE (a:List Int))/\((ai.Nil (ai.ints u32 b)\/rE (1:Nat))/\rE (b:List Int))/\rE (0:Int)/\True)/\True) 0 λ(v0:Int)=>.br (decide (v0<(a.length:Int))) (.cn (bX 1 1&&bN 0 1&&decide (0<=v0/\v0<(a.length:Int))) (.cn (bX 1 1&&bN 0 1&&decide (0<=v0/\v0<(b.length:Int))) (.br (a.getD v0.toNat 0 !=b.getD v0.toNat 0) (.lf (Sum.inr false)) (.nx ((((ai.Nil (ai.ints u32 a)\/rE (1:Nat))/\rE (a:List Int))/\((ai.Nil (ai.ints u32 b)\/rE (1:Nat))/\rE (b:List Int))/\rE ((wrap i64 (v0+1)):Int)/\True)/\True) (Sum.inl (wrap i64 (v0+1))))))) (.lf (Sum.inr true)))
def PF a b:=(Jj a b).m
def VL(a b:List Int):Prop:=
a.length<=1000000000000
theorem Qwo(a b:List Int)(hw:VL a b):(Jj a b).p:=by
 simp only[VL]at hw
 unfold Tree.p Jj
 repeat'(first|refine fv (inv:=Qk5 a b) (μ:=Jk a b) ?_ (cN _) (λ_ _=>?_)|exact trivial|refine ae (λ_=>?_) (λ_=>?_)|refine aw ?_ ?_|refine df ?_ ?_|refine aq (λ_ _=>?_)|refine ff ?_|refine bh ?_|refine And.intro ?_ ?_)
 all_goals((try simp only[Qk5,Jk]at*);exact nY)
def Z0k:cg:={
 α:=(Int)
 F:=λst a=>([(0,(lk st 0)),(1,(lk st 1)),(5,.int i64 a)],[])
 a0:=λst=>(lk st 5).toInt
 jo:=λst=>[]++[]}
def Qw0:List (Nat×cg):=[(4,Z0k)]
def Z3i:bc:=lF 67 [] true [.one (.ints .u32),.one (.ints .u32)] [] (λa r=>VL (dq .u32 a 0) (dq .u32 a 1)) (λa r=>PF (dq .u32 a 0) (dq .u32 a 1)) (λX=>.bool X) (λX=>[])
theorem Qzn:bm pG Z3i:=wa drawn jG (.nil) Tryz.func67 Tryz.call67 (λa r=>Jj (dq .u32 a 0) (dq .u32 a 1)) [] Qw0 3 (hp:=λa r h=>Qwo (dq .u32 a 0) (dq .u32 a 1) h)
def PE(a b:bd):Tree Bool:=
.br (eqs [D.int u32 a.B2.X.a0,D.int u32 a.B2.X.a1,D.int u32 a.B2.X.a2,D.int u32 a.B2.X.a3,D.int u32 a.B2.X.a4,D.int u32 a.B2.X.a5,D.int u32 a.B2.X.a6,D.int u32 a.B2.X.a7,D.int u32 a.B2.X.a8,D.int u32 a.B2.X.a9,D.int u32 a.B2.X.kq,D.int u32 a.B2.X.kr,D.int u32 a.B2.X.a12,D.int u32 a.B2.X.ku,D.int u32 a.B2.X.kv,D.int u32 a.B2.X.ky,D.int u32 a.B2.Pc,D.int u32 a.B2.C3.a0,D.int u32 a.B2.C3.a1,D.int u32 a.B2.C3.a2,D.int u32 a.B2.C3.a3,D.int u32 a.B2.C3.a4,D.int u32 a.B2.C3.a5,D.int u32 a.B2.C3.a6,D.int u32 a.B2.C3.a7] [D.int u32 b.B2.X.a0,D.int u32 b.B2.X.a1,D.int u32 b.B2.X.a2,D.int u32 b.B2.X.a3,D.int u32 b.B2.X.a4,D.int u32 b.B2.X.a5,D.int u32 b.B2.X.a6,D.int u32 b.B2.X.a7,D.int u32 b.B2.X.a8,D.int u32 b.B2.X.a9,D.int u32 b.B2.X.kq,D.int u32 b.B2.X.kr,D.int u32 b.B2.X.a12,D.int u32 b.B2.X.ku,D.int u32 b.B2.X.kv,D.int u32 b.B2.X.ky,D.int u32 b.B2.Pc,D.int u32 b.B2.C3.a0,D.int u32 b.B2.C3.a1,D.int u32 b.B2.C3.a2,D.int u32 b.B2.C3.a3,D.int u32 b.B2.C3.a4,D.int u32 b.B2.C3.a5,D.int u32 b.B2.C3.a6,D.int u32 b.B2.C3.a7]) (.an (VL a.Mem b.Mem) (.lv (PF a.Mem b.Mem) λ(x0:Bool)=>.br x0 (.br (eqs [D.str a.B3.D9] [D.str b.B3.D9]) (.br (eqs [D.bool a.B8.F0,D.int u32 a.B8.D3,D.bool a.B8.D8] [D.bool b.B8.F0,D.int u32 b.B8.D3,D.bool b.B8.D8]) (.br (eqs [D.int u32 a.B5.ab,D.int u32 a.B5.C9,D.int u32 a.B5.Frame,D.int i64 a.B5.C8,D.int i64 a.B5.F6,D.int u32 a.B5.C5,D.int u32 a.B5.C6,D.str a.B5.C7] [D.int u32 b.B5.ab,D.int u32 b.B5.C9,D.int u32 b.B5.Frame,D.int i64 b.B5.C8,D.int i64 b.B5.F6,D.int u32 b.B5.C5,D.int u32 b.B5.C6,D.str b.B5.C7]) (.br (eqs [D.int u32 a.D1.Frame,D.int u32 a.D1.F7,D.bool a.D1.D2,D.int u32 a.D1.D4,D.bool a.D1.C4,D.int u32 a.D1.F8] [D.int u32 b.D1.Frame,D.int u32 b.D1.F7,D.bool b.D1.D2,D.int u32 b.D1.D4,D.bool b.D1.C4,D.int u32 b.D1.F8]) (.br (eqs [D.int u32 a.A7.A2,D.int u32 a.A7.D0] [D.int u32 b.A7.A2,D.int u32 b.A7.D0]) (.br (a.B7==b.B7) (.br (a.B4==b.B4) (.lf (a.B6==b.B6)) (.lf false)) (.lf false)) (.lf false)) (.lf false)) (.lf false)) (.lf false)) (.lf false)) (.lf false))) (.lf false)
def Zjy a b:=(PE a b).m
abbrev Qos a b:=(PE a b).p
def Zoa:bc:=mT 24 [] true [.agg bd.sig,.agg bd.sig] [] (λa r=>PE (bd.of (aC a 0)) (bd.of (aC a 1))) (λX=>.bool X) (λX=>[])
theorem Zip:bm pG Zoa:=oT (.cons Qzn (.nil)) Tryz.func24 Tryz.call24 [] [] 2
