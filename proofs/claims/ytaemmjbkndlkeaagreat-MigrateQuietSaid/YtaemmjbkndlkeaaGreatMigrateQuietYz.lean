import Derived.Test.YtaemmjbkndlkeaaGreatMigrateQuietFh
import Derived.Test.YtaemmjbkndlkeaaGreatMigrateQuietYx
open List renaming take->cU,drop->cV,length->dF,set->dB,getD->aV
open Int renaming toNat->dA,tmod->cZ
open UInt8 renaming toNat->hY
open Nat renaming blt->bN,beq->bX,lt_succ_self->cN
set_option maxRecDepth 100000
set_option linter.all false
namespace Go.Proofs.YtaemmjbkndlkeaaGreat
open Go Go.GD Go.IntKind
noncomputable section
def Iy(m:bb):Tree Bool:=
.an (U4 m) (.lv (AR m) λ(x0:Bool)=>.br x0 (.br (!m.B6) (.an (Qpp m) (.lv (SX m) λ(x1:Bool)=>.br (!x1) (.lf (decide (m.B7<1152921504606846976))) (.lf false))) (.lf false)) (.lf false))
def EA m:=(Iy m).m
abbrev Qpv m:=(Iy m).p
def Za4:ba:=mT 135 [] true [.agg bb.sig] [] (λa r=>Iy (bb.of (aC a 0))) (λX=>.bool X) (λX=>[])
theorem Z5w:bj pG Za4:=oT (.cons Quq (.cons Z7x (.nil))) Tryz.func135 Tryz.call135 [] [] 2
def Qk2(m:bb)(z:(Int)):Nat:=(5-z).toNat
def KS(m:bb):Tree bb:=
let E1:=({B2:=m.B2,Mem:=m.Mem,B3:=m.B3,B8:=m.B8,B5:=m.B5,D1:=m.D1,A6:=m.A6,B7:=m.B7,B4:=false,B6:=m.B6}:bb);.br (bc u32 m.B2.C2.a0 (2:Int)==(0:Int)) (.lf (E1)) (.an (Qcf E1) (.lv (Ls E1) λ(x0:Int)=>.lp inferInstance (Qk2 m 0+1) ((rZ/\rZ/\rE (x0:Int)/\rE (0:Int)/\True)/\(rE m.B2.X.a0/\rE m.B2.X.a1/\rE m.B2.X.a2/\rE m.B2.X.a3/\rE m.B2.X.a4/\rE m.B2.X.a5/\rE m.B2.X.a6/\rE m.B2.X.a7/\rE m.B2.X.a8/\rE m.B2.X.a9/\rE m.B2.X.kr/\rE m.B2.X.ku/\rE m.B2.X.a12/\rE m.B2.X.kv/\rE m.B2.X.ky/\rE m.B2.X.kz/\rE m.B2.Pc/\rE m.B2.C2.a0/\rE m.B2.C2.a1/\rE m.B2.C2.a2/\rE m.B2.C2.a3/\rE m.B2.C2.a4/\rE m.B2.C2.a5/\rE m.B2.C2.a6/\rE m.B2.C2.a7/\((ai.Nil (ai.ints u32 m.Mem)\/rE (1:Nat))/\rE m.Mem)/\rE m.B3.D9/\rE m.B8.F0/\rE m.B8.D2/\rE m.B8.D8/\rE m.B5.ab/\rE m.B5.C9/\rE m.B5.Frame/\rE m.B5.C8/\rE m.B5.F5/\rE m.B5.C5/\rE m.B5.C6/\rE m.B5.C7/\rE m.D1.Frame/\rE m.D1.F7/\rE m.D1.D3/\rE m.D1.D4/\rE m.D1.C3/\rE m.D1.F8/\rE m.A6.A2/\rE m.A6.D0/\rE m.B7/\rE (false:Bool)/\rE m.B6/\True)/\(mE zM True True)/\True) 0 λ(v0:Int)=>.br (decide (v0<5)) (.cn (decide (0<=v0)) (.br (bc u32 x0 (eu u32 1 v0) !=0) (.lv (ra m.B2 (wrap i64 (16+v0)) 0) λ(x1:bq)=>.lf (Sum.inr {B2:=x1,Mem:=m.Mem,B3:=m.B3,B8:=m.B8,B5:=m.B5,D1:=m.D1,A6:=m.A6,B7:=m.B7,B4:=false,B6:=m.B6})) (.nx ((rZ/\rZ/\rE (x0:Int)/\rE ((wrap i64 (v0+1)):Int)/\True)/\(rE m.B2.X.a0/\rE m.B2.X.a1/\rE m.B2.X.a2/\rE m.B2.X.a3/\rE m.B2.X.a4/\rE m.B2.X.a5/\rE m.B2.X.a6/\rE m.B2.X.a7/\rE m.B2.X.a8/\rE m.B2.X.a9/\rE m.B2.X.kr/\rE m.B2.X.ku/\rE m.B2.X.a12/\rE m.B2.X.kv/\rE m.B2.X.ky/\rE m.B2.X.kz/\rE m.B2.Pc/\rE m.B2.C2.a0/\rE m.B2.C2.a1/\rE m.B2.C2.a2/\rE m.B2.C2.a3/\rE m.B2.C2.a4/\rE m.B2.C2.a5/\rE m.B2.C2.a6/\rE m.B2.C2.a7/\((ai.Nil (ai.ints u32 m.Mem)\/rE (1:Nat))/\rE m.Mem)/\rE m.B3.D9/\rE m.B8.F0/\rE m.B8.D2/\rE m.B8.D8/\rE m.B5.ab/\rE m.B5.C9/\rE m.B5.Frame/\rE m.B5.C8/\rE m.B5.F5/\rE m.B5.C5/\rE m.B5.C6/\rE m.B5.C7/\rE m.D1.Frame/\rE m.D1.F7/\rE m.D1.D3/\rE m.D1.D4/\rE m.D1.C3/\rE m.D1.F8/\rE m.A6.A2/\rE m.A6.D0/\rE m.B7/\rE (false:Bool)/\rE m.B6/\True)/\(mE zM True True)/\True) (Sum.inl (wrap i64 (v0+1)))))) (.lf (Sum.inr E1))))
def o8 m:=(KS m).m
abbrev Qnt m:=(KS m).p
def Z3e:cg:={
 α:=(Int)
 F:=λst a=>([(1,.ptr 0 0 0),(2,.ptr 1 0 0),(3,(lk st 3)),(15,.int i64 a)],[⟨true,43,49,.gen [mB (cT st 1)]⟩,⟨true,43,49,.gen [mB (cT st 2)]⟩])
 a0:=λst=>(lk st 15).toInt
 jk:=λst=>[]++[(rX st 1 0),(rX st 2 1)]}
def Qwa:List (Nat×cg):=[(6,Z3e)]
def Z82:ba:=ba.fz<|ly 136 [] false [.agg bb.sig] [] (λa r=>Qnt (bb.of (aC a 0))) (λa r=>o8 (bb.of (aC a 0))) (λX=>.agg (bb.cells X)) (λX=>[])
theorem Z3a:bj pG Z82:=wP<|uV drawn jA (.cons Qm1 (.cons Qk (.nil))) Tryz.func136 Tryz.call136 (λa r=>KS (bb.of (aC a 0))) [.sl (.ints .u32) false] Qwa 3 (λ_ _ _=>by kernel_rfl) (λ_ _=>rfl) (λ_ _ h=>h) (λh=>by cases h)
def Is(c:iH)(port:Int):Tree (iH×Int):=
.br (port==0) (.br (decide (c.D9=[])) (.lf (c,4294967295)) (.cn (decide ((0:Int)<=(0:Int)/\0<(c.D9.length:Int))) (.cn (decide ((0:Int)<=(1:Int)/\1<=(c.D9.length:Int)/\(c.D9.length:Int)<=(c.D9.length:Int))) (.lf ({D9:=cU (dA (c.D9.length:Int)-dA 1) (cV (dA 1) c.D9)},wrap u32 (↑(hY (c.D9.getD (dA 0) (0:UInt8))):Int)))))) (.br (port==1) (.lf (c,wrap u32 (c.D9.length:Int))) (.lf (c,0)))
def Xn c port:=(Is c port).m
theorem Za2(c:iH)(port:Int):(Is c port).p:=by
 unfold Tree.p Is
 repeat'(first|exact trivial|refine ae (λ_=>?_) (λ_=>?_)|refine ax ?_ ?_|refine c7 ?_ ?_|refine aq (λ_ _=>?_)|refine ez ?_|refine bg ?_|refine And.intro ?_ ?_)
 all_goals(exact nL)
def Zh2:ba:=mS 195 [] true [.agg iH.sig,.one (.int .i64)] [] (λa r=>Is (iH.of (aC a 0)) (au a 1)) (λX=>.dw [.agg (iH.cells (X.1)),.int .u32 (X.2)]) (λX=>[])
theorem Zd8:bj pG Zh2:=oS (.nil) Tryz.func195 Tryz.call195 [] [] 2 (λ_ _ _=>by kernel_rfl) (λa r=>Za2 (iH.of (aC a 0)) (au a 1)) (λ_ X=>by kernel_rfl)
def SS(t:iW):Tree Int:=
.br t.D8 (.lf 1) (.lf 0)
def WL t:=(SS t).m
def Zt7:ba:=mS 196 [] true [.agg iW.sig] [] (λa r=>SS (iW.of (aC a 0))) (λX=>.int .u32 X) (λX=>[])
theorem Zn9:bj pG Zt7:=oS (.nil) Tryz.func196 Tryz.call196 [] [] 2
def SU(d0:fw)(port:Int):Tree Int:=
.br (port==4) (.lf d0.C9) (.br (port==5) (.lf d0.Frame) (.br (port==6) (.lf (wrap u32 d0.C8)) (.lf 0)))
def NI d0 port:=(SU d0 port).m
def yC:ba:=mS 197 [] true [.agg fw.sig,.one (.int .i64)] [] (λa r=>SU (fw.of (aC a 0)) (au a 1)) (λX=>.int .u32 X) (λX=>[])
theorem Zs9:bj pG yC:=oS (.nil) Tryz.func197 Tryz.call197 [] [] 2
def NJ(n:gw)(port:Int):Tree Int:=
.br (port==7) (.lf n.Frame) (.br (port==8) (.lf n.F8) (.br (port==9) (.br n.D3 (.br n.C3 (.lf (wrap u32 (wrap u32 ((0:Int)+(1:Int))+2))) (.lf (wrap u32 ((0:Int)+(1:Int))))) (.br n.C3 (.lf (wrap u32 ((0:Int)+(2:Int)))) (.lf 0))) (.lf 0)))
def KM n port:=(NJ n port).m
def yW:ba:=mS 198 [] true [.agg gw.sig,.one (.int .i64)] [] (λa r=>NJ (gw.of (aC a 0)) (au a 1)) (λX=>.int .u32 X) (λX=>[])
theorem vC:bj pG yW:=oS (.nil) Tryz.func198 Tryz.call198 [] [] 2
def KN(b:gm)(port:Int):Tree Int:=
.br (port==10) (.lf b.A2) (.br (port==11) (.an (Qfl b) (.lv (Tj b) λ(x0:Int)=>.lf (wrap u32 x0))) (.lf 0))
def Xz b port:=(KN b port).m
abbrev Qui b port:=(KN b port).p
def Zl:ba:=mT 199 [] true [.agg gm.sig,.one (.int .i64)] [] (λa r=>KN (gm.of (aC a 0)) (au a 1)) (λX=>.int .u32 X) (λX=>[])
theorem Zgo:bj pG Zl:=oT (.cons Qpo (.nil)) Tryz.func199 Tryz.call199 [] [] 2
def KL(m:bb)(port clock:Int):Tree (bb×Int):=
let T1:Tree ((bb×Int)):=.lv (Xn m.B3 port) λ(x0:iH×Int)=>.lf ({B2:=m.B2,Mem:=m.Mem,B3:=x0.1,B8:=m.B8,B5:=m.B5,D1:=m.D1,A6:=m.A6,B7:=m.B7,B4:=m.B4,B6:=m.B6},x0.2);.br (port==0) T1 (.br (port==1) T1 (.br (port==2) (.lf (m,clock)) (.br (port==3) (.lv (WL m.B8) λ(x2:Int)=>.lf (m,x2)) (.br (port==4) (.lv (NI m.B5 port) λ(x3:Int)=>.lf (m,x3)) (.br (port==5) (.lv (NI m.B5 port) λ(x4:Int)=>.lf (m,x4)) (.br (port==6) (.lv (NI m.B5 port) λ(x5:Int)=>.lf (m,x5)) (.br (port==7) (.lv (KM m.D1 port) λ(x6:Int)=>.lf (m,x6)) (.br (port==8) (.lv (KM m.D1 port) λ(x7:Int)=>.lf (m,x7)) (.br (port==9) (.lv (KM m.D1 port) λ(x8:Int)=>.lf (m,x8)) (let T2:Tree ((bb×Int)):=.an (Qui m.A6 port) (.lv (Xz m.A6 port) λ(x9:Int)=>.lf (m,x9));.br (port==10) T2 (.br (port==11) T2 (.lf (m,0)))))))))))))
def uo m port clock:=(KL m port clock).m
abbrev Qi2 m port clock:=(KL m port clock).p
def Qx8:ba:=ba.fz<|ly 138 [] false [.agg bb.sig,.one (.int .i64),.one (.int .u32)] [] (λa r=>Qi2 (bb.of (aC a 0)) (au a 1) (au a 2)) (λa r=>uo (bb.of (aC a 0)) (au a 1) (au a 2)) (λX=>.dw [.agg (bb.cells (X.1)),.int .u32 (X.2)]) (λX=>[])
theorem Qv3:bj pG Qx8:=wP<|uV drawn jA (.cons Zd8 (.cons Zn9 (.cons Zs9 (.cons vC (.cons Zgo (.nil)))))) Tryz.func138 Tryz.call138 (λa r=>KL (bb.of (aC a 0)) (au a 1) (au a 2)) [.sl (.ints .u32) false] [] 2 (λ_ _ _=>by kernel_rfl) (λ_ _=>rfl) (λ_ _ h=>h) (λh=>by cases h)
def SQ(t:iW)(deadline:Int):Tree iW:=
.lf ({F0:=deadline !=0,D2:=deadline,D8:=false})
def ND t deadline:=(SQ t deadline).m
def Zlw:ba:=mS 200 [] true [.agg iW.sig,.one (.int .u32)] [] (λa r=>SQ (iW.of (aC a 0)) (au a 1)) (λX=>.agg (iW.cells X)) (λX=>[])
theorem Zjm:bj pG Zlw:=oS (.nil) Tryz.func200 Tryz.call200 [] [] 2
def SN(m:List Int)(frame:Int):Tree Bool:=
.lv (jQ m) λ(x0:Int)=>.lf (decide (wrap u64 frame<wrap u64 x0))
def NA m frame:=(SN m frame).m
def Zd9:ba:=mS 280 [] true [.one (.ints .u32),.one (.int .u32)] [] (λa r=>SN (dh .u32 a 0) (au a 1)) (λX=>.bool X) (λX=>[])
theorem Zai:bj pG Zd9:=oS (.cons Q2 (.nil)) Tryz.func280 Tryz.call280 [] [] 2
def KC(m:List Int)(frame:Int):Tree Bool:=
.br (decide (frame>=0)) (.lv (jQ m) λ(x0:Int)=>.lf (decide (frame<x0))) (.lf false)
def Er m frame:=(KC m frame).m
def Z3g:ba:=mS 145 [] true [.one (.ints .u32),.one (.int .i64)] [] (λa r=>KC (dh .u32 a 0) (au a 1)) (λX=>.bool X) (λX=>[])
theorem Qmr:bj pG Z3g:=oS (.cons Q2 (.nil)) Tryz.func145 Tryz.call145 [] [] 2
def Qpq(words:List Int)(z:(Int)×(List Int)):Prop:=0<=z.1/\z.1<=words.length/\(z.2.length:Int)=4*z.1
def Nw(words:List Int)(z:(Int)×(List Int)):Nat:=(words.length-z.1).toNat
def Et(words:List Int):Tree (List UInt8):=
.cn (bN 0 1&&bX 1 1&&List.all [D.int u8 0] D.plain&&decide ((0:Int)<=(0:Int)/\0<=wrap i64 (4*(words.length:Int))/\wrap i64 (4*(words.length:Int))<=9223372036854775807/\(↑1:Int)*wrap i64 (4*(words.length:Int))<=140737488355328)) (.lp inferInstance (Nw words (0,[])+1) ((True/\((ai.Nil (ai.ints u32 words)\/rE (1:Nat))/\rE (words:List Int))/\rE ((words.length:Int):Int)/\rE (0:Int)/\True)/\rE ([]:List Int)/\True) (0,[]) λ(v0:Int×List Int)=>.br (decide (v0.1<(words.length:Int))) (.cn (bX 1 1&&bN 0 1&&decide (0<=v0.1/\v0.1<(words.length:Int))) (.cn (decide (1*(v0.2.length+4)<=140737488355328)) (let E1:=words.getD v0.1.toNat 0;.nx ((True/\((ai.Nil (ai.ints u32 words)\/rE (1:Nat))/\rE (words:List Int))/\rE ((words.length:Int):Int)/\rE ((wrap i64 (v0.1+1)):Int)/\True)/\rE ((v0.2++[wrap u8 (words.getD v0.1.toNat 0),wrap u8 (bm u32 (words.getD v0.1.toNat 0) 8),wrap u8 (bm u32 (words.getD v0.1.toNat 0) 16),wrap u8 (bm u32 (words.getD v0.1.toNat 0) 24)]):List Int)/\True) (Sum.inl (wrap i64 (v0.1+1),v0.2++[wrap u8 E1,wrap u8 (bm u32 E1 8),wrap u8 (bm u32 E1 16),wrap u8 (bm u32 E1 24)]))))) (.lf (Sum.inr (bytesOf v0.2))))
def Z64 words:=(Et words).m
def Vd(words:List Int):Prop:=
words.length<=1000000000000
theorem Z80(words:List Int)(hw:Vd words):(Et words).p:=by
 simp only[Vd]at hw
 unfold Tree.p Et
 repeat'(first|refine fk (inv:=Qpq words) (μ:=Nw words) ?_ (cN _) (λ_ _=>?_)|exact trivial|refine ae (λ_=>?_) (λ_=>?_)|refine ax ?_ ?_|refine c7 ?_ ?_|refine aq (λ_ _=>?_)|refine ez ?_|refine bg ?_|refine And.intro ?_ ?_)
 all_goals((try simp only[Qpq,Nw]at*);exact nL)
def Z9k:cg:={
 α:=(Int)×(List Int)
 F:=λst a=>([(3,.all 0),(10,(lk st 10)),(11,(lk st 11)),(12,.int i64 a.1)],[⟨false,5,1,.ints u8 a.2⟩])
 a0:=λst=>((lk st 12).toInt,(nC st.rows (rN st 3)))
 jk:=λst=>[]++[(rX st 3 0)]}
def Z2p:List (Nat×cg):=[(3,Z9k)]
def Zdo:ba:=ly 146 [] true [.one (.ints .u32)] [] (λa r=>Vd (dh .u32 a 0)) (λa r=>Z64 (dh .u32 a 0)) (λX=>.str X) (λX=>[])
theorem Z9r:bj pG Zdo:=uV drawn jA (.nil) Tryz.func146 Tryz.call146 (λa r=>Et (dh .u32 a 0)) [] Z2p 3 (hp:=λa r h=>Z80 (dh .u32 a 0) h)
def DA(m:List Int)(frame:Int):Tree ((List UInt8)×Bool):=
.lv (Er m frame) λ(x0:Bool)=>.br (!x0) (.lf ([],false)) (.cn (bX 1 1&&bN 0 1&&decide (0<=wrap i64 (frame*32)/\wrap i64 (frame*32)<=wrap i64 (wrap i64 (frame*32)+32)/\wrap i64 (wrap i64 (frame*32)+32)<=(m.length:Int))) (let E1:=cU (dA (wrap i64 (wrap i64 (frame*32)+32))-dA (wrap i64 (frame*32))) (cV (dA (wrap i64 (frame*32))) m);.an (Vd E1) (.lv (Z64 E1) λ(x1:List UInt8)=>.lf (x1,true))))
def jF m frame:=(DA m frame).m
abbrev Om m frame:=(DA m frame).p
def Zdp:ba:=mT 99 [] true [.one (.ints .u32),.one (.int .i64)] [] (λa r=>DA (dh .u32 a 0) (au a 1)) (λX=>.dw [.str (X.1),.bool (X.2)]) (λX=>[])
theorem RC:bj pG Zdp:=oT (.cons Qmr (.cons Z9r (.nil))) Tryz.func99 Tryz.call99 [] [] 2
def Quw(d0:fw)(gk:Int):Tree (ir×Bool):=
.br (d0.C8 !=1) (.lf ({C4:=0,At:=0,C9:=0,F1:=[]},false)) (.br (d0.F5==1) (.lf ({C4:=3,At:=gk,C9:=d0.C5,F1:=[]},true)) (.br (d0.F5==2) (.lf ({C4:=4,At:=gk,C9:=d0.C5,F1:=d0.C7},true)) (.lf ({C4:=0,At:=0,C9:=0,F1:=[]},false))))
def Xs d0 gk:=(Quw d0 gk).m
def Z9l:ba:=mS 281 [] true [.agg fw.sig,.one (.int .u64)] [] (λa r=>Quw (fw.of (aC a 0)) (au a 1)) (λX=>.dw [.agg (ir.cells (X.1)),.bool (X.2)]) (λX=>[])
theorem Z67:bj pG Z9l:=oS (.nil) Tryz.func281 Tryz.call281 [] [] 2
def KE(d0:fw)(m:List Int)(cmd gk:Int):Tree (fw×(List ir)):=
.br (d0.C8 !=0) (.lf (d0,[])) (let T1:Tree ((fw×(List ir))):=.lf ({ab:=d0.ab,C9:=d0.C9,Frame:=d0.Frame,C8:=3,F5:=d0.F5,C5:=d0.C5,C6:=d0.C6,C7:=d0.C7},[]);.br (decide (d0.C9>=d0.ab)) T1 (.lv (NA m d0.Frame) λ(x0:Bool)=>.br (!x0) T1 (.br (cmd==2) (.an (Om m (wrap i64 d0.Frame)) (.lv (jF m (wrap i64 d0.Frame)) λ(x1:List UInt8×Bool)=>.lv (Xs {ab:=d0.ab,C9:=d0.C9,Frame:=d0.Frame,C8:=1,F5:=cmd,C5:=d0.C9,C6:=d0.Frame,C7:=x1.1} gk) λ(x2:ir×Bool)=>.lf ({ab:=d0.ab,C9:=d0.C9,Frame:=d0.Frame,C8:=1,F5:=cmd,C5:=d0.C9,C6:=d0.Frame,C7:=x1.1},[x2.1]))) (.lv (Xs {ab:=d0.ab,C9:=d0.C9,Frame:=d0.Frame,C8:=1,F5:=cmd,C5:=d0.C9,C6:=d0.Frame,C7:=[]} gk) λ(x3:ir×Bool)=>.lf ({ab:=d0.ab,C9:=d0.C9,Frame:=d0.Frame,C8:=1,F5:=cmd,C5:=d0.C9,C6:=d0.Frame,C7:=[]},[x3.1])))))
def Qzv d0 m cmd gk:=(KE d0 m cmd gk).m
abbrev Qul d0 m cmd gk:=(KE d0 m cmd gk).p
def Zk5:ba:=mT 250 [] true [.agg fw.sig,.one (.ints .u32),.one (.int .i64),.one (.int .u64)] [] (λa r=>KE (fw.of (aC a 0)) (dh .u32 a 1) (au a 2) (au a 3)) (λX=>.dw [.agg (fw.cells (X.1)),.sl 4 (.ah .bu (X.2)) true]) (λX=>[])
theorem Zee:bj pG Zk5:=oT (.cons Zai (.cons RC (.cons Z67 (.nil)))) Tryz.func250 Tryz.call250 [.sl (.ah .bu) true] [] 2
def KF(d0:fw)(m:List Int)(port v gk:Int):Tree (fw×(List ir)):=
.br (port==4) (.lf ({ab:=d0.ab,C9:=v,Frame:=d0.Frame,C8:=d0.C8,F5:=d0.F5,C5:=d0.C5,C6:=d0.C6,C7:=d0.C7},[])) (.br (port==5) (.lf ({ab:=d0.ab,C9:=d0.C9,Frame:=v,C8:=d0.C8,F5:=d0.F5,C5:=d0.C5,C6:=d0.C6,C7:=d0.C7},[])) (.br (port==6) (let T1:Tree ((fw×(List ir))):=.an (Qul d0 m (wrap i64 v) gk) (.lv (Qzv d0 m (wrap i64 v) gk) λ(x0:fw×List ir)=>.lf (x0.1,x0.2));.br (v==1) T1 (.br (v==2) T1 (.br (v==0) (.lv (KG d0) λ(x2:Bool)=>.br x2 (.lf ({ab:=d0.ab,C9:=d0.C9,Frame:=d0.Frame,C8:=0,F5:=d0.F5,C5:=d0.C5,C6:=d0.C6,C7:=d0.C7},[])) (.lf (d0,[]))) (.lf (d0,[]))))) (.lf (d0,[]))))
def Xq d0 m port v gk:=(KF d0 m port v gk).m
abbrev Z1z d0 m port v gk:=(KF d0 m port v gk).p
def Zr5:ba:=mT 201 [] true [.agg fw.sig,.one (.ints .u32),.one (.int .i64),.one (.int .u32),.one (.int .u64)] [] (λa r=>KF (fw.of (aC a 0)) (dh .u32 a 1) (au a 2) (au a 3) (au a 4)) (λX=>.dw [.agg (fw.cells (X.1)),.sl 4 (.ah .bu (X.2)) true]) (λX=>[])
theorem Zny:bj pG Zr5:=oT (.cons Zee (.cons Qqu (.nil))) Tryz.func201 Tryz.call201 [.sl (.ah .bu) true] [] 2
def SO(m:List Int)(frame:Int):Tree Bool:=
.lv (jQ m) λ(x0:Int)=>.lf (decide (wrap u64 frame<wrap u64 x0))
def KD m frame:=(SO m frame).m
def Ziu:ba:=mS 253 [] true [.one (.ints .u32),.one (.int .u32)] [] (λa r=>SO (dh .u32 a 0) (au a 1)) (λX=>.bool X) (λX=>[])
theorem Qxn:bj pG Ziu:=oS (.cons Q2 (.nil)) Tryz.func253 Tryz.call253 [] [] 2
def KH(n:gw)(m:List Int)(gk:Int):Tree (List ir):=
.br (decide (n.F7<1)) (.lf ([])) (.br (decide (n.F7>128)) (.lf ([])) (.lv (KD m n.Frame) λ(x0:Bool)=>.br (!x0) (.lf ([])) (.an (Om m (wrap i64 n.Frame)) (.lv (jF m (wrap i64 n.Frame)) λ(x1:List UInt8×Bool)=>.cn (decide ((0:Int)<=(0:Int)/\0<=n.F7/\n.F7<=(x1.1.length:Int))) (.lf ([{C4:=2,At:=gk,C9:=0,F1:=cU (dA n.F7-dA 0) (cV (dA 0) x1.1)}]))))))
def Zfa n m gk:=(KH n m gk).m
abbrev Z2 n m gk:=(KH n m gk).p
def Zsf:ba:=mT 252 [] true [.agg gw.sig,.one (.ints .u32),.one (.int .u64)] [] (λa r=>KH (gw.of (aC a 0)) (dh .u32 a 1) (au a 2)) (λX=>.sl 4 (.ah .bu X) true) (λX=>[])
theorem Zn7:bj pG Zsf:=oT (.cons Qxn (.cons RC (.nil))) Tryz.func252 Tryz.call252 [.sl (.ah .bu) true] [] 2
def KI(n:gw)(m:List Int)(port v gk:Int):Tree (gw×(List ir)):=
.br (port==7) (.lf ({Frame:=v,F7:=n.F7,D3:=n.D3,D4:=n.D4,C3:=n.C3,F8:=n.F8},[])) (.br (port==8) (.lf ({Frame:=n.Frame,F7:=v,D3:=n.D3,D4:=n.D4,C3:=n.C3,F8:=n.F8},[])) (.br (port==9) (.br (v==1) (.an (Z2 n m gk) (.lv (Zfa n m gk) λ(x0:List ir)=>.lf (n,x0))) (.br (v==2) (.lv (KD m n.Frame) λ(x1:Bool)=>.br x1 (.br (!n.D3) (.br (!n.C3) (.lf ({Frame:=n.Frame,F7:=n.F7,D3:=true,D4:=n.Frame,C3:=n.C3,F8:=n.F8},[])) (.lf (n,[]))) (.lf (n,[]))) (.lf (n,[]))) (.br (v==0) (.lf ({Frame:=n.Frame,F7:=n.F7,D3:=n.D3,D4:=n.D4,C3:=false,F8:=0},[])) (.lf (n,[]))))) (.lf (n,[]))))
def Xu n m port v gk:=(KI n m port v gk).m
abbrev Z57 n m port v gk:=(KI n m port v gk).p
def qD:ba:=mT 202 [] true [.agg gw.sig,.one (.ints .u32),.one (.int .i64),.one (.int .u32),.one (.int .u64)] [] (λa r=>KI (gw.of (aC a 0)) (dh .u32 a 1) (au a 2) (au a 3) (au a 4)) (λX=>.dw [.agg (gw.cells (X.1)),.sl 4 (.ah .bu (X.2)) true]) (λX=>[])
theorem Zsd:bj pG qD:=oT (.cons Zn7 (.cons Qxn (.nil))) Tryz.func202 Tryz.call202 [.sl (.ah .bu) true] [] 2
def WH(m:List Int)(frame:Int)(s:List UInt8)(z:(Int)×(List Int)):Nat:=(32-z.1).toNat
def Io(m:List Int)(frame:Int)(s:List UInt8):Tree ((List Int)×Bool):=
.an (nP m) (.lv (kB m) λ(x0:List Int)=>.lv (Er m frame) λ(x1:Bool)=>.br (!x1) (.lf (x0,false)) (.br ((s.length:Int) !=(128:Int)) (.lf (x0,false)) (.lp inferInstance (WH m frame s (0,x0)+1) ((rE (s:List UInt8)/\True/\rE ((wrap i64 (frame*32)):Int)/\rE (0:Int)/\True)/\rE (x0:List Int)/\True) (0,x0) λ(v0:Int×List Int)=>.br (decide (v0.1<32)) (.cn (decide (0<=wrap i64 (4*v0.1)/\wrap i64 (4*v0.1)<=wrap i64 (wrap i64 (4*v0.1)+4)/\wrap i64 (wrap i64 (4*v0.1)+4)<=(s.length:Int))) (let E1:=cU (dA (wrap i64 (wrap i64 (4*v0.1)+4))-dA (wrap i64 (4*v0.1))) (cV (dA (wrap i64 (4*v0.1))) s);.cn (decide ((0:Int)<=(0:Int)/\0<(↑(dF E1):Int))) (.cn (decide ((0:Int)<=(1:Int)/\1<(↑(dF E1):Int))) (.cn (decide ((0:Int)<=(2:Int)/\2<(↑(dF E1):Int))) (.cn (decide ((0:Int)<=(3:Int)/\3<(↑(dF E1):Int))) (.cn (bX 1 1&&bN 0 1&&decide (0<=wrap i64 (wrap i64 (frame*32)+v0.1)/\wrap i64 (wrap i64 (frame*32)+v0.1)<(v0.2.length:Int))) (.nx ((rE (s:List UInt8)/\True/\rE ((wrap i64 (frame*32)):Int)/\rE ((wrap i64 (v0.1+1)):Int)/\True)/\rE ((dB v0.2 (dA (wrap i64 (wrap i64 (frame*32)+v0.1))) (iN u32 (iN u32 (iN u32 (wrap u32 (↑(hY (aV (cU (dA (wrap i64 (wrap i64 (4*v0.1)+4))-dA (wrap i64 (4*v0.1))) (cV (dA (wrap i64 (4*v0.1))) s)) (dA 0) (0:UInt8))):Int)) (eu u32 (wrap u32 (↑(hY (aV (cU (dA (wrap i64 (wrap i64 (4*v0.1)+4))-dA (wrap i64 (4*v0.1))) (cV (dA (wrap i64 (4*v0.1))) s)) (dA 1) (0:UInt8))):Int)) 8)) (eu u32 (wrap u32 (↑(hY (aV (cU (dA (wrap i64 (wrap i64 (4*v0.1)+4))-dA (wrap i64 (4*v0.1))) (cV (dA (wrap i64 (4*v0.1))) s)) (dA 2) (0:UInt8))):Int)) 16)) (eu u32 (wrap u32 (↑(hY (aV (cU (dA (wrap i64 (wrap i64 (4*v0.1)+4))-dA (wrap i64 (4*v0.1))) (cV (dA (wrap i64 (4*v0.1))) s)) (dA 3) (0:UInt8))):Int)) 24))):List Int)/\True) (Sum.inl (wrap i64 (v0.1+1),dB v0.2 (dA (wrap i64 (wrap i64 (frame*32)+v0.1))) (iN u32 (iN u32 (iN u32 (wrap u32 (↑(hY (aV E1 (dA 0) (0:UInt8))):Int)) (eu u32 (wrap u32 (↑(hY (aV E1 (dA 1) (0:UInt8))):Int)) 8)) (eu u32 (wrap u32 (↑(hY (aV E1 (dA 2) (0:UInt8))):Int)) 16)) (eu u32 (wrap u32 (↑(hY (aV E1 (dA 3) (0:UInt8))):Int)) 24))))))))))) (.lf (Sum.inr (v0.2,true))))))
def rI m frame s:=(Io m frame s).m
abbrev Q7 m frame s:=(Io m frame s).p
def Z04:cg:={
 α:=(Int)×(List Int)
 F:=λst a=>([(2,(lk st 2)),(8,.all 0),(9,(lk st 9)),(26,.int i64 a.1)],[⟨false,25,1,.ints u32 a.2⟩])
 a0:=λst=>((lk st 26).toInt,(nC st.rows (rN st 8)))
 jk:=λst=>[]++[(rX st 8 0)]}
def Qvz:List (Nat×cg):=[(6,Z04)]
def Z30:ba:=mT 205 [] true [.one (.ints .u32),.one (.int .i64),.one (.str)] [] (λa r=>Io (dh .u32 a 0) (au a 1) (jE a 2)) (λX=>.dw [.all 0,.bool (X.2)]) (λX=>[⟨false,25,1,.ints .u32 (X.1)⟩])
theorem Qno:bj pG Z30:=oT (.cons JO (.cons Qmr (.nil))) Tryz.func205 Tryz.call205 [.row 25 1 (.ints .u32)] Qvz 3
def strings_Repeat(s:List UInt8)(count:Int):(List UInt8):=
Lib.repeatL s count.toNat
def Qed(s:List UInt8)(count:Int):Prop:=
0<=count/\count<=9223372036854775807/\s.length*count.toNat<=140737488355328
def Qjv(s:List UInt8)(count:Int):List D:=[.str s,.int .i64 count]
def Qki(s:List UInt8)(count:Int):List Row:=[]
def Qei(X:List UInt8):D:=.str X
def Qe(X:List UInt8):List Row:=[]
def Qm2:List PT:=[.one (.str),.one (.int .i64)]
def Qjp:List RT:=[]
def Qwl(args:List D)(rows:List Row):(List UInt8):=strings_Repeat (jE args 0) (au args 1)
def Qxj(args:List D)(rows:List Row):Prop:=Qed (jE args 0) (au args 1)
def Z2q:ba:=ly 254 [] true Qm2 Qjp Qxj Qwl Qei Qe
theorem Qtz(s:List UInt8)(count:Int)(hw:Qed s count):ko pG 254 (Qjv s count) (Qki s count) (Qei (strings_Repeat s count)) (Qe (strings_Repeat s count)):=by
 exact zd Tryz.strings_Repeat hw.1 hw.2.1 hw.2.2
set_option maxRecDepth 100000 in
theorem Qv1(args:List D)(rows:List Row):kW Qm2 args 0=Qjv (jE args 0) (au args 1):=by kernel_rfl
set_option maxRecDepth 100000 in
theorem Qu6(args:List D)(rows:List Row):kp Qjp rows 0=Qki (jE args 0) (au args 1):=by kernel_rfl
set_option maxRecDepth 100000 in
theorem Qys(X:List UInt8):(tj (Qei X)&&jx (Qe X))=true:=by kernel_rfl
theorem Qza:bj pG Z2q:=Fz Tryz.call254 (λargs rows hp=>by rw[Qv1 args rows,Qu6 args rows];exact Qtz (jE args 0) (au args 1) hp) (λ_ X=>Qys X)
def DD(b:gm)(m:List Int)(port v:Int):Tree (gm×(List Int)):=
let T1:Tree ((gm×(List Int))):=.an (nP m) (.lv (kB m) λ(x0:List Int)=>.lf (b,x0));.br (decide (v>=32)) T1 (.cn (decide (0<=v)) (.br (port==10) (.lv (jQ m) λ(x1:Int)=>.br (decide (wrap i64 v<x1)) (.br (bc u32 b.D0 (eu u32 1 v)==0) (.an (Qed [(0:UInt8)] 128) (.lv (strings_Repeat [(0:UInt8)] 128) λ(x2:List UInt8)=>.an (Q7 m (wrap i64 v) x2) (.lv (rI m (wrap i64 v) x2) λ(x3:List Int×Bool)=>.lf ({A2:=b.A2,D0:=iN u32 b.D0 (eu u32 1 v)},x3.1)))) T1) T1) (.br (port==11) (.an (nP m) (.lv (kB m) λ(x6:List Int)=>.lf ({A2:=b.A2,D0:=oJ u32 b.D0 (eu u32 1 v)},x6))) T1)))
def GF b m port v:=(DD b m port v).m
abbrev Qrw b m port v:=(DD b m port v).p
def Ze1:ba:=mT 203 [] true [.agg gm.sig,.one (.ints .u32),.one (.int .i64),.one (.int .u32)] [] (λa r=>DD (gm.of (aC a 0)) (dh .u32 a 1) (au a 2) (au a 3)) (λX=>.dw [.agg (gm.cells (X.1)),.all 0]) (λX=>[⟨false,25,1,.ints .u32 (X.2)⟩])
theorem Z9n:bj pG Ze1:=oT (.cons JO (.cons Q2 (.cons Qno (.cons Qza (.nil))))) Tryz.func203 Tryz.call203 [.row 25 1 (.ints .u32)] [] 2
def KK(m:bb)(port v gk:Int):Tree (bb×(List ir)):=
.br (port==0) (.lf (m,[{C4:=1,At:=gk,C9:=0,F1:=[(λ(n:Int)=>UInt8.ofNat n.toNat) (wrap u8 v)]}])) (.br (port==3) (.lv (ND m.B8 v) λ(x0:iW)=>.lf ({B2:=m.B2,Mem:=m.Mem,B3:=m.B3,B8:=x0,B5:=m.B5,D1:=m.D1,A6:=m.A6,B7:=m.B7,B4:=m.B4,B6:=m.B6},[])) (let T1:Tree ((bb×(List ir))):=.an (Z1z m.B5 m.Mem port v gk) (.lv (Xq m.B5 m.Mem port v gk) λ(x1:fw×List ir)=>.lf ({B2:=m.B2,Mem:=m.Mem,B3:=m.B3,B8:=m.B8,B5:=x1.1,D1:=m.D1,A6:=m.A6,B7:=m.B7,B4:=m.B4,B6:=m.B6},x1.2));.br (port==4) T1 (.br (port==5) T1 (.br (port==6) T1 (let T2:Tree ((bb×(List ir))):=.an (Z57 m.D1 m.Mem port v gk) (.lv (Xu m.D1 m.Mem port v gk) λ(x4:gw×List ir)=>.lf ({B2:=m.B2,Mem:=m.Mem,B3:=m.B3,B8:=m.B8,B5:=m.B5,D1:=x4.1,A6:=m.A6,B7:=m.B7,B4:=m.B4,B6:=m.B6},x4.2));.br (port==7) T2 (.br (port==8) T2 (.br (port==9) T2 (let T3:Tree ((bb×(List ir))):=.an (Qrw m.A6 m.Mem port v) (.lv (GF m.A6 m.Mem port v) λ(x7:gm×List Int)=>.lf ({B2:=m.B2,Mem:=x7.2,B3:=m.B3,B8:=m.B8,B5:=m.B5,D1:=m.D1,A6:=x7.1,B7:=m.B7,B4:=m.B4,B6:=m.B6},[]));.br (port==10) T3 (.br (port==11) T3 (.lf (m,[])))))))))))
def EG m port v gk:=(KK m port v gk).m
abbrev Qh0 m port v gk:=(KK m port v gk).p
def Qv8:ba:=ba.fz<|ly 139 [] false [.agg bb.sig,.one (.int .i64),.one (.int .u32),.one (.int .u64)] [] (λa r=>Qh0 (bb.of (aC a 0)) (au a 1) (au a 2) (au a 3)) (λa r=>EG (bb.of (aC a 0)) (au a 1) (au a 2) (au a 3)) (λX=>.dw [.agg (bb.cells (X.1)),.sl 4 (.ah .bu (X.2)) true]) (λX=>[])
theorem Qu4:bj pG Qv8:=wP<|uV drawn jA (.cons Zjm (.cons Zny (.cons Zsd (.cons Z9n (.nil))))) Tryz.func139 Tryz.call139 (λa r=>KK (bb.of (aC a 0)) (au a 1) (au a 2) (au a 3)) [.sl (.ints .u32) false,.sl (.ah .bu) true] [] 2 (λ_ _ _=>by kernel_rfl) (λ_ _=>rfl) (λ_ _ h=>h) (λh=>by cases h)
def NM(m:bb)(clock:Int):Tree (bb×(List ir)):=
.an (nP m.Mem) (.lv (kB m.Mem) λ(x0:List Int)=>let E1:=({B2:=m.B2,Mem:=x0,B3:=m.B3,B8:=m.B8,B5:=m.B5,D1:=m.D1,A6:=m.A6,B7:=m.B7,B4:=m.B4,B6:=m.B6}:bb);.an (Qpv E1) (.lv (EA E1) λ(x1:Bool)=>.br (!x1) (.lf (E1,[])) (.an (Qnt E1) (.lv (o8 E1) λ(x2:bb)=>.an (Z1a x2.B2 x2.Mem) (.lv (Cd x2.B2 x2.Mem) λ(x3:bq×List Int×lz)=>let E2:=({B2:=x3.1,Mem:=x3.2.1,B3:=x2.B3,B8:=x2.B8,B5:=x2.B5,D1:=x2.D1,A6:=x2.A6,B7:=x2.B7,B4:=x2.B4,B6:=x2.B6}:bb);.br (x3.2.2.C4==1) (.an (Qi2 E2 x3.2.2.E0 clock) (.lv (uo E2 x3.2.2.E0 clock) λ(x4:bb×Int)=>.br (x3.2.2.F9 !=0) (.cn (bN 0 1&&decide (0<=x3.2.2.F9/\x3.2.2.F9<(↑16:Int))) (.lf ({B2:={X:=iu.of 0 (dB (iu.l x4.1.B2.X) x3.2.2.F9.toNat x4.2),Pc:=x4.1.B2.Pc,C2:=x4.1.B2.C2},Mem:=x4.1.Mem,B3:=x4.1.B3,B8:=x4.1.B8,B5:=x4.1.B5,D1:=x4.1.D1,A6:=x4.1.A6,B7:=wrap u64 (x4.1.B7+1),B4:=x4.1.B4,B6:=x4.1.B6},[]))) (.lf ({B2:=x4.1.B2,Mem:=x4.1.Mem,B3:=x4.1.B3,B8:=x4.1.B8,B5:=x4.1.B5,D1:=x4.1.D1,A6:=x4.1.A6,B7:=wrap u64 (x4.1.B7+1),B4:=x4.1.B4,B6:=x4.1.B6},[])))) (.br (x3.2.2.C4==2) (.an (Qh0 E2 x3.2.2.E0 x3.2.2.Value m.B7) (.lv (EG E2 x3.2.2.E0 x3.2.2.Value m.B7) λ(x5:bb×List ir)=>.lf ({B2:=x5.1.B2,Mem:=x5.1.Mem,B3:=x5.1.B3,B8:=x5.1.B8,B5:=x5.1.B5,D1:=x5.1.D1,A6:=x5.1.A6,B7:=wrap u64 (x5.1.B7+1),B4:=x5.1.B4,B6:=x5.1.B6},x5.2))) (.br (x3.2.2.C4==3) (.lf ({B2:=x3.1,Mem:=x3.2.1,B3:=x2.B3,B8:=x2.B8,B5:=x2.B5,D1:=x2.D1,A6:=x2.A6,B7:=wrap u64 (x2.B7+1),B4:=true,B6:=x2.B6},[])) (.br (x3.2.2.C4==4) (.lf ({B2:=x3.1,Mem:=x3.2.1,B3:=x2.B3,B8:=x2.B8,B5:=x2.B5,D1:=x2.D1,A6:=x2.A6,B7:=wrap u64 (x2.B7+1),B4:=x2.B4,B6:=true},[])) (.lf ({B2:=x3.1,Mem:=x3.2.1,B3:=x2.B3,B8:=x2.B8,B5:=x2.B5,D1:=x2.D1,A6:=x2.A6,B7:=wrap u64 (x2.B7+1),B4:=x2.B4,B6:=x2.B6},[]))))))))))
def AZ m clock:=(NM m clock).m
abbrev TE m clock:=(NM m clock).p
def Z8u:ba:=ba.fz<|ly 92 [] false [.agg bb.sig,.one (.int .u32)] [] (λa r=>TE (bb.of (aC a 0)) (au a 1)) (λa r=>AZ (bb.of (aC a 0)) (au a 1)) (λX=>.dw [.agg (bb.cells (X.1)),.sl 4 (.ah .bu (X.2)) false]) (λX=>[])
theorem Z5u:bj pG Z8u:=wP<|uV drawn jA (.cons JO (.cons Z5w (.cons Z3a (.cons Zll (.cons Qv3 (.cons Qu4 (.nil))))))) Tryz.func92 Tryz.call92 (λa r=>NM (bb.of (aC a 0)) (au a 1)) [.sl (.ints .u32) false,.sl (.ah .bu) false] [] 2 (λ_ _ _=>by kernel_rfl) (λ_ _=>rfl) (λ_ _ h=>h) (λh=>by cases h)
end
noncomputable section
def Z8i(op:Int):Tree Int:=
let T1:Tree (Int):=.br (op==49) (.lf 3) (let T2:Tree (Int):=.br (op==24) (.lf 6) (.br (op==48) (.lf 7) (.br (op==58) (.lf 8) (.br (op==59) (.lf 8) (.br (op==60) (.lf 9) (.br (op==61) (.lf 9) (.br (op==56) (.lf 1) (.br (op==57) (.lf 1) (.br (decide (op>=62)) (.br (decide (op<=64)) (.lf 1) (.lf 0)) (.lf 0)))))))));.br (decide (op>=17)) (.br (decide (op<=19)) (.lf 4) (.br (decide (op>=20)) (.br (decide (op<=22)) (.lf 5) T2) T2)) (.br (decide (op>=20)) (.br (decide (op<=22)) (.lf 5) T2) T2));let T3:Tree (Int):=.br (op==16) (.lf 3) (.br (op==23) (.lf 3) (.br (decide (op>=32)) (.br (decide (op<=36)) (.lf 3) (.br (decide (op>=40)) (.br (decide (op<=45)) (.lf 3) T1) T1)) (.br (decide (op>=40)) (.br (decide (op<=45)) (.lf 3) T1) T1)));.br (decide (op>=1)) (.br (decide (op<=13)) (.lf 2) T3) T3
def oK op:=(Z8i op).m
def Zmb:ba:=mS 178 [] true [.one (.int .i64)] [] (λa r=>Z8i (au a 0)) (λX=>.int .i64 X) (λX=>[])
theorem RD:bj pG Zmb:=oS (.nil) Tryz.func178 Tryz.call178 [] [] 2
def S1(r:Int):Tree Bool:=
.br (decide (r>=0)) (.lf (decide (r<=15))) (.lf false)
def KV r:=(S1 r).m
def Z8l:ba:=mS 233 [] true [.one (.int .i64)] [] (λa r=>S1 (au a 0)) (λX=>.bool X) (λX=>[])
theorem Z3k:bj pG Z8l:=oS (.nil) Tryz.func233 Tryz.call233 [] [] 2
def WX(f:Int):Tree (Int×Int):=
.br (f==3) (.lf ((-32768),32767)) (.br (f==7) (.lf ((-32768),32767)) (.br (f==4) (.lf (0,65535)) (.br (f==6) (.lf (0,65535)) (.br (f==5) (.lf (0,31)) (.br (f==8) (.lf (0,7)) (.br (f==9) (.lf (0,11)) (.lf (0,0))))))))
def WW f:=(WX f).m
def Zd6:ba:=mS 179 [] true [.one (.int .i64)] [] (λa r=>WX (au a 0)) (λX=>.dw [.int .i64 (X.1),.int .i64 (X.2)]) (λX=>[])
theorem Qu9:bj pG Zd6:=oS (.nil) Tryz.func179 Tryz.call179 [] [] 2
def NQ(i:ia):Tree Bool:=
.lv (oK i.Op) λ(x0:Int)=>.br (x0==0) (.lf false) (.lv (KV i.A) λ(x1:Bool)=>.br (!x1) (.lf false) (.lv (KV i.B) λ(x2:Bool)=>.br (!x2) (.lf false) (.lv (KV i.C) λ(x3:Bool)=>.br (!x3) (.lf false) (.lv (WW x0) λ(x4:Int×Int)=>.br (decide (wrap i64 i.cf<x4.1)) (.lf false) (.br (decide (wrap i64 i.cf>x4.2)) (.lf false) (let T1:Tree (Bool):=.br (x0==1) (.br (i.A !=0) (.lf false) (.br (i.B==0) (.lf true) (.br (decide (x0>=2)) (.lf (decide (x0<=5))) (.lf false)))) (.br (i.B==0) (.lf true) (.br (decide (x0>=2)) (.lf (decide (x0<=5))) (.lf false)));.br (x0 !=2) (.br (i.C !=0) (.lf false) T1) T1))))))
def EC i:=(NQ i).m
def Zi:ba:=mS 177 [] true [.agg ia.sig] [] (λa r=>NQ (ia.of (aC a 0))) (λX=>.bool X) (λX=>[])
theorem Qwt:bj pG Zi:=oS (.cons RD (.cons Z3k (.cons Qu9 (.nil)))) Tryz.func177 Tryz.call177 [] [] 2
def SH(i:ia):Tree (Int×Bool):=
.lv (EC i) λ(x0:Bool)=>.br (!x0) (.lf (0,false)) (.lf (iN u32 (iN u32 (iN u32 (iN u32 (eu u32 (wrap u32 i.Op) 24) (eu u32 (wrap u32 i.A) 20)) (eu u32 (wrap u32 i.B) 16)) (bc u32 (wrap u32 i.cf) 65535)) (wrap u32 i.C),true))
def oI i:=(SH i).m
def Ze:ba:=mS 125 [] true [.agg ia.sig] [] (λa r=>SH (ia.of (aC a 0))) (λX=>.dw [.int .u32 (X.1),.bool (X.2)]) (λX=>[])
theorem Qmg:bj pG Ze:=oS (.cons Qwt (.nil)) Tryz.func125 Tryz.call125 [] [] 2
def Zba:Tree (List Int):=
.lf ([1,2,3,4,5,6,7,8,9,10,11,12,13,16,16,17,18,19,20,21,22,23,24,24,32,32,33,34,35,35,36,40,41,42,43,44,45,48,49,56,57,58,59,60,60,61,61,62,63,64])
def Zed:(List Int):=(Zba).m
def Zrv:ba:=mS 180 [] true [] [] (λa r=>Zba) (λX=>.sl 1 (.ints .i64 X) true) (λX=>[])
theorem Zmv:bj pG Zrv:=oS (.nil) Tryz.func180 Tryz.call180 [.sl (.ints .i64) true] [] 2
def Z6o(Dn:Int):Tree (Int×Int):=
let E1:=wrap u64 (rA u64 (wrap u64 (Dn+11400714819323198485)) (bm u64 (wrap u64 (Dn+11400714819323198485)) 30)*13787848793156543929);let E2:=wrap u64 (rA u64 E1 (bm u64 E1 27)*10723151780598845931);.lf (rA u64 E2 (bm u64 E2 31),wrap u64 (Dn+11400714819323198485))
def Ziq Dn:=(Z6o Dn).m
def Znh:ba:=mS 89 [] true [.one (.int .u64)] [] (λa r=>Z6o (au a 0)) (λX=>.dw [.int .u64 (X.1),.int .u64 (X.2)]) (λX=>[])
theorem Zhg:bj pG Znh:=oS (.nil) Tryz.func89 Tryz.call89 [] [] 2
def Zcn(n k:Int):Tree Int:=
.lv (Ziq (rA u64 (wrap u64 n) (wrap u64 (wrap u64 k*11400714819323198485)))) λ(x0:Int×Int)=>.lf (wrap i64 (bm u64 x0.1 1))
def Zfi n k:=(Zcn n k).m
def Zs:ba:=mS 42 [] true [.one (.int .i64),.one (.int .i64)] [] (λa r=>Zcn (au a 0) (au a 1)) (λX=>.int .i64 X) (λX=>[])
theorem Z6u:bj pG Zs:=oS (.cons Zhg (.nil)) Tryz.func42 Tryz.call42 [] [] 2
def Qr0(n k:Int):Tree Int:=
.cn (decide (k≠0)) (.br (decide (cZ n k<0)) (.lf (wrap i64 (cZ n k+k))) (.lf (cZ n k)))
def Cr n k:=(Qr0 n k).m
abbrev Hv n k:=(Qr0 n k).p
def Zl7:ba:=mT 28 [] true [.one (.int .i64),.one (.int .i64)] [] (λa r=>Qr0 (au a 0) (au a 1)) (λX=>.int .i64 X) (λX=>[])
theorem Qow:bj pG Zl7:=oT (.nil) Tryz.func28 Tryz.call28 [] [] 2
def U3(n:Int):Tree ia:=
.lv Zed λ(x0:List Int)=>.lv (Zfi n 1) λ(x1:Int)=>.an (Hv x1 (x0.length:Int)) (.lv (Cr x1 (x0.length:Int)) λ(x2:Int)=>.cn (bX 1 1&&bN 0 1&&decide (0<=x2/\x2<(x0.length:Int))) (.an (Hv (bm i64 x1 8) 6) (.lv (Cr (bm i64 x1 8) 6) λ(x3:Int)=>.an (Hv (bm i64 x1 12) 6) (.lv (Cr (bm i64 x1 12) 6) λ(x4:Int)=>.an (Hv (bm i64 x1 16) 6) (.lv (Cr (bm i64 x1 16) 6) λ(x5:Int)=>.an (Hv (bm i64 x1 20) 24) (.lv (Cr (bm i64 x1 20) 24) λ(x6:Int)=>.br (decide (x0.getD x2.toNat (0:Int)<=(13:Int))) (.lf ({Op:=x0.getD x2.toNat 0,A:=x3,B:=x4,C:=x5,cf:=0})) (let E4:=({Op:=x0.getD x2.toNat 0,A:=x3,B:=x4,C:=0,cf:=wrap i32 (wrap i64 (wrap i64 (8*x6)-32))}:ia);let T1:Tree (ia):=.br (x0.getD x2.toNat (0:Int)==(49:Int)) (.lf (E4)) (.br (x0.getD x2.toNat (0:Int)==(24:Int)) (.lf ({Op:=x0.getD x2.toNat 0,A:=x3,B:=0,C:=0,cf:=wrap i32 (wrap i64 (x6*bc i64 (bm i64 x1 40) 1))})) (let T2:Tree (ia):=let E6:=({Op:=x0.getD x2.toNat 0,A:=x3,B:=0,C:=0,cf:=wrap i32 (cZ x6 8)}:ia);.br (x0.getD x2.toNat (0:Int)==(58:Int)) (.lf (E6)) (.br (x0.getD x2.toNat (0:Int)==(59:Int)) (.lf (E6)) (let E5:=({Op:=x0.getD x2.toNat 0,A:=x3,B:=0,C:=0,cf:=wrap i32 (cZ x6 12)}:ia);.br (x0.getD x2.toNat (0:Int)==(60:Int)) (.lf (E5)) (.br (x0.getD x2.toNat (0:Int)==(61:Int)) (.lf (E5)) (.lf ({Op:=x0.getD x2.toNat 0,A:=0,B:=0,C:=0,cf:=0})))));.br (decide (x0.getD x2.toNat (0:Int)>=(17:Int))) (.br (decide (x0.getD x2.toNat (0:Int)<=(22:Int))) (.lf ({Op:=x0.getD x2.toNat 0,A:=x3,B:=x4,C:=0,cf:=wrap i32 x6})) T2) T2));let T3:Tree (ia):=.br (x0.getD x2.toNat (0:Int)==(16:Int)) (.lf (E4)) (.br (x0.getD x2.toNat (0:Int)==(23:Int)) (.lf (E4)) (.br (decide (x0.getD x2.toNat (0:Int)>=(32:Int))) (.br (decide (x0.getD x2.toNat (0:Int)<=(36:Int))) (.lf (E4)) T1) T1));.br (decide (x0.getD x2.toNat (0:Int)>=(40:Int))) (.br (decide (x0.getD x2.toNat (0:Int)<=(48:Int))) (.br (x0.getD x2.toNat (0:Int)==(48:Int)) (.lf ({Op:=x0.getD x2.toNat 0,A:=x3,B:=0,C:=0,cf:=wrap i32 (wrap i64 (x6-12))})) (.lf ({Op:=x0.getD x2.toNat 0,A:=x3,B:=x4,C:=0,cf:=wrap i32 (wrap i64 (x6-12))}))) T3) T3)))))))
def Zgw n:=(U3 n).m
abbrev Qio n:=(U3 n).p
def Zmz:ba:=mT 127 [] true [.one (.int .i64)] [] (λa r=>U3 (au a 0)) (λX=>.agg (ia.cells X)) (λX=>[])
theorem Zka:bj pG Zmz:=oT (.cons Zmv (.cons Z6u (.cons Qow (.nil)))) Tryz.func127 Tryz.call127 [] [] 2
def Quo(l:List Int)(z:(Int)×(List Int)):Prop:=0<=z.1/\z.1<=l.length/\(z.2.length:Int)=z.1
def SI(l:List Int)(z:(Int)×(List Int)):Nat:=(l.length-z.1).toNat
def M9(l:List Int):Tree (List Int):=
.lp inferInstance (SI l (0,[])+1) ((((ai.Nil (ai.ints i64 l)\/rE (1:Nat))/\rE (l:List Int))/\True/\rE (0:Int)/\True)/\rE ([]:List Int)/\True) (0,[]) λ(v0:Int×List Int)=>.br (decide (v0.1<(l.length:Int))) (let E1:=bX 1 1&&bN 0 1&&decide (0<=v0.1/\v0.1<(l.length:Int));.cn E1 (let E2:=decide (4*(v0.2.length+1)<=140737488355328);.br (cZ (l.getD v0.1.toNat 0) (17:Int)==(0:Int)) (.cn E1 (.cn E2 (.nx ((((ai.Nil (ai.ints i64 l)\/rE (1:Nat))/\rE (l:List Int))/\True/\rE ((wrap i64 (v0.1+1)):Int)/\True)/\rE ((v0.2++[wrap u32 (bc i64 (l.getD v0.1.toNat 0) 4294967295)]):List Int)/\True) (Sum.inl (wrap i64 (v0.1+1),v0.2++[wrap u32 (bc i64 (l.getD v0.1.toNat 0) 4294967295)]))))) (.cn E1 (.an (Qio (l.getD v0.1.toNat 0)) (.lv (Zgw (l.getD v0.1.toNat 0)) λ(x0:ia)=>.lv (oI x0) λ(x1:Int×Bool)=>.cn E2 (.nx ((((ai.Nil (ai.ints i64 l)\/rE (1:Nat))/\rE (l:List Int))/\True/\rE ((wrap i64 (v0.1+1)):Int)/\True)/\rE ((v0.2++[x1.1]):List Int)/\True) (Sum.inl (wrap i64 (v0.1+1),v0.2++[x1.1])))))))) (.lf (Sum.inr v0.2))
def TC l:=(M9 l).m
abbrev Qog l:=(M9 l).p
def Zk9:cg:={
 α:=(Int)×(List Int)
 F:=λst a=>([(0,(lk st 0)),(3,.all 0),(4,.int i64 a.1)],[⟨false,25,1,.ints u32 a.2⟩])
 a0:=λst=>((lk st 4).toInt,(nC st.rows (rN st 3)))
 jk:=λst=>[]++[(rX st 3 0)]}
def Z9:List (Nat×cg):=[(3,Zk9)]
def Zoa:ba:=mT 78 [] true [.one (.ints .i64)] [] (λa r=>M9 (dh .i64 a 0)) (λX=>.all 0) (λX=>[⟨false,25,1,.ints .u32 X⟩])
theorem Zj1:bj pG Zoa:=oT (.cons Qmg (.cons Zka (.nil))) Tryz.func78 Tryz.call78 [.row 25 1 (.ints .u32)] Z9 3
def SL(pc:Int):Tree bq:=
.lf ({X:={a0:=0,a1:=0,a2:=0,a3:=0,a4:=0,a5:=0,a6:=0,a7:=0,a8:=0,a9:=0,kr:=0,ku:=0,a12:=0,kv:=0,ky:=0,kz:=0},Pc:=pc,C2:={a0:=1,a1:=0,a2:=0,a3:=0,a4:=0,a5:=0,a6:=0,a7:=0}})
def WA pc:=(SL pc).m
def Zk1:ba:=mS 128 [] true [.one (.int .u32)] [] (λa r=>SL (au a 0)) (λX=>.agg (bq.cells X)) (λX=>[])
theorem Zfw:bj pG Zk1:=oS (.nil) Tryz.func128 Tryz.call128 [] [] 2
def Rt(bh:Int):Tree (List Int):=
.br (decide (bh<1)) (.lf ([])) (.br (decide (bh>32)) (.lf ([])) (.cn (bN 0 1&&bX 1 1&&List.all [D.int u32 0] D.plain&&decide (0<=wrap i64 (bh*32)/\wrap i64 (bh*32)<=wrap i64 (bh*32)/\wrap i64 (bh*32)<=9223372036854775807/\(↑4:Int)*wrap i64 (bh*32)<=140737488355328)) (.lf (List.replicate (dA (wrap i64 (bh*32))) 0))))
def SM bh:=(Rt bh).m
abbrev Qlo bh:=(Rt bh).p
def Zri:ba:=mT 38 [] true [.one (.int .i64)] [] (λa r=>Rt (au a 0)) (λX=>.all 0) (λX=>[⟨false,25,1,.ints .u32 X⟩])
theorem Zn5:bj pG Zri:=oT (.nil) Tryz.func38 Tryz.call38 [.row 25 1 (.ints .u32)] [] 2
def Gm(bh blocks:Int)(image:List Int):Tree (bb×Bool):=
let T1:Tree ((bb×Bool)):=.lf ({B2:={X:={a0:=0,a1:=0,a2:=0,a3:=0,a4:=0,a5:=0,a6:=0,a7:=0,a8:=0,a9:=0,kr:=0,ku:=0,a12:=0,kv:=0,ky:=0,kz:=0},Pc:=0,C2:={a0:=0,a1:=0,a2:=0,a3:=0,a4:=0,a5:=0,a6:=0,a7:=0}},Mem:=[],B3:={D9:=[]},B8:={F0:=false,D2:=0,D8:=false},B5:={ab:=0,C9:=0,Frame:=0,C8:=0,F5:=0,C5:=0,C6:=0,C7:=[]},D1:={Frame:=0,F7:=0,D3:=false,D4:=0,C3:=false,F8:=0},A6:={A2:=0,D0:=0},B7:=0,B4:=false,B6:=false},false);.br (decide (bh<1)) T1 (.br (decide (bh>32)) T1 (.br (decide (blocks<0)) T1 (.br (decide (blocks>64)) T1 (.br (decide ((image.length:Int)>wrap i64 (bh*32))) T1 (.lv (WA 0) λ(x0:bq)=>.an (Qlo bh) (.lv (SM bh) λ(x1:List Int)=>.lf ({B2:=x0,Mem:=cU (Min.min (image.length) (x1.length)) image++cV (Min.min (image.length) (x1.length)) x1,B3:={D9:=[]},B8:={F0:=false,D2:=0,D8:=false},B5:={ab:=wrap u32 blocks,C9:=0,Frame:=0,C8:=0,F5:=0,C5:=0,C6:=0,C7:=[]},D1:={Frame:=0,F7:=0,D3:=false,D4:=0,C3:=false,F8:=0},A6:={A2:=0,D0:=0},B7:=0,B4:=false,B6:=false},true)))))))
def lh bh blocks image:=(Gm bh blocks image).m
abbrev Ve bh blocks image:=(Gm bh blocks image).p
def Zsu:ba:=mT 79 [] true [.one (.int .i64),.one (.int .i64),.one (.ints .u32)] [] (λa r=>Gm (au a 0) (au a 1) (dh .u32 a 2)) (λX=>.dw [.agg (bb.cj (X.1) (.all 0)),.bool (X.2)]) (λX=>[⟨false,25,1,.ints .u32 (X.1).Mem⟩])
theorem Znt:bj pG Zsu:=oT (.cons Zfw (.cons Zn5 (.nil))) Tryz.func79 Tryz.call79 [.row 25 1 (.ints .u32)] [] 2
def Qk8(a b:List Int)(z:(Int)):Prop:=0<=z/\z<=a.length/\a.length=b.length
def I3(a b:List Int)(z:(Int)):Nat:=(a.length-z).toNat
def I0(a b:List Int):Tree Bool:=
.br ((a.length:Int) !=(b.length:Int)) (.lf false) (.lp inferInstance (I3 a b 0+1) ((((ai.Nil (ai.ints u32 a)\/rE (1:Nat))/\rE (a:List Int))/\((ai.Nil (ai.ints u32 b)\/rE (1:Nat))/\rE (b:List Int))/\rE (0:Int)/\True)/\True) 0 λ(v0:Int)=>.br (decide (v0<(a.length:Int))) (.cn (bX 1 1&&bN 0 1&&decide (0<=v0/\v0<(a.length:Int))) (.cn (bX 1 1&&bN 0 1&&decide (0<=v0/\v0<(b.length:Int))) (.br (a.getD v0.toNat 0 !=b.getD v0.toNat 0) (.lf (Sum.inr false)) (.nx ((((ai.Nil (ai.ints u32 a)\/rE (1:Nat))/\rE (a:List Int))/\((ai.Nil (ai.ints u32 b)\/rE (1:Nat))/\rE (b:List Int))/\rE ((wrap i64 (v0+1)):Int)/\True)/\True) (Sum.inl (wrap i64 (v0+1))))))) (.lf (Sum.inr true)))
def Pg a b:=(I0 a b).m
def Vf(a b:List Int):Prop:=
a.length<=1000000000000
theorem Qye(a b:List Int)(hw:Vf a b):(I0 a b).p:=by
 simp only[Vf]at hw
 unfold Tree.p I0
 repeat'(first|refine fk (inv:=Qk8 a b) (μ:=I3 a b) ?_ (cN _) (λ_ _=>?_)|exact trivial|refine ae (λ_=>?_) (λ_=>?_)|refine ax ?_ ?_|refine c7 ?_ ?_|refine aq (λ_ _=>?_)|refine ez ?_|refine bg ?_|refine And.intro ?_ ?_)
 all_goals((try simp only[Qk8,I3]at*);exact nL)
def Qzb:cg:={
 α:=(Int)
 F:=λst a=>([(0,(lk st 0)),(1,(lk st 1)),(5,.int i64 a)],[])
 a0:=λst=>(lk st 5).toInt
 jk:=λst=>[]++[]}
def Qv5:List (Nat×cg):=[(4,Qzb)]
def Z3l:ba:=ly 67 [] true [.one (.ints .u32),.one (.ints .u32)] [] (λa r=>Vf (dh .u32 a 0) (dh .u32 a 1)) (λa r=>Pg (dh .u32 a 0) (dh .u32 a 1)) (λX=>.bool X) (λX=>[])
theorem Z0x:bj pG Z3l:=uV drawn jA (.nil) Tryz.func67 Tryz.call67 (λa r=>I0 (dh .u32 a 0) (dh .u32 a 1)) [] Qv5 3 (hp:=λa r h=>Qye (dh .u32 a 0) (dh .u32 a 1) h)
def Pf(a b:bb):Tree Bool:=
.br (eqs [D.int u32 a.B2.X.a0,D.int u32 a.B2.X.a1,D.int u32 a.B2.X.a2,D.int u32 a.B2.X.a3,D.int u32 a.B2.X.a4,D.int u32 a.B2.X.a5,D.int u32 a.B2.X.a6,D.int u32 a.B2.X.a7,D.int u32 a.B2.X.a8,D.int u32 a.B2.X.a9,D.int u32 a.B2.X.kr,D.int u32 a.B2.X.ku,D.int u32 a.B2.X.a12,D.int u32 a.B2.X.kv,D.int u32 a.B2.X.ky,D.int u32 a.B2.X.kz,D.int u32 a.B2.Pc,D.int u32 a.B2.C2.a0,D.int u32 a.B2.C2.a1,D.int u32 a.B2.C2.a2,D.int u32 a.B2.C2.a3,D.int u32 a.B2.C2.a4,D.int u32 a.B2.C2.a5,D.int u32 a.B2.C2.a6,D.int u32 a.B2.C2.a7] [D.int u32 b.B2.X.a0,D.int u32 b.B2.X.a1,D.int u32 b.B2.X.a2,D.int u32 b.B2.X.a3,D.int u32 b.B2.X.a4,D.int u32 b.B2.X.a5,D.int u32 b.B2.X.a6,D.int u32 b.B2.X.a7,D.int u32 b.B2.X.a8,D.int u32 b.B2.X.a9,D.int u32 b.B2.X.kr,D.int u32 b.B2.X.ku,D.int u32 b.B2.X.a12,D.int u32 b.B2.X.kv,D.int u32 b.B2.X.ky,D.int u32 b.B2.X.kz,D.int u32 b.B2.Pc,D.int u32 b.B2.C2.a0,D.int u32 b.B2.C2.a1,D.int u32 b.B2.C2.a2,D.int u32 b.B2.C2.a3,D.int u32 b.B2.C2.a4,D.int u32 b.B2.C2.a5,D.int u32 b.B2.C2.a6,D.int u32 b.B2.C2.a7]) (.an (Vf a.Mem b.Mem) (.lv (Pg a.Mem b.Mem) λ(x0:Bool)=>.br x0 (.br (eqs [D.str a.B3.D9] [D.str b.B3.D9]) (.br (eqs [D.bool a.B8.F0,D.int u32 a.B8.D2,D.bool a.B8.D8] [D.bool b.B8.F0,D.int u32 b.B8.D2,D.bool b.B8.D8]) (.br (eqs [D.int u32 a.B5.ab,D.int u32 a.B5.C9,D.int u32 a.B5.Frame,D.int i64 a.B5.C8,D.int i64 a.B5.F5,D.int u32 a.B5.C5,D.int u32 a.B5.C6,D.str a.B5.C7] [D.int u32 b.B5.ab,D.int u32 b.B5.C9,D.int u32 b.B5.Frame,D.int i64 b.B5.C8,D.int i64 b.B5.F5,D.int u32 b.B5.C5,D.int u32 b.B5.C6,D.str b.B5.C7]) (.br (eqs [D.int u32 a.D1.Frame,D.int u32 a.D1.F7,D.bool a.D1.D3,D.int u32 a.D1.D4,D.bool a.D1.C3,D.int u32 a.D1.F8] [D.int u32 b.D1.Frame,D.int u32 b.D1.F7,D.bool b.D1.D3,D.int u32 b.D1.D4,D.bool b.D1.C3,D.int u32 b.D1.F8]) (.br (eqs [D.int u32 a.A6.A2,D.int u32 a.A6.D0] [D.int u32 b.A6.A2,D.int u32 b.A6.D0]) (.br (a.B7==b.B7) (.br (a.B4==b.B4) (.lf (a.B6==b.B6)) (.lf false)) (.lf false)) (.lf false)) (.lf false)) (.lf false)) (.lf false)) (.lf false)) (.lf false))) (.lf false)
def Z4d a b:=(Pf a b).m
abbrev TY a b:=(Pf a b).p
def Zmr:ba:=mT 24 [] true [.agg bb.sig,.agg bb.sig] [] (λa r=>Pf (bb.of (aC a 0)) (bb.of (aC a 1))) (λX=>.bool X) (λX=>[])
theorem Z1q:bj pG Zmr:=oT (.cons Z0x (.nil)) Tryz.func24 Tryz.call24 [] [] 2
