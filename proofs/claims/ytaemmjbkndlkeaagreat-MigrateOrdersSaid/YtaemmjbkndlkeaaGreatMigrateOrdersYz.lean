import Derived.Test.YtaemmjbkndlkeaaGreatMigrateOrdersFh
import Derived.Test.YtaemmjbkndlkeaaGreatMigrateOrdersYx
open List renaming take->cU,drop->cV,length->dF,set->dB,getD->aV
open Int renaming toNat->dA,tmod->cZ
open UInt8 renaming toNat->hZ
open Nat renaming blt->bN,beq->bX,lt_succ_self->cN
set_option maxRecDepth 100000
set_option linter.all false
namespace Go.Proofs.YtaemmjbkndlkeaaGreat
open Go Go.GD Go.IntKind
noncomputable section
def IY(m:bc):Tree Bool:=
.an (Vv m) (.lv (Bb m) λ(x0:Bool)=>.br x0 (.br (!m.B5) (.an (Qpr m) (.lv (Tm m) λ(x1:Bool)=>.br (!x1) (.lf (decide (m.B6<1152921504606846976))) (.lf false))) (.lf false)) (.lf false))
def EV m:=(IY m).m
abbrev Qpv m:=(IY m).p
def Z9c:ba:=mT 135 [] true [.agg bc.sig] [] (λa r=>IY (bc.of (aC a 0))) (λX=>.bool X) (λX=>[])
theorem Z8c:bm pG Z9c:=oT (.cons Quo (.cons Z7s (.nil))) Tryz.func135 Tryz.call135 [] [] 2
def Qjb(m:bc)(z:(Int)):Nat:=(5-z).toNat
def Lg(m:bc):Tree bc:=
let E1:=({B4:=m.B4,Mem:=m.Mem,B2:=m.B2,B9:=m.B9,B7:=m.B7,D2:=m.D2,A7:=m.A7,B6:=m.B6,B3:=false,B5:=m.B5}:bc);.br (bb u32 m.B4.C3.a0 (2:Int)==(0:Int)) (.lf (E1)) (.an (Qcg E1) (.lv (LQ E1) λ(x0:Int)=>.lp inferInstance (Qjb m 0+1) ((rZ/\rZ/\rE (x0:Int)/\rE (0:Int)/\True)/\(rE m.B4.X.a0/\rE m.B4.X.a1/\rE m.B4.X.a2/\rE m.B4.X.a3/\rE m.B4.X.a4/\rE m.B4.X.a5/\rE m.B4.X.a6/\rE m.B4.X.a7/\rE m.B4.X.a8/\rE m.B4.X.a9/\rE m.B4.X.kJ/\rE m.B4.X.kK/\rE m.B4.X.a12/\rE m.B4.X.kL/\rE m.B4.X.kM/\rE m.B4.X.kN/\rE m.B4.Pc/\rE m.B4.C3.a0/\rE m.B4.C3.a1/\rE m.B4.C3.a2/\rE m.B4.C3.a3/\rE m.B4.C3.a4/\rE m.B4.C3.a5/\rE m.B4.C3.a6/\rE m.B4.C3.a7/\((ai.Nil (ai.ints u32 m.Mem)\/rE (1:Nat))/\rE m.Mem)/\rE m.B2.D9/\rE m.B9.F2/\rE m.B9.D4/\rE m.B9.E0/\rE m.B7.ae/\rE m.B7.C8/\rE m.B7.Frame/\rE m.B7.C7/\rE m.B7.F7/\rE m.B7.C5/\rE m.B7.C6/\rE m.B7.C9/\rE m.D2.Frame/\rE m.D2.F8/\rE m.D2.D1/\rE m.D2.D3/\rE m.D2.C4/\rE m.D2.G0/\rE m.A7.A2/\rE m.A7.D0/\rE m.B6/\rE (false:Bool)/\rE m.B5/\True)/\(mE zM True True)/\True) 0 λ(v0:Int)=>.br (decide (v0<5)) (.cn (decide (0<=v0)) (.br (bb u32 x0 (ei u32 1 v0) !=0) (.lv (rh m.B4 (wrap i64 (16+v0)) 0) λ(x1:bq)=>.lf (Sum.inr {B4:=x1,Mem:=m.Mem,B2:=m.B2,B9:=m.B9,B7:=m.B7,D2:=m.D2,A7:=m.A7,B6:=m.B6,B3:=false,B5:=m.B5})) (.nx ((rZ/\rZ/\rE (x0:Int)/\rE ((wrap i64 (v0+1)):Int)/\True)/\(rE m.B4.X.a0/\rE m.B4.X.a1/\rE m.B4.X.a2/\rE m.B4.X.a3/\rE m.B4.X.a4/\rE m.B4.X.a5/\rE m.B4.X.a6/\rE m.B4.X.a7/\rE m.B4.X.a8/\rE m.B4.X.a9/\rE m.B4.X.kJ/\rE m.B4.X.kK/\rE m.B4.X.a12/\rE m.B4.X.kL/\rE m.B4.X.kM/\rE m.B4.X.kN/\rE m.B4.Pc/\rE m.B4.C3.a0/\rE m.B4.C3.a1/\rE m.B4.C3.a2/\rE m.B4.C3.a3/\rE m.B4.C3.a4/\rE m.B4.C3.a5/\rE m.B4.C3.a6/\rE m.B4.C3.a7/\((ai.Nil (ai.ints u32 m.Mem)\/rE (1:Nat))/\rE m.Mem)/\rE m.B2.D9/\rE m.B9.F2/\rE m.B9.D4/\rE m.B9.E0/\rE m.B7.ae/\rE m.B7.C8/\rE m.B7.Frame/\rE m.B7.C7/\rE m.B7.F7/\rE m.B7.C5/\rE m.B7.C6/\rE m.B7.C9/\rE m.D2.Frame/\rE m.D2.F8/\rE m.D2.D1/\rE m.D2.D3/\rE m.D2.C4/\rE m.D2.G0/\rE m.A7.A2/\rE m.A7.D0/\rE m.B6/\rE (false:Bool)/\rE m.B5/\True)/\(mE zM True True)/\True) (Sum.inl (wrap i64 (v0+1)))))) (.lf (Sum.inr E1))))
def pn m:=(Lg m).m
abbrev Qnb m:=(Lg m).p
def Z28:cg:={
 α:=(Int)
 F:=λst a=>([(1,.ptr 0 0 0),(2,.ptr 1 0 0),(3,(lk st 3)),(15,.int i64 a)],[⟨true,43,49,.gen [mB (cT st 1)]⟩,⟨true,43,49,.gen [mB (cT st 2)]⟩])
 a0:=λst=>(lk st 15).toInt
 jl:=λst=>[]++[(rX st 1 0),(rX st 2 1)]}
def Qx4:List (Nat×cg):=[(6,Z28)]
def Z5k:ba:=ba.fz<|lJ 136 [] false [.agg bc.sig] [] (λa r=>Qnb (bc.of (aC a 0))) (λa r=>pn (bc.of (aC a 0))) (λX=>.agg (bc.cells X)) (λX=>[])
theorem Z2m:bm pG Z5k:=wZ<|wc drawn jB (.cons Qm0 (.cons RY (.nil))) Tryz.func136 Tryz.call136 (λa r=>Lg (bc.of (aC a 0))) [.sl (.ints .u32) false] Qx4 3 (λ_ _ _=>by kernel_rfl) (λ_ _=>rfl) (λ_ _ h=>h) (λh=>by cases h)
def IS(c:iN)(port:Int):Tree (iN×Int):=
.br (port==0) (.br (decide (c.D9=[])) (.lf (c,4294967295)) (.cn (decide ((0:Int)<=(0:Int)/\0<(c.D9.length:Int))) (.cn (decide ((0:Int)<=(1:Int)/\1<=(c.D9.length:Int)/\(c.D9.length:Int)<=(c.D9.length:Int))) (.lf ({D9:=cU (dA (c.D9.length:Int)-dA 1) (cV (dA 1) c.D9)},wrap u32 (↑(hZ (c.D9.getD (dA 0) (0:UInt8))):Int)))))) (.br (port==1) (.lf (c,wrap u32 (c.D9.length:Int))) (.lf (c,0)))
def XE c port:=(IS c port).m
theorem Z9g(c:iN)(port:Int):(IS c port).p:=by
 unfold Tree.p IS
 repeat'(first|exact trivial|refine ab (λ_=>?_) (λ_=>?_)|refine aw ?_ ?_|refine c8 ?_ ?_|refine aq (λ_ _=>?_)|refine ep ?_|refine bg ?_|refine And.intro ?_ ?_)
 all_goals(exact nQ)
def Zj6:ba:=mS 195 [] true [.agg iN.sig,.one (.int .i64)] [] (λa r=>IS (iN.of (aC a 0)) (au a 1)) (λX=>.dw [.agg (iN.cells (X.1)),.int .u32 (X.2)]) (λX=>[])
theorem Zdu:bm pG Zj6:=oS (.nil) Tryz.func195 Tryz.call195 [] [] 2 (λ_ _ _=>by kernel_rfl) (λa r=>Z9g (iN.of (aC a 0)) (au a 1)) (λ_ X=>by kernel_rfl)
def Ti(t:iV):Tree Int:=
.br t.E0 (.lf 1) (.lf 0)
def W8 t:=(Ti t).m
def Zsd:ba:=mS 196 [] true [.agg iV.sig] [] (λa r=>Ti (iV.of (aC a 0))) (λX=>.int .u32 X) (λX=>[])
theorem Zni:bm pG Zsd:=oS (.nil) Tryz.func196 Tryz.call196 [] [] 2
def Tj(d0:fx)(port:Int):Tree Int:=
.br (port==4) (.lf d0.C8) (.br (port==5) (.lf d0.Frame) (.br (port==6) (.lf (wrap u32 d0.C7)) (.lf 0)))
def N6 d0 port:=(Tj d0 port).m
def qD:ba:=mS 197 [] true [.agg fx.sig,.one (.int .i64)] [] (λa r=>Tj (fx.of (aC a 0)) (au a 1)) (λX=>.int .u32 X) (λX=>[])
theorem Zs2:bm pG qD:=oS (.nil) Tryz.func197 Tryz.call197 [] [] 2
def N7(n:gx)(port:Int):Tree Int:=
.br (port==7) (.lf n.Frame) (.br (port==8) (.lf n.G0) (.br (port==9) (.br n.D1 (.br n.C4 (.lf (wrap u32 (wrap u32 ((0:Int)+(1:Int))+2))) (.lf (wrap u32 ((0:Int)+(1:Int))))) (.br n.C4 (.lf (wrap u32 ((0:Int)+(2:Int)))) (.lf 0))) (.lf 0)))
def K9 n port:=(N7 n port).m
def qX:ba:=mS 198 [] true [.agg gx.sig,.one (.int .i64)] [] (λa r=>N7 (gx.of (aC a 0)) (au a 1)) (λX=>.int .u32 X) (λX=>[])
theorem xD:bm pG qX:=oS (.nil) Tryz.func198 Tryz.call198 [] [] 2
def La(b:gm)(port:Int):Tree Int:=
.br (port==10) (.lf b.A2) (.br (port==11) (.an (Qfc b) (.lv (TN b) λ(x0:Int)=>.lf (wrap u32 x0))) (.lf 0))
def XO b port:=(La b port).m
abbrev Qut b port:=(La b port).p
def Zl9:ba:=mT 199 [] true [.agg gm.sig,.one (.int .i64)] [] (λa r=>La (gm.of (aC a 0)) (au a 1)) (λX=>.int .u32 X) (λX=>[])
theorem Zgu:bm pG Zl9:=oT (.cons Qq3 (.nil)) Tryz.func199 Tryz.call199 [] [] 2
def K8(m:bc)(port clock:Int):Tree (bc×Int):=
let T1:Tree ((bc×Int)):=.lv (XE m.B2 port) λ(x0:iN×Int)=>.lf ({B4:=m.B4,Mem:=m.Mem,B2:=x0.1,B9:=m.B9,B7:=m.B7,D2:=m.D2,A7:=m.A7,B6:=m.B6,B3:=m.B3,B5:=m.B5},x0.2);.br (port==0) T1 (.br (port==1) T1 (.br (port==2) (.lf (m,clock)) (.br (port==3) (.lv (W8 m.B9) λ(x2:Int)=>.lf (m,x2)) (.br (port==4) (.lv (N6 m.B7 port) λ(x3:Int)=>.lf (m,x3)) (.br (port==5) (.lv (N6 m.B7 port) λ(x4:Int)=>.lf (m,x4)) (.br (port==6) (.lv (N6 m.B7 port) λ(x5:Int)=>.lf (m,x5)) (.br (port==7) (.lv (K9 m.D2 port) λ(x6:Int)=>.lf (m,x6)) (.br (port==8) (.lv (K9 m.D2 port) λ(x7:Int)=>.lf (m,x7)) (.br (port==9) (.lv (K9 m.D2 port) λ(x8:Int)=>.lf (m,x8)) (let T2:Tree ((bc×Int)):=.an (Qut m.A7 port) (.lv (XO m.A7 port) λ(x9:Int)=>.lf (m,x9));.br (port==10) T2 (.br (port==11) T2 (.lf (m,0)))))))))))))
def uA m port clock:=(K8 m port clock).m
abbrev Qi6 m port clock:=(K8 m port clock).p
def Qwa:ba:=ba.fz<|lJ 138 [] false [.agg bc.sig,.one (.int .i64),.one (.int .u32)] [] (λa r=>Qi6 (bc.of (aC a 0)) (au a 1) (au a 2)) (λa r=>uA (bc.of (aC a 0)) (au a 1) (au a 2)) (λX=>.dw [.agg (bc.cells (X.1)),.int .u32 (X.2)]) (λX=>[])
theorem Qvg:bm pG Qwa:=wZ<|wc drawn jB (.cons Zdu (.cons Zni (.cons Zs2 (.cons xD (.cons Zgu (.nil)))))) Tryz.func138 Tryz.call138 (λa r=>K8 (bc.of (aC a 0)) (au a 1) (au a 2)) [.sl (.ints .u32) false] [] 2 (λ_ _ _=>by kernel_rfl) (λ_ _=>rfl) (λ_ _ h=>h) (λh=>by cases h)
def Tf(t:iV)(deadline:Int):Tree iV:=
.lf ({F2:=deadline !=0,D4:=deadline,E0:=false})
def N2 t deadline:=(Tf t deadline).m
def Zlq:ba:=mS 200 [] true [.agg iV.sig,.one (.int .u32)] [] (λa r=>Tf (iV.of (aC a 0)) (au a 1)) (λX=>.agg (iV.cells X)) (λX=>[])
theorem Zii:bm pG Zlq:=oS (.nil) Tryz.func200 Tryz.call200 [] [] 2
def Tc(m:List Int)(frame:Int):Tree Bool:=
.lv (jQ m) λ(x0:Int)=>.lf (decide (wrap u64 frame<wrap u64 x0))
def NY m frame:=(Tc m frame).m
def Zel:ba:=mS 280 [] true [.one (.ints .u32),.one (.int .u32)] [] (λa r=>Tc (dh .u32 a 0) (au a 1)) (λX=>.bool X) (λX=>[])
theorem Z90:bm pG Zel:=oS (.cons Bt (.nil)) Tryz.func280 Tryz.call280 [] [] 2
def KY(m:List Int)(frame:Int):Tree Bool:=
.br (decide (frame>=0)) (.lv (jQ m) λ(x0:Int)=>.lf (decide (frame<x0))) (.lf false)
def EM m frame:=(KY m frame).m
def Z2e:ba:=mS 145 [] true [.one (.ints .u32),.one (.int .i64)] [] (λa r=>KY (dh .u32 a 0) (au a 1)) (λX=>.bool X) (λX=>[])
theorem Qms:bm pG Z2e:=oS (.cons Bt (.nil)) Tryz.func145 Tryz.call145 [] [] 2
def Qq0(words:List Int)(z:(Int)×(List Int)):Prop:=0<=z.1/\z.1<=words.length/\(z.2.length:Int)=4*z.1
def Q8(words:List Int)(z:(Int)×(List Int)):Nat:=(words.length-z.1).toNat
def EO(words:List Int):Tree (List UInt8):=
.cn (bN 0 1&&bX 1 1&&List.all [D.int u8 0] D.plain&&decide ((0:Int)<=(0:Int)/\0<=wrap i64 (4*(words.length:Int))/\wrap i64 (4*(words.length:Int))<=9223372036854775807/\(↑1:Int)*wrap i64 (4*(words.length:Int))<=140737488355328)) (.lp inferInstance (Q8 words (0,[])+1) ((True/\((ai.Nil (ai.ints u32 words)\/rE (1:Nat))/\rE (words:List Int))/\rE ((words.length:Int):Int)/\rE (0:Int)/\True)/\rE ([]:List Int)/\True) (0,[]) λ(v0:Int×List Int)=>.br (decide (v0.1<(words.length:Int))) (.cn (bX 1 1&&bN 0 1&&decide (0<=v0.1/\v0.1<(words.length:Int))) (.cn (decide (1*(v0.2.length+4)<=140737488355328)) (let E1:=words.getD v0.1.toNat 0;.nx ((True/\((ai.Nil (ai.ints u32 words)\/rE (1:Nat))/\rE (words:List Int))/\rE ((words.length:Int):Int)/\rE ((wrap i64 (v0.1+1)):Int)/\True)/\rE ((v0.2++[wrap u8 (words.getD v0.1.toNat 0),wrap u8 (bj u32 (words.getD v0.1.toNat 0) 8),wrap u8 (bj u32 (words.getD v0.1.toNat 0) 16),wrap u8 (bj u32 (words.getD v0.1.toNat 0) 24)]):List Int)/\True) (Sum.inl (wrap i64 (v0.1+1),v0.2++[wrap u8 E1,wrap u8 (bj u32 E1 8),wrap u8 (bj u32 E1 16),wrap u8 (bj u32 E1 24)]))))) (.lf (Sum.inr (bytesOf v0.2))))
def Z7t words:=(EO words).m
def VD(words:List Int):Prop:=
words.length<=1000000000000
theorem Z8o(words:List Int)(hw:VD words):(EO words).p:=by
 simp only[VD]at hw
 unfold Tree.p EO
 repeat'(first|refine fj (inv:=Qq0 words) (μ:=Q8 words) ?_ (cN _) (λ_ _=>?_)|exact trivial|refine ab (λ_=>?_) (λ_=>?_)|refine aw ?_ ?_|refine c8 ?_ ?_|refine aq (λ_ _=>?_)|refine ep ?_|refine bg ?_|refine And.intro ?_ ?_)
 all_goals((try simp only[Qq0,Q8]at*);exact nQ)
def Z9v:cg:={
 α:=(Int)×(List Int)
 F:=λst a=>([(3,.all 0),(10,(lk st 10)),(11,(lk st 11)),(12,.int i64 a.1)],[⟨false,5,1,.ints u8 a.2⟩])
 a0:=λst=>((lk st 12).toInt,(oq st.rows (rN st 3)))
 jl:=λst=>[]++[(rX st 3 0)]}
def Z2n:List (Nat×cg):=[(3,Z9v)]
def Zg0:ba:=lJ 146 [] true [.one (.ints .u32)] [] (λa r=>VD (dh .u32 a 0)) (λa r=>Z7t (dh .u32 a 0)) (λX=>.str X) (λX=>[])
theorem Za0:bm pG Zg0:=wc drawn jB (.nil) Tryz.func146 Tryz.call146 (λa r=>EO (dh .u32 a 0)) [] Z2n 3 (hp:=λa r h=>Z8o (dh .u32 a 0) h)
def DP(m:List Int)(frame:Int):Tree ((List UInt8)×Bool):=
.lv (EM m frame) λ(x0:Bool)=>.br (!x0) (.lf ([],false)) (.cn (bX 1 1&&bN 0 1&&decide (0<=wrap i64 (frame*32)/\wrap i64 (frame*32)<=wrap i64 (wrap i64 (frame*32)+32)/\wrap i64 (wrap i64 (frame*32)+32)<=(m.length:Int))) (let E1:=cU (dA (wrap i64 (wrap i64 (frame*32)+32))-dA (wrap i64 (frame*32))) (cV (dA (wrap i64 (frame*32))) m);.an (VD E1) (.lv (Z7t E1) λ(x1:List UInt8)=>.lf (x1,true))))
def jG m frame:=(DP m frame).m
abbrev OM m frame:=(DP m frame).p
def Zdh:ba:=mT 99 [] true [.one (.ints .u32),.one (.int .i64)] [] (λa r=>DP (dh .u32 a 0) (au a 1)) (λX=>.dw [.str (X.1),.bool (X.2)]) (λX=>[])
theorem R5:bm pG Zdh:=oT (.cons Qms (.cons Za0 (.nil))) Tryz.func99 Tryz.call99 [] [] 2
def Qub(d0:fx)(gg:Int):Tree (il×Bool):=
.br (d0.C7 !=1) (.lf ({C2:=0,At:=0,C8:=0,F1:=[]},false)) (.br (d0.F7==1) (.lf ({C2:=3,At:=gg,C8:=d0.C5,F1:=[]},true)) (.br (d0.F7==2) (.lf ({C2:=4,At:=gg,C8:=d0.C5,F1:=d0.C9},true)) (.lf ({C2:=0,At:=0,C8:=0,F1:=[]},false))))
def XJ d0 gg:=(Qub d0 gg).m
def Z99:ba:=mS 281 [] true [.agg fx.sig,.one (.int .u64)] [] (λa r=>Qub (fx.of (aC a 0)) (au a 1)) (λX=>.dw [.agg (il.cells (X.1)),.bool (X.2)]) (λX=>[])
theorem Z6i:bm pG Z99:=oS (.nil) Tryz.func281 Tryz.call281 [] [] 2
def K0(d0:fx)(m:List Int)(cmd gg:Int):Tree (fx×(List il)):=
.br (d0.C7 !=0) (.lf (d0,[])) (let T1:Tree ((fx×(List il))):=.lf ({ae:=d0.ae,C8:=d0.C8,Frame:=d0.Frame,C7:=3,F7:=d0.F7,C5:=d0.C5,C6:=d0.C6,C9:=d0.C9},[]);.br (decide (d0.C8>=d0.ae)) T1 (.lv (NY m d0.Frame) λ(x0:Bool)=>.br (!x0) T1 (.br (cmd==2) (.an (OM m (wrap i64 d0.Frame)) (.lv (jG m (wrap i64 d0.Frame)) λ(x1:List UInt8×Bool)=>.lv (XJ {ae:=d0.ae,C8:=d0.C8,Frame:=d0.Frame,C7:=1,F7:=cmd,C5:=d0.C8,C6:=d0.Frame,C9:=x1.1} gg) λ(x2:il×Bool)=>.lf ({ae:=d0.ae,C8:=d0.C8,Frame:=d0.Frame,C7:=1,F7:=cmd,C5:=d0.C8,C6:=d0.Frame,C9:=x1.1},[x2.1]))) (.lv (XJ {ae:=d0.ae,C8:=d0.C8,Frame:=d0.Frame,C7:=1,F7:=cmd,C5:=d0.C8,C6:=d0.Frame,C9:=[]} gg) λ(x3:il×Bool)=>.lf ({ae:=d0.ae,C8:=d0.C8,Frame:=d0.Frame,C7:=1,F7:=cmd,C5:=d0.C8,C6:=d0.Frame,C9:=[]},[x3.1])))))
def Qyj d0 m cmd gg:=(K0 d0 m cmd gg).m
abbrev Qu9 d0 m cmd gg:=(K0 d0 m cmd gg).p
def Zj9:ba:=mT 250 [] true [.agg fx.sig,.one (.ints .u32),.one (.int .i64),.one (.int .u64)] [] (λa r=>K0 (fx.of (aC a 0)) (dh .u32 a 1) (au a 2) (au a 3)) (λX=>.dw [.agg (fx.cells (X.1)),.sl 4 (.ah .bz (X.2)) true]) (λX=>[])
theorem Zeo:bm pG Zj9:=oT (.cons Z90 (.cons R5 (.cons Z6i (.nil)))) Tryz.func250 Tryz.call250 [.sl (.ah .bz) true] [] 2
def K1(d0:fx)(m:List Int)(port v gg:Int):Tree (fx×(List il)):=
.br (port==4) (.lf ({ae:=d0.ae,C8:=v,Frame:=d0.Frame,C7:=d0.C7,F7:=d0.F7,C5:=d0.C5,C6:=d0.C6,C9:=d0.C9},[])) (.br (port==5) (.lf ({ae:=d0.ae,C8:=d0.C8,Frame:=v,C7:=d0.C7,F7:=d0.F7,C5:=d0.C5,C6:=d0.C6,C9:=d0.C9},[])) (.br (port==6) (let T1:Tree ((fx×(List il))):=.an (Qu9 d0 m (wrap i64 v) gg) (.lv (Qyj d0 m (wrap i64 v) gg) λ(x0:fx×List il)=>.lf (x0.1,x0.2));.br (v==1) T1 (.br (v==2) T1 (.br (v==0) (.lv (K3 d0) λ(x2:Bool)=>.br x2 (.lf ({ae:=d0.ae,C8:=d0.C8,Frame:=d0.Frame,C7:=0,F7:=d0.F7,C5:=d0.C5,C6:=d0.C6,C9:=d0.C9},[])) (.lf (d0,[]))) (.lf (d0,[]))))) (.lf (d0,[]))))
def XH d0 m port v gg:=(K1 d0 m port v gg).m
abbrev Z1m d0 m port v gg:=(K1 d0 m port v gg).p
def Zr3:ba:=mT 201 [] true [.agg fx.sig,.one (.ints .u32),.one (.int .i64),.one (.int .u32),.one (.int .u64)] [] (λa r=>K1 (fx.of (aC a 0)) (dh .u32 a 1) (au a 2) (au a 3) (au a 4)) (λX=>.dw [.agg (fx.cells (X.1)),.sl 4 (.ah .bz (X.2)) true]) (λX=>[])
theorem Zmx:bm pG Zr3:=oT (.cons Zeo (.cons Qrn (.nil))) Tryz.func201 Tryz.call201 [.sl (.ah .bz) true] [] 2
def Td(m:List Int)(frame:Int):Tree Bool:=
.lv (jQ m) λ(x0:Int)=>.lf (decide (wrap u64 frame<wrap u64 x0))
def KZ m frame:=(Td m frame).m
def Zit:ba:=mS 253 [] true [.one (.ints .u32),.one (.int .u32)] [] (λa r=>Td (dh .u32 a 0) (au a 1)) (λX=>.bool X) (λX=>[])
theorem Qwn:bm pG Zit:=oS (.cons Bt (.nil)) Tryz.func253 Tryz.call253 [] [] 2
def K4(n:gx)(m:List Int)(gg:Int):Tree (List il):=
.br (decide (n.F8<1)) (.lf ([])) (.br (decide (n.F8>128)) (.lf ([])) (.lv (KZ m n.Frame) λ(x0:Bool)=>.br (!x0) (.lf ([])) (.an (OM m (wrap i64 n.Frame)) (.lv (jG m (wrap i64 n.Frame)) λ(x1:List UInt8×Bool)=>.cn (decide ((0:Int)<=(0:Int)/\0<=n.F8/\n.F8<=(x1.1.length:Int))) (.lf ([{C2:=2,At:=gg,C8:=0,F1:=cU (dA n.F8-dA 0) (cV (dA 0) x1.1)}]))))))
def Zf2 n m gg:=(K4 n m gg).m
abbrev Z1c n m gg:=(K4 n m gg).p
def Zrp:ba:=mT 252 [] true [.agg gx.sig,.one (.ints .u32),.one (.int .u64)] [] (λa r=>K4 (gx.of (aC a 0)) (dh .u32 a 1) (au a 2)) (λX=>.sl 4 (.ah .bz X) true) (λX=>[])
theorem Zns:bm pG Zrp:=oT (.cons Qwn (.cons R5 (.nil))) Tryz.func252 Tryz.call252 [.sl (.ah .bz) true] [] 2
def K5(n:gx)(m:List Int)(port v gg:Int):Tree (gx×(List il)):=
.br (port==7) (.lf ({Frame:=v,F8:=n.F8,D1:=n.D1,D3:=n.D3,C4:=n.C4,G0:=n.G0},[])) (.br (port==8) (.lf ({Frame:=n.Frame,F8:=v,D1:=n.D1,D3:=n.D3,C4:=n.C4,G0:=n.G0},[])) (.br (port==9) (.br (v==1) (.an (Z1c n m gg) (.lv (Zf2 n m gg) λ(x0:List il)=>.lf (n,x0))) (.br (v==2) (.lv (KZ m n.Frame) λ(x1:Bool)=>.br x1 (.br (!n.D1) (.br (!n.C4) (.lf ({Frame:=n.Frame,F8:=n.F8,D1:=true,D3:=n.Frame,C4:=n.C4,G0:=n.G0},[])) (.lf (n,[]))) (.lf (n,[]))) (.lf (n,[]))) (.br (v==0) (.lf ({Frame:=n.Frame,F8:=n.F8,D1:=n.D1,D3:=n.D3,C4:=false,G0:=0},[])) (.lf (n,[]))))) (.lf (n,[]))))
def Zf n m port v gg:=(K5 n m port v gg).m
abbrev Z4q n m port v gg:=(K5 n m port v gg).p
def zD:ba:=mT 202 [] true [.agg gx.sig,.one (.ints .u32),.one (.int .i64),.one (.int .u32),.one (.int .u64)] [] (λa r=>K5 (gx.of (aC a 0)) (dh .u32 a 1) (au a 2) (au a 3) (au a 4)) (λX=>.dw [.agg (gx.cells (X.1)),.sl 4 (.ah .bz (X.2)) true]) (λX=>[])
theorem Zt8:bm pG zD:=oT (.cons Zns (.cons Qwn (.nil))) Tryz.func202 Tryz.call202 [.sl (.ah .bz) true] [] 2
def W4(m:List Int)(frame:Int)(s:List UInt8)(z:(Int)×(List Int)):Nat:=(32-z.1).toNat
def IM(m:List Int)(frame:Int)(s:List UInt8):Tree ((List Int)×Bool):=
.an (nW m) (.lv (kA m) λ(x0:List Int)=>.lv (EM m frame) λ(x1:Bool)=>.br (!x1) (.lf (x0,false)) (.br ((s.length:Int) !=(128:Int)) (.lf (x0,false)) (.lp inferInstance (W4 m frame s (0,x0)+1) ((rE (s:List UInt8)/\True/\rE ((wrap i64 (frame*32)):Int)/\rE (0:Int)/\True)/\rE (x0:List Int)/\True) (0,x0) λ(v0:Int×List Int)=>.br (decide (v0.1<32)) (.cn (decide (0<=wrap i64 (4*v0.1)/\wrap i64 (4*v0.1)<=wrap i64 (wrap i64 (4*v0.1)+4)/\wrap i64 (wrap i64 (4*v0.1)+4)<=(s.length:Int))) (let E1:=cU (dA (wrap i64 (wrap i64 (4*v0.1)+4))-dA (wrap i64 (4*v0.1))) (cV (dA (wrap i64 (4*v0.1))) s);.cn (decide ((0:Int)<=(0:Int)/\0<(↑(dF E1):Int))) (.cn (decide ((0:Int)<=(1:Int)/\1<(↑(dF E1):Int))) (.cn (decide ((0:Int)<=(2:Int)/\2<(↑(dF E1):Int))) (.cn (decide ((0:Int)<=(3:Int)/\3<(↑(dF E1):Int))) (.cn (bX 1 1&&bN 0 1&&decide (0<=wrap i64 (wrap i64 (frame*32)+v0.1)/\wrap i64 (wrap i64 (frame*32)+v0.1)<(v0.2.length:Int))) (.nx ((rE (s:List UInt8)/\True/\rE ((wrap i64 (frame*32)):Int)/\rE ((wrap i64 (v0.1+1)):Int)/\True)/\rE ((dB v0.2 (dA (wrap i64 (wrap i64 (frame*32)+v0.1))) (iJ u32 (iJ u32 (iJ u32 (wrap u32 (↑(hZ (aV (cU (dA (wrap i64 (wrap i64 (4*v0.1)+4))-dA (wrap i64 (4*v0.1))) (cV (dA (wrap i64 (4*v0.1))) s)) (dA 0) (0:UInt8))):Int)) (ei u32 (wrap u32 (↑(hZ (aV (cU (dA (wrap i64 (wrap i64 (4*v0.1)+4))-dA (wrap i64 (4*v0.1))) (cV (dA (wrap i64 (4*v0.1))) s)) (dA 1) (0:UInt8))):Int)) 8)) (ei u32 (wrap u32 (↑(hZ (aV (cU (dA (wrap i64 (wrap i64 (4*v0.1)+4))-dA (wrap i64 (4*v0.1))) (cV (dA (wrap i64 (4*v0.1))) s)) (dA 2) (0:UInt8))):Int)) 16)) (ei u32 (wrap u32 (↑(hZ (aV (cU (dA (wrap i64 (wrap i64 (4*v0.1)+4))-dA (wrap i64 (4*v0.1))) (cV (dA (wrap i64 (4*v0.1))) s)) (dA 3) (0:UInt8))):Int)) 24))):List Int)/\True) (Sum.inl (wrap i64 (v0.1+1),dB v0.2 (dA (wrap i64 (wrap i64 (frame*32)+v0.1))) (iJ u32 (iJ u32 (iJ u32 (wrap u32 (↑(hZ (aV E1 (dA 0) (0:UInt8))):Int)) (ei u32 (wrap u32 (↑(hZ (aV E1 (dA 1) (0:UInt8))):Int)) 8)) (ei u32 (wrap u32 (↑(hZ (aV E1 (dA 2) (0:UInt8))):Int)) 16)) (ei u32 (wrap u32 (↑(hZ (aV E1 (dA 3) (0:UInt8))):Int)) 24))))))))))) (.lf (Sum.inr (v0.2,true))))))
def rP m frame s:=(IM m frame s).m
abbrev Uh m frame s:=(IM m frame s).p
def Qzi:cg:={
 α:=(Int)×(List Int)
 F:=λst a=>([(2,(lk st 2)),(8,.all 0),(9,(lk st 9)),(26,.int i64 a.1)],[⟨false,25,1,.ints u32 a.2⟩])
 a0:=λst=>((lk st 26).toInt,(oq st.rows (rN st 8)))
 jl:=λst=>[]++[(rX st 8 0)]}
def Qvn:List (Nat×cg):=[(6,Qzi)]
def Z3c:ba:=mT 205 [] true [.one (.ints .u32),.one (.int .i64),.one (.str)] [] (λa r=>IM (dh .u32 a 0) (au a 1) (jF a 2)) (λX=>.dw [.all 0,.bool (X.2)]) (λX=>[⟨false,25,1,.ints .u32 (X.1)⟩])
theorem Qnu:bm pG Z3c:=oT (.cons Kb (.cons Qms (.nil))) Tryz.func205 Tryz.call205 [.row 25 1 (.ints .u32)] Qvn 3
def strings_Repeat(s:List UInt8)(count:Int):(List UInt8):=
Lib.repeatL s count.toNat
def Qef(s:List UInt8)(count:Int):Prop:=
0<=count/\count<=9223372036854775807/\s.length*count.toNat<=140737488355328
def Qkn(s:List UInt8)(count:Int):List D:=[.str s,.int .i64 count]
def Qk6(s:List UInt8)(count:Int):List Row:=[]
def Qe5(X:List UInt8):D:=.str X
def Qdi(X:List UInt8):List Row:=[]
def Qlv:List PT:=[.one (.str),.one (.int .i64)]
def Qj6:List RT:=[]
def Qw3(args:List D)(rows:List Row):(List UInt8):=strings_Repeat (jF args 0) (au args 1)
def Qx5(args:List D)(rows:List Row):Prop:=Qef (jF args 0) (au args 1)
def Z2g:ba:=lJ 254 [] true Qlv Qj6 Qx5 Qw3 Qe5 Qdi
theorem Qu0(s:List UInt8)(count:Int)(hw:Qef s count):kq pG 254 (Qkn s count) (Qk6 s count) (Qe5 (strings_Repeat s count)) (Qdi (strings_Repeat s count)):=by
 exact yd Tryz.strings_Repeat hw.1 hw.2.1 hw.2.2
set_option maxRecDepth 100000 in
theorem Qvk(args:List D)(rows:List Row):lg Qlv args 0=Qkn (jF args 0) (au args 1):=by kernel_rfl
set_option maxRecDepth 100000 in
theorem Qu3(args:List D)(rows:List Row):ku Qj6 rows 0=Qk6 (jF args 0) (au args 1):=by kernel_rfl
set_option maxRecDepth 100000 in
theorem Qze(X:List UInt8):(tw (Qe5 X)&&jv (Qdi X))=true:=by kernel_rfl
theorem Qzy:bm pG Z2g:=Ga Tryz.call254 (λargs rows hp=>by rw[Qvk args rows,Qu3 args rows];exact Qu0 (jF args 0) (au args 1) hp) (λ_ X=>Qze X)
def DS(b:gm)(m:List Int)(port v:Int):Tree (gm×(List Int)):=
let T1:Tree ((gm×(List Int))):=.an (nW m) (.lv (kA m) λ(x0:List Int)=>.lf (b,x0));.br (decide (v>=32)) T1 (.cn (decide (0<=v)) (.br (port==10) (.lv (jQ m) λ(x1:Int)=>.br (decide (wrap i64 v<x1)) (.br (bb u32 b.D0 (ei u32 1 v)==0) (.an (Qef [(0:UInt8)] 128) (.lv (strings_Repeat [(0:UInt8)] 128) λ(x2:List UInt8)=>.an (Uh m (wrap i64 v) x2) (.lv (rP m (wrap i64 v) x2) λ(x3:List Int×Bool)=>.lf ({A2:=b.A2,D0:=iJ u32 b.D0 (ei u32 1 v)},x3.1)))) T1) T1) (.br (port==11) (.an (nW m) (.lv (kA m) λ(x6:List Int)=>.lf ({A2:=b.A2,D0:=oR u32 b.D0 (ei u32 1 v)},x6))) T1)))
def G9 b m port v:=(DS b m port v).m
abbrev Qre b m port v:=(DS b m port v).p
def Zfq:ba:=mT 203 [] true [.agg gm.sig,.one (.ints .u32),.one (.int .i64),.one (.int .u32)] [] (λa r=>DS (gm.of (aC a 0)) (dh .u32 a 1) (au a 2) (au a 3)) (λX=>.dw [.agg (gm.cells (X.1)),.all 0]) (λX=>[⟨false,25,1,.ints .u32 (X.2)⟩])
theorem Z98:bm pG Zfq:=oT (.cons Kb (.cons Bt (.cons Qnu (.cons Qzy (.nil))))) Tryz.func203 Tryz.call203 [.row 25 1 (.ints .u32)] [] 2
def K7(m:bc)(port v gg:Int):Tree (bc×(List il)):=
.br (port==0) (.lf (m,[{C2:=1,At:=gg,C8:=0,F1:=[(λ(n:Int)=>UInt8.ofNat n.toNat) (wrap u8 v)]}])) (.br (port==3) (.lv (N2 m.B9 v) λ(x0:iV)=>.lf ({B4:=m.B4,Mem:=m.Mem,B2:=m.B2,B9:=x0,B7:=m.B7,D2:=m.D2,A7:=m.A7,B6:=m.B6,B3:=m.B3,B5:=m.B5},[])) (let T1:Tree ((bc×(List il))):=.an (Z1m m.B7 m.Mem port v gg) (.lv (XH m.B7 m.Mem port v gg) λ(x1:fx×List il)=>.lf ({B4:=m.B4,Mem:=m.Mem,B2:=m.B2,B9:=m.B9,B7:=x1.1,D2:=m.D2,A7:=m.A7,B6:=m.B6,B3:=m.B3,B5:=m.B5},x1.2));.br (port==4) T1 (.br (port==5) T1 (.br (port==6) T1 (let T2:Tree ((bc×(List il))):=.an (Z4q m.D2 m.Mem port v gg) (.lv (Zf m.D2 m.Mem port v gg) λ(x4:gx×List il)=>.lf ({B4:=m.B4,Mem:=m.Mem,B2:=m.B2,B9:=m.B9,B7:=m.B7,D2:=x4.1,A7:=m.A7,B6:=m.B6,B3:=m.B3,B5:=m.B5},x4.2));.br (port==7) T2 (.br (port==8) T2 (.br (port==9) T2 (let T3:Tree ((bc×(List il))):=.an (Qre m.A7 m.Mem port v) (.lv (G9 m.A7 m.Mem port v) λ(x7:gm×List Int)=>.lf ({B4:=m.B4,Mem:=x7.2,B2:=m.B2,B9:=m.B9,B7:=m.B7,D2:=m.D2,A7:=x7.1,B6:=m.B6,B3:=m.B3,B5:=m.B5},[]));.br (port==10) T3 (.br (port==11) T3 (.lf (m,[])))))))))))
def Fc m port v gg:=(K7 m port v gg).m
abbrev Qgf m port v gg:=(K7 m port v gg).p
def Qv8:ba:=ba.fz<|lJ 139 [] false [.agg bc.sig,.one (.int .i64),.one (.int .u32),.one (.int .u64)] [] (λa r=>Qgf (bc.of (aC a 0)) (au a 1) (au a 2) (au a 3)) (λa r=>Fc (bc.of (aC a 0)) (au a 1) (au a 2) (au a 3)) (λX=>.dw [.agg (bc.cells (X.1)),.sl 4 (.ah .bz (X.2)) true]) (λX=>[])
theorem Qty:bm pG Qv8:=wZ<|wc drawn jB (.cons Zii (.cons Zmx (.cons Zt8 (.cons Z98 (.nil))))) Tryz.func139 Tryz.call139 (λa r=>K7 (bc.of (aC a 0)) (au a 1) (au a 2) (au a 3)) [.sl (.ints .u32) false,.sl (.ah .bz) true] [] 2 (λ_ _ _=>by kernel_rfl) (λ_ _=>rfl) (λ_ _ h=>h) (λh=>by cases h)
def Oa(m:bc)(clock:Int):Tree (bc×(List il)):=
.an (nW m.Mem) (.lv (kA m.Mem) λ(x0:List Int)=>let E1:=({B4:=m.B4,Mem:=x0,B2:=m.B2,B9:=m.B9,B7:=m.B7,D2:=m.D2,A7:=m.A7,B6:=m.B6,B3:=m.B3,B5:=m.B5}:bc);.an (Qpv E1) (.lv (EV E1) λ(x1:Bool)=>.br (!x1) (.lf (E1,[])) (.an (Qnb E1) (.lv (pn E1) λ(x2:bc)=>.an (Z1p x2.B4 x2.Mem) (.lv (Cq x2.B4 x2.Mem) λ(x3:bq×List Int×lK)=>let E2:=({B4:=x3.1,Mem:=x3.2.1,B2:=x2.B2,B9:=x2.B9,B7:=x2.B7,D2:=x2.D2,A7:=x2.A7,B6:=x2.B6,B3:=x2.B3,B5:=x2.B5}:bc);.br (x3.2.2.C2==1) (.an (Qi6 E2 x3.2.2.D8 clock) (.lv (uA E2 x3.2.2.D8 clock) λ(x4:bc×Int)=>.br (x3.2.2.F9 !=0) (.cn (bN 0 1&&decide (0<=x3.2.2.F9/\x3.2.2.F9<(↑16:Int))) (.lf ({B4:={X:=iv.of 0 (dB (iv.l x4.1.B4.X) x3.2.2.F9.toNat x4.2),Pc:=x4.1.B4.Pc,C3:=x4.1.B4.C3},Mem:=x4.1.Mem,B2:=x4.1.B2,B9:=x4.1.B9,B7:=x4.1.B7,D2:=x4.1.D2,A7:=x4.1.A7,B6:=wrap u64 (x4.1.B6+1),B3:=x4.1.B3,B5:=x4.1.B5},[]))) (.lf ({B4:=x4.1.B4,Mem:=x4.1.Mem,B2:=x4.1.B2,B9:=x4.1.B9,B7:=x4.1.B7,D2:=x4.1.D2,A7:=x4.1.A7,B6:=wrap u64 (x4.1.B6+1),B3:=x4.1.B3,B5:=x4.1.B5},[])))) (.br (x3.2.2.C2==2) (.an (Qgf E2 x3.2.2.D8 x3.2.2.Value m.B6) (.lv (Fc E2 x3.2.2.D8 x3.2.2.Value m.B6) λ(x5:bc×List il)=>.lf ({B4:=x5.1.B4,Mem:=x5.1.Mem,B2:=x5.1.B2,B9:=x5.1.B9,B7:=x5.1.B7,D2:=x5.1.D2,A7:=x5.1.A7,B6:=wrap u64 (x5.1.B6+1),B3:=x5.1.B3,B5:=x5.1.B5},x5.2))) (.br (x3.2.2.C2==3) (.lf ({B4:=x3.1,Mem:=x3.2.1,B2:=x2.B2,B9:=x2.B9,B7:=x2.B7,D2:=x2.D2,A7:=x2.A7,B6:=wrap u64 (x2.B6+1),B3:=true,B5:=x2.B5},[])) (.br (x3.2.2.C2==4) (.lf ({B4:=x3.1,Mem:=x3.2.1,B2:=x2.B2,B9:=x2.B9,B7:=x2.B7,D2:=x2.D2,A7:=x2.A7,B6:=wrap u64 (x2.B6+1),B3:=x2.B3,B5:=true},[])) (.lf ({B4:=x3.1,Mem:=x3.2.1,B2:=x2.B2,B9:=x2.B9,B7:=x2.B7,D2:=x2.D2,A7:=x2.A7,B6:=wrap u64 (x2.B6+1),B3:=x2.B3,B5:=x2.B5},[]))))))))))
def Eb m clock:=(Oa m clock).m
abbrev Ud m clock:=(Oa m clock).p
def Zak:ba:=ba.fz<|lJ 92 [] false [.agg bc.sig,.one (.int .u32)] [] (λa r=>Ud (bc.of (aC a 0)) (au a 1)) (λa r=>Eb (bc.of (aC a 0)) (au a 1)) (λX=>.dw [.agg (bc.cells (X.1)),.sl 4 (.ah .bz (X.2)) false]) (λX=>[])
theorem Z4y:bm pG Zak:=wZ<|wc drawn jB (.cons Kb (.cons Z8c (.cons Z2m (.cons Zob (.cons Qvg (.cons Qty (.nil))))))) Tryz.func92 Tryz.call92 (λa r=>Oa (bc.of (aC a 0)) (au a 1)) [.sl (.ints .u32) false,.sl (.ah .bz) false] [] 2 (λ_ _ _=>by kernel_rfl) (λ_ _=>rfl) (λ_ _ h=>h) (λh=>by cases h)
end
noncomputable section
def Z56(op:Int):Tree Int:=
let T1:Tree (Int):=.br (op==49) (.lf 3) (let T2:Tree (Int):=.br (op==24) (.lf 6) (.br (op==48) (.lf 7) (.br (op==58) (.lf 8) (.br (op==59) (.lf 8) (.br (op==60) (.lf 9) (.br (op==61) (.lf 9) (.br (op==56) (.lf 1) (.br (op==57) (.lf 1) (.br (decide (op>=62)) (.br (decide (op<=64)) (.lf 1) (.lf 0)) (.lf 0)))))))));.br (decide (op>=17)) (.br (decide (op<=19)) (.lf 4) (.br (decide (op>=20)) (.br (decide (op<=22)) (.lf 5) T2) T2)) (.br (decide (op>=20)) (.br (decide (op<=22)) (.lf 5) T2) T2));let T3:Tree (Int):=.br (op==16) (.lf 3) (.br (op==23) (.lf 3) (.br (decide (op>=32)) (.br (decide (op<=36)) (.lf 3) (.br (decide (op>=40)) (.br (decide (op<=45)) (.lf 3) T1) T1)) (.br (decide (op>=40)) (.br (decide (op<=45)) (.lf 3) T1) T1)));.br (decide (op>=1)) (.br (decide (op<=13)) (.lf 2) T3) T3
def oU op:=(Z56 op).m
def Zmo:ba:=mS 178 [] true [.one (.int .i64)] [] (λa r=>Z56 (au a 0)) (λX=>.int .i64 X) (λX=>[])
theorem R6:bm pG Zmo:=oS (.nil) Tryz.func178 Tryz.call178 [] [] 2
def Tq(r:Int):Tree Bool:=
.br (decide (r>=0)) (.lf (decide (r<=15))) (.lf false)
def Lj r:=(Tq r).m
def Z7b:ba:=mS 233 [] true [.one (.int .i64)] [] (λa r=>Tq (au a 0)) (λX=>.bool X) (λX=>[])
theorem Z39:bm pG Z7b:=oS (.nil) Tryz.func233 Tryz.call233 [] [] 2
def Xh(f:Int):Tree (Int×Int):=
.br (f==3) (.lf ((-32768),32767)) (.br (f==7) (.lf ((-32768),32767)) (.br (f==4) (.lf (0,65535)) (.br (f==6) (.lf (0,65535)) (.br (f==5) (.lf (0,31)) (.br (f==8) (.lf (0,7)) (.br (f==9) (.lf (0,11)) (.lf (0,0))))))))
def Xg f:=(Xh f).m
def Zdt:ba:=mS 179 [] true [.one (.int .i64)] [] (λa r=>Xh (au a 0)) (λX=>.dw [.int .i64 (X.1),.int .i64 (X.2)]) (λX=>[])
theorem Quw:bm pG Zdt:=oS (.nil) Tryz.func179 Tryz.call179 [] [] 2
def Of(i:gw):Tree Bool:=
.lv (oU i.Op) λ(x0:Int)=>.br (x0==0) (.lf false) (.lv (Lj i.A) λ(x1:Bool)=>.br (!x1) (.lf false) (.lv (Lj i.B) λ(x2:Bool)=>.br (!x2) (.lf false) (.lv (Lj i.C) λ(x3:Bool)=>.br (!x3) (.lf false) (.lv (Xg x0) λ(x4:Int×Int)=>.br (decide (wrap i64 i.bw<x4.1)) (.lf false) (.br (decide (wrap i64 i.bw>x4.2)) (.lf false) (let T1:Tree (Bool):=.br (x0==1) (.br (i.A !=0) (.lf false) (.br (i.B==0) (.lf true) (.br (decide (x0>=2)) (.lf (decide (x0<=5))) (.lf false)))) (.br (i.B==0) (.lf true) (.br (decide (x0>=2)) (.lf (decide (x0<=5))) (.lf false)));.br (x0 !=2) (.br (i.C !=0) (.lf false) T1) T1))))))
def EY i:=(Of i).m
def Zld:ba:=mS 177 [] true [.agg gw.sig] [] (λa r=>Of (gw.of (aC a 0))) (λX=>.bool X) (λX=>[])
theorem Qwj:bm pG Zld:=oS (.cons R6 (.cons Z39 (.cons Quw (.nil)))) Tryz.func177 Tryz.call177 [] [] 2
def S6(i:gw):Tree (Int×Bool):=
.lv (EY i) λ(x0:Bool)=>.br (!x0) (.lf (0,false)) (.lf (iJ u32 (iJ u32 (iJ u32 (iJ u32 (ei u32 (wrap u32 i.Op) 24) (ei u32 (wrap u32 i.A) 20)) (ei u32 (wrap u32 i.B) 16)) (bb u32 (wrap u32 i.bw) 65535)) (wrap u32 i.C),true))
def oQ i:=(S6 i).m
def Zde:ba:=mS 125 [] true [.agg gw.sig] [] (λa r=>S6 (gw.of (aC a 0))) (λX=>.dw [.int .u32 (X.1),.bool (X.2)]) (λX=>[])
theorem Qmb:bm pG Zde:=oS (.cons Qwj (.nil)) Tryz.func125 Tryz.call125 [] [] 2
def Zc8:Tree (List Int):=
.lf ([1,2,3,4,5,6,7,8,9,10,11,12,13,16,16,17,18,19,20,21,22,23,24,24,32,32,33,34,35,35,36,40,41,42,43,44,45,48,49,56,57,58,59,60,60,61,61,62,63,64])
def Zfw:(List Int):=(Zc8).m
def Zr1:ba:=mS 180 [] true [] [] (λa r=>Zc8) (λX=>.sl 1 (.ints .i64 X) true) (λX=>[])
theorem Znf:bm pG Zr1:=oS (.nil) Tryz.func180 Tryz.call180 [.sl (.ints .i64) true] [] 2
def Z7f(DE:Int):Tree (Int×Int):=
let E1:=wrap u64 (rG u64 (wrap u64 (DE+11400714819323198485)) (bj u64 (wrap u64 (DE+11400714819323198485)) 30)*13787848793156543929);let E2:=wrap u64 (rG u64 E1 (bj u64 E1 27)*10723151780598845931);.lf (rG u64 E2 (bj u64 E2 31),wrap u64 (DE+11400714819323198485))
def Zja DE:=(Z7f DE).m
def Zm3:ba:=mS 89 [] true [.one (.int .u64)] [] (λa r=>Z7f (au a 0)) (λX=>.dw [.int .u64 (X.1),.int .u64 (X.2)]) (λX=>[])
theorem Zhw:bm pG Zm3:=oS (.nil) Tryz.func89 Tryz.call89 [] [] 2
def Zbb(n k:Int):Tree Int:=
.lv (Zja (rG u64 (wrap u64 n) (wrap u64 (wrap u64 k*11400714819323198485)))) λ(x0:Int×Int)=>.lf (wrap i64 (bj u64 x0.1 1))
def Zdc n k:=(Zbb n k).m
def Zsu:ba:=mS 42 [] true [.one (.int .i64),.one (.int .i64)] [] (λa r=>Zbb (au a 0) (au a 1)) (λX=>.int .i64 X) (λX=>[])
theorem Z5c:bm pG Zsu:=oS (.cons Zhw (.nil)) Tryz.func42 Tryz.call42 [] [] 2
def Qs0(n k:Int):Tree Int:=
.cn (decide (k≠0)) (.br (decide (cZ n k<0)) (.lf (wrap i64 (cZ n k+k))) (.lf (cZ n k)))
def CE n k:=(Qs0 n k).m
abbrev HU n k:=(Qs0 n k).p
def Zim:ba:=mT 28 [] true [.one (.int .i64),.one (.int .i64)] [] (λa r=>Qs0 (au a 0) (au a 1)) (λX=>.int .i64 X) (λX=>[])
theorem Qp7:bm pG Zim:=oT (.nil) Tryz.func28 Tryz.call28 [] [] 2
def Vu(n:Int):Tree gw:=
.lv Zfw λ(x0:List Int)=>.lv (Zdc n 1) λ(x1:Int)=>.an (HU x1 (x0.length:Int)) (.lv (CE x1 (x0.length:Int)) λ(x2:Int)=>.cn (bX 1 1&&bN 0 1&&decide (0<=x2/\x2<(x0.length:Int))) (.an (HU (bj i64 x1 8) 6) (.lv (CE (bj i64 x1 8) 6) λ(x3:Int)=>.an (HU (bj i64 x1 12) 6) (.lv (CE (bj i64 x1 12) 6) λ(x4:Int)=>.an (HU (bj i64 x1 16) 6) (.lv (CE (bj i64 x1 16) 6) λ(x5:Int)=>.an (HU (bj i64 x1 20) 24) (.lv (CE (bj i64 x1 20) 24) λ(x6:Int)=>.br (decide (x0.getD x2.toNat (0:Int)<=(13:Int))) (.lf ({Op:=x0.getD x2.toNat 0,A:=x3,B:=x4,C:=x5,bw:=0})) (let E4:=({Op:=x0.getD x2.toNat 0,A:=x3,B:=x4,C:=0,bw:=wrap i32 (wrap i64 (wrap i64 (8*x6)-32))}:gw);let T1:Tree (gw):=.br (x0.getD x2.toNat (0:Int)==(49:Int)) (.lf (E4)) (.br (x0.getD x2.toNat (0:Int)==(24:Int)) (.lf ({Op:=x0.getD x2.toNat 0,A:=x3,B:=0,C:=0,bw:=wrap i32 (wrap i64 (x6*bb i64 (bj i64 x1 40) 1))})) (let T2:Tree (gw):=let E6:=({Op:=x0.getD x2.toNat 0,A:=x3,B:=0,C:=0,bw:=wrap i32 (cZ x6 8)}:gw);.br (x0.getD x2.toNat (0:Int)==(58:Int)) (.lf (E6)) (.br (x0.getD x2.toNat (0:Int)==(59:Int)) (.lf (E6)) (let E5:=({Op:=x0.getD x2.toNat 0,A:=x3,B:=0,C:=0,bw:=wrap i32 (cZ x6 12)}:gw);.br (x0.getD x2.toNat (0:Int)==(60:Int)) (.lf (E5)) (.br (x0.getD x2.toNat (0:Int)==(61:Int)) (.lf (E5)) (.lf ({Op:=x0.getD x2.toNat 0,A:=0,B:=0,C:=0,bw:=0})))));.br (decide (x0.getD x2.toNat (0:Int)>=(17:Int))) (.br (decide (x0.getD x2.toNat (0:Int)<=(22:Int))) (.lf ({Op:=x0.getD x2.toNat 0,A:=x3,B:=x4,C:=0,bw:=wrap i32 x6})) T2) T2));let T3:Tree (gw):=.br (x0.getD x2.toNat (0:Int)==(16:Int)) (.lf (E4)) (.br (x0.getD x2.toNat (0:Int)==(23:Int)) (.lf (E4)) (.br (decide (x0.getD x2.toNat (0:Int)>=(32:Int))) (.br (decide (x0.getD x2.toNat (0:Int)<=(36:Int))) (.lf (E4)) T1) T1));.br (decide (x0.getD x2.toNat (0:Int)>=(40:Int))) (.br (decide (x0.getD x2.toNat (0:Int)<=(48:Int))) (.br (x0.getD x2.toNat (0:Int)==(48:Int)) (.lf ({Op:=x0.getD x2.toNat 0,A:=x3,B:=0,C:=0,bw:=wrap i32 (wrap i64 (x6-12))})) (.lf ({Op:=x0.getD x2.toNat 0,A:=x3,B:=x4,C:=0,bw:=wrap i32 (wrap i64 (x6-12))}))) T3) T3)))))))
def Zhh n:=(Vu n).m
abbrev Qig n:=(Vu n).p
def Zmc:ba:=mT 127 [] true [.one (.int .i64)] [] (λa r=>Vu (au a 0)) (λX=>.agg (gw.cells X)) (λX=>[])
theorem Zkw:bm pG Zmc:=oT (.cons Znf (.cons Z5c (.cons Qp7 (.nil)))) Tryz.func127 Tryz.call127 [] [] 2
def Qum(l:List Int)(z:(Int)×(List Int)):Prop:=0<=z.1/\z.1<=l.length/\(z.2.length:Int)=z.1
def S7(l:List Int)(z:(Int)×(List Int)):Nat:=(l.length-z.1).toNat
def Nz(l:List Int):Tree (List Int):=
.lp inferInstance (S7 l (0,[])+1) ((((ai.Nil (ai.ints i64 l)\/rE (1:Nat))/\rE (l:List Int))/\True/\rE (0:Int)/\True)/\rE ([]:List Int)/\True) (0,[]) λ(v0:Int×List Int)=>.br (decide (v0.1<(l.length:Int))) (let E1:=bX 1 1&&bN 0 1&&decide (0<=v0.1/\v0.1<(l.length:Int));.cn E1 (let E2:=decide (4*(v0.2.length+1)<=140737488355328);.br (cZ (l.getD v0.1.toNat 0) (17:Int)==(0:Int)) (.cn E1 (.cn E2 (.nx ((((ai.Nil (ai.ints i64 l)\/rE (1:Nat))/\rE (l:List Int))/\True/\rE ((wrap i64 (v0.1+1)):Int)/\True)/\rE ((v0.2++[wrap u32 (bb i64 (l.getD v0.1.toNat 0) 4294967295)]):List Int)/\True) (Sum.inl (wrap i64 (v0.1+1),v0.2++[wrap u32 (bb i64 (l.getD v0.1.toNat 0) 4294967295)]))))) (.cn E1 (.an (Qig (l.getD v0.1.toNat 0)) (.lv (Zhh (l.getD v0.1.toNat 0)) λ(x0:gw)=>.lv (oQ x0) λ(x1:Int×Bool)=>.cn E2 (.nx ((((ai.Nil (ai.ints i64 l)\/rE (1:Nat))/\rE (l:List Int))/\True/\rE ((wrap i64 (v0.1+1)):Int)/\True)/\rE ((v0.2++[x1.1]):List Int)/\True) (Sum.inl (wrap i64 (v0.1+1),v0.2++[x1.1])))))))) (.lf (Sum.inr v0.2))
def Uc l:=(Nz l).m
abbrev Qom l:=(Nz l).p
def Zic:cg:={
 α:=(Int)×(List Int)
 F:=λst a=>([(0,(lk st 0)),(3,.all 0),(4,.int i64 a.1)],[⟨false,25,1,.ints u32 a.2⟩])
 a0:=λst=>((lk st 4).toInt,(oq st.rows (rN st 3)))
 jl:=λst=>[]++[(rX st 3 0)]}
def Z92:List (Nat×cg):=[(3,Zic)]
def Zo2:ba:=mT 78 [] true [.one (.ints .i64)] [] (λa r=>Nz (dh .i64 a 0)) (λX=>.all 0) (λX=>[⟨false,25,1,.ints .u32 X⟩])
theorem Zk7:bm pG Zo2:=oT (.cons Qmb (.cons Zkw (.nil))) Tryz.func78 Tryz.call78 [.row 25 1 (.ints .u32)] Z92 3
def Ta(pc:Int):Tree bq:=
.lf ({X:={a0:=0,a1:=0,a2:=0,a3:=0,a4:=0,a5:=0,a6:=0,a7:=0,a8:=0,a9:=0,kJ:=0,kK:=0,a12:=0,kL:=0,kM:=0,kN:=0},Pc:=pc,C3:={a0:=1,a1:=0,a2:=0,a3:=0,a4:=0,a5:=0,a6:=0,a7:=0}})
def WW pc:=(Ta pc).m
def Ziw:ba:=mS 128 [] true [.one (.int .u32)] [] (λa r=>Ta (au a 0)) (λX=>.agg (bq.cells X)) (λX=>[])
theorem Zg7:bm pG Ziw:=oS (.nil) Tryz.func128 Tryz.call128 [] [] 2
def RQ(bh:Int):Tree (List Int):=
.br (decide (bh<1)) (.lf ([])) (.br (decide (bh>32)) (.lf ([])) (.cn (bN 0 1&&bX 1 1&&List.all [D.int u32 0] D.plain&&decide (0<=wrap i64 (bh*32)/\wrap i64 (bh*32)<=wrap i64 (bh*32)/\wrap i64 (bh*32)<=9223372036854775807/\(↑4:Int)*wrap i64 (bh*32)<=140737488355328)) (.lf (List.replicate (dA (wrap i64 (bh*32))) 0))))
def Tb bh:=(RQ bh).m
abbrev Qm4 bh:=(RQ bh).p
def Zqy:ba:=mT 38 [] true [.one (.int .i64)] [] (λa r=>RQ (au a 0)) (λX=>.all 0) (λX=>[⟨false,25,1,.ints .u32 X⟩])
theorem Zoa:bm pG Zqy:=oT (.nil) Tryz.func38 Tryz.call38 [.row 25 1 (.ints .u32)] [] 2
def GP(bh blocks:Int)(image:List Int):Tree (bc×Bool):=
let T1:Tree ((bc×Bool)):=.lf ({B4:={X:={a0:=0,a1:=0,a2:=0,a3:=0,a4:=0,a5:=0,a6:=0,a7:=0,a8:=0,a9:=0,kJ:=0,kK:=0,a12:=0,kL:=0,kM:=0,kN:=0},Pc:=0,C3:={a0:=0,a1:=0,a2:=0,a3:=0,a4:=0,a5:=0,a6:=0,a7:=0}},Mem:=[],B2:={D9:=[]},B9:={F2:=false,D4:=0,E0:=false},B7:={ae:=0,C8:=0,Frame:=0,C7:=0,F7:=0,C5:=0,C6:=0,C9:=[]},D2:={Frame:=0,F8:=0,D1:=false,D3:=0,C4:=false,G0:=0},A7:={A2:=0,D0:=0},B6:=0,B3:=false,B5:=false},false);.br (decide (bh<1)) T1 (.br (decide (bh>32)) T1 (.br (decide (blocks<0)) T1 (.br (decide (blocks>64)) T1 (.br (decide ((image.length:Int)>wrap i64 (bh*32))) T1 (.lv (WW 0) λ(x0:bq)=>.an (Qm4 bh) (.lv (Tb bh) λ(x1:List Int)=>.lf ({B4:=x0,Mem:=cU (Min.min (image.length) (x1.length)) image++cV (Min.min (image.length) (x1.length)) x1,B2:={D9:=[]},B9:={F2:=false,D4:=0,E0:=false},B7:={ae:=wrap u32 blocks,C8:=0,Frame:=0,C7:=0,F7:=0,C5:=0,C6:=0,C9:=[]},D2:={Frame:=0,F8:=0,D1:=false,D3:=0,C4:=false,G0:=0},A7:={A2:=0,D0:=0},B6:=0,B3:=false,B5:=false},true)))))))
def lr bh blocks image:=(GP bh blocks image).m
abbrev VE bh blocks image:=(GP bh blocks image).p
def Zqo:ba:=mT 79 [] true [.one (.int .i64),.one (.int .i64),.one (.ints .u32)] [] (λa r=>GP (au a 0) (au a 1) (dh .u32 a 2)) (λX=>.dw [.agg (bc.cq (X.1) (.all 0)),.bool (X.2)]) (λX=>[⟨false,25,1,.ints .u32 (X.1).Mem⟩])
theorem Znz:bm pG Zqo:=oT (.cons Zg7 (.cons Zoa (.nil))) Tryz.func79 Tryz.call79 [.row 25 1 (.ints .u32)] [] 2
def Qk8(a b:List Int)(z:(Int)):Prop:=0<=z/\z<=a.length/\a.length=b.length
def Jq(a b:List Int)(z:(Int)):Nat:=(a.length-z).toNat
def Jp(a b:List Int):Tree Bool:=
.br ((a.length:Int) !=(b.length:Int)) (.lf false) (.lp inferInstance (Jq a b 0+1) ((((ai.Nil (ai.ints u32 a)\/rE (1:Nat))/\rE (a:List Int))/\((ai.Nil (ai.ints u32 b)\/rE (1:Nat))/\rE (b:List Int))/\rE (0:Int)/\True)/\True) 0 λ(v0:Int)=>.br (decide (v0<(a.length:Int))) (.cn (bX 1 1&&bN 0 1&&decide (0<=v0/\v0<(a.length:Int))) (.cn (bX 1 1&&bN 0 1&&decide (0<=v0/\v0<(b.length:Int))) (.br (a.getD v0.toNat 0 !=b.getD v0.toNat 0) (.lf (Sum.inr false)) (.nx ((((ai.Nil (ai.ints u32 a)\/rE (1:Nat))/\rE (a:List Int))/\((ai.Nil (ai.ints u32 b)\/rE (1:Nat))/\rE (b:List Int))/\rE ((wrap i64 (v0+1)):Int)/\True)/\True) (Sum.inl (wrap i64 (v0+1))))))) (.lf (Sum.inr true)))
def PC a b:=(Jp a b).m
def VF(a b:List Int):Prop:=
a.length<=1000000000000
theorem Qww(a b:List Int)(hw:VF a b):(Jp a b).p:=by
 simp only[VF]at hw
 unfold Tree.p Jp
 repeat'(first|refine fj (inv:=Qk8 a b) (μ:=Jq a b) ?_ (cN _) (λ_ _=>?_)|exact trivial|refine ab (λ_=>?_) (λ_=>?_)|refine aw ?_ ?_|refine c8 ?_ ?_|refine aq (λ_ _=>?_)|refine ep ?_|refine bg ?_|refine And.intro ?_ ?_)
 all_goals((try simp only[Qk8,Jq]at*);exact nQ)
def Z0f:cg:={
 α:=(Int)
 F:=λst a=>([(0,(lk st 0)),(1,(lk st 1)),(5,.int i64 a)],[])
 a0:=λst=>(lk st 5).toInt
 jl:=λst=>[]++[]}
def Qvf:List (Nat×cg):=[(4,Z0f)]
def Z2q:ba:=lJ 67 [] true [.one (.ints .u32),.one (.ints .u32)] [] (λa r=>VF (dh .u32 a 0) (dh .u32 a 1)) (λa r=>PC (dh .u32 a 0) (dh .u32 a 1)) (λX=>.bool X) (λX=>[])
theorem Z0a:bm pG Z2q:=wc drawn jB (.nil) Tryz.func67 Tryz.call67 (λa r=>Jp (dh .u32 a 0) (dh .u32 a 1)) [] Qvf 3 (hp:=λa r h=>Qww (dh .u32 a 0) (dh .u32 a 1) h)
def PB(a b:bc):Tree Bool:=
.br (eqs [D.int u32 a.B4.X.a0,D.int u32 a.B4.X.a1,D.int u32 a.B4.X.a2,D.int u32 a.B4.X.a3,D.int u32 a.B4.X.a4,D.int u32 a.B4.X.a5,D.int u32 a.B4.X.a6,D.int u32 a.B4.X.a7,D.int u32 a.B4.X.a8,D.int u32 a.B4.X.a9,D.int u32 a.B4.X.kJ,D.int u32 a.B4.X.kK,D.int u32 a.B4.X.a12,D.int u32 a.B4.X.kL,D.int u32 a.B4.X.kM,D.int u32 a.B4.X.kN,D.int u32 a.B4.Pc,D.int u32 a.B4.C3.a0,D.int u32 a.B4.C3.a1,D.int u32 a.B4.C3.a2,D.int u32 a.B4.C3.a3,D.int u32 a.B4.C3.a4,D.int u32 a.B4.C3.a5,D.int u32 a.B4.C3.a6,D.int u32 a.B4.C3.a7] [D.int u32 b.B4.X.a0,D.int u32 b.B4.X.a1,D.int u32 b.B4.X.a2,D.int u32 b.B4.X.a3,D.int u32 b.B4.X.a4,D.int u32 b.B4.X.a5,D.int u32 b.B4.X.a6,D.int u32 b.B4.X.a7,D.int u32 b.B4.X.a8,D.int u32 b.B4.X.a9,D.int u32 b.B4.X.kJ,D.int u32 b.B4.X.kK,D.int u32 b.B4.X.a12,D.int u32 b.B4.X.kL,D.int u32 b.B4.X.kM,D.int u32 b.B4.X.kN,D.int u32 b.B4.Pc,D.int u32 b.B4.C3.a0,D.int u32 b.B4.C3.a1,D.int u32 b.B4.C3.a2,D.int u32 b.B4.C3.a3,D.int u32 b.B4.C3.a4,D.int u32 b.B4.C3.a5,D.int u32 b.B4.C3.a6,D.int u32 b.B4.C3.a7]) (.an (VF a.Mem b.Mem) (.lv (PC a.Mem b.Mem) λ(x0:Bool)=>.br x0 (.br (eqs [D.str a.B2.D9] [D.str b.B2.D9]) (.br (eqs [D.bool a.B9.F2,D.int u32 a.B9.D4,D.bool a.B9.E0] [D.bool b.B9.F2,D.int u32 b.B9.D4,D.bool b.B9.E0]) (.br (eqs [D.int u32 a.B7.ae,D.int u32 a.B7.C8,D.int u32 a.B7.Frame,D.int i64 a.B7.C7,D.int i64 a.B7.F7,D.int u32 a.B7.C5,D.int u32 a.B7.C6,D.str a.B7.C9] [D.int u32 b.B7.ae,D.int u32 b.B7.C8,D.int u32 b.B7.Frame,D.int i64 b.B7.C7,D.int i64 b.B7.F7,D.int u32 b.B7.C5,D.int u32 b.B7.C6,D.str b.B7.C9]) (.br (eqs [D.int u32 a.D2.Frame,D.int u32 a.D2.F8,D.bool a.D2.D1,D.int u32 a.D2.D3,D.bool a.D2.C4,D.int u32 a.D2.G0] [D.int u32 b.D2.Frame,D.int u32 b.D2.F8,D.bool b.D2.D1,D.int u32 b.D2.D3,D.bool b.D2.C4,D.int u32 b.D2.G0]) (.br (eqs [D.int u32 a.A7.A2,D.int u32 a.A7.D0] [D.int u32 b.A7.A2,D.int u32 b.A7.D0]) (.br (a.B6==b.B6) (.br (a.B3==b.B3) (.lf (a.B5==b.B5)) (.lf false)) (.lf false)) (.lf false)) (.lf false)) (.lf false)) (.lf false)) (.lf false)) (.lf false))) (.lf false)
def Zj7 a b:=(PB a b).m
abbrev Qo8 a b:=(PB a b).p
def Znx:ba:=mT 24 [] true [.agg bc.sig,.agg bc.sig] [] (λa r=>PB (bc.of (aC a 0)) (bc.of (aC a 1))) (λX=>.bool X) (λX=>[])
theorem Zjp:bm pG Znx:=oT (.cons Z0a (.nil)) Tryz.func24 Tryz.call24 [] [] 2
