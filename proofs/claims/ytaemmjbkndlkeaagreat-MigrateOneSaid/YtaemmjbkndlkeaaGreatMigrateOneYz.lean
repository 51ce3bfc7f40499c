import Derived.Test.YtaemmjbkndlkeaaGreatMigrateOneFh
import Derived.Test.YtaemmjbkndlkeaaGreatMigrateOneYx
open List renaming take->cU,drop->cV,length->dF,set->dB,getD->aV
open Int renaming toNat->dA,tmod->cZ
open UInt8 renaming toNat->hY
open Nat renaming blt->bN,beq->bX,lt_succ_self->cN
set_option maxRecDepth 100000
set_option linter.all false
namespace Go.Proofs.YtaemmjbkndlkeaaGreat
open Go Go.GD Go.IntKind
noncomputable section
def Ij(m:bd):Tree Bool:=
.an (UR m) (.lv (AG m) λ(x0:Bool)=>.br x0 (.br (!m.B5) (.an (Qpi m) (.lv (SG m) λ(x1:Bool)=>.br (!x1) (.lf (decide (m.B6<1152921504606846976))) (.lf false))) (.lf false)) (.lf false))
def Eo m:=(Ij m).m
abbrev Qps m:=(Ij m).p
def Z9:ba:=mT 135 [] true [.agg bd.sig] [] (λa r=>Ij (bd.of (aC a 0))) (λX=>.bool X) (λX=>[])
theorem Z77:bm pG Z9:=oT (.cons Qud (.cons Z40 (.nil))) Tryz.func135 Tryz.call135 [] [] 2
def Qjc(m:bd)(z:(Int)):Nat:=(5-z).toNat
def KH(m:bd):Tree bd:=
let E1:=({B4:=m.B4,Mem:=m.Mem,B1:=m.B1,B8:=m.B8,B7:=m.B7,D2:=m.D2,A6:=m.A6,B6:=m.B6,B2:=false,B5:=m.B5}:bd);.br (bb u32 m.B4.C3.a0 (2:Int)==(0:Int)) (.lf (E1)) (.an (Qci E1) (.lv (Lh E1) λ(x0:Int)=>.lp inferInstance (Qjc m 0+1) ((rZ/\rZ/\rE (x0:Int)/\rE (0:Int)/\True)/\(rE m.B4.X.a0/\rE m.B4.X.a1/\rE m.B4.X.a2/\rE m.B4.X.a3/\rE m.B4.X.a4/\rE m.B4.X.a5/\rE m.B4.X.a6/\rE m.B4.X.a7/\rE m.B4.X.a8/\rE m.B4.X.a9/\rE m.B4.X.kv/\rE m.B4.X.ky/\rE m.B4.X.a12/\rE m.B4.X.kz/\rE m.B4.X.kA/\rE m.B4.X.kB/\rE m.B4.Pc/\rE m.B4.C3.a0/\rE m.B4.C3.a1/\rE m.B4.C3.a2/\rE m.B4.C3.a3/\rE m.B4.C3.a4/\rE m.B4.C3.a5/\rE m.B4.C3.a6/\rE m.B4.C3.a7/\((ah.Nil (ah.ints u32 m.Mem)\/rE (1:Nat))/\rE m.Mem)/\rE m.B1.D9/\rE m.B8.F1/\rE m.B8.D3/\rE m.B8.E0/\rE m.B7.ab/\rE m.B7.C8/\rE m.B7.Frame/\rE m.B7.C7/\rE m.B7.F6/\rE m.B7.C5/\rE m.B7.C6/\rE m.B7.C9/\rE m.D2.Frame/\rE m.D2.F7/\rE m.D2.D1/\rE m.D2.D4/\rE m.D2.C4/\rE m.D2.F9/\rE m.A6.A2/\rE m.A6.D0/\rE m.B6/\rE (false:Bool)/\rE m.B5/\True)/\(mE zM True True)/\True) 0 λ(v0:Int)=>.br (decide (v0<5)) (.cn (decide (0<=v0)) (.br (bb u32 x0 (eu u32 1 v0) !=0) (.lv (pT m.B4 (wrap i64 (16+v0)) 0) λ(x1:bn)=>.lf (Sum.inr {B4:=x1,Mem:=m.Mem,B1:=m.B1,B8:=m.B8,B7:=m.B7,D2:=m.D2,A6:=m.A6,B6:=m.B6,B2:=false,B5:=m.B5})) (.nx ((rZ/\rZ/\rE (x0:Int)/\rE ((wrap i64 (v0+1)):Int)/\True)/\(rE m.B4.X.a0/\rE m.B4.X.a1/\rE m.B4.X.a2/\rE m.B4.X.a3/\rE m.B4.X.a4/\rE m.B4.X.a5/\rE m.B4.X.a6/\rE m.B4.X.a7/\rE m.B4.X.a8/\rE m.B4.X.a9/\rE m.B4.X.kv/\rE m.B4.X.ky/\rE m.B4.X.a12/\rE m.B4.X.kz/\rE m.B4.X.kA/\rE m.B4.X.kB/\rE m.B4.Pc/\rE m.B4.C3.a0/\rE m.B4.C3.a1/\rE m.B4.C3.a2/\rE m.B4.C3.a3/\rE m.B4.C3.a4/\rE m.B4.C3.a5/\rE m.B4.C3.a6/\rE m.B4.C3.a7/\((ah.Nil (ah.ints u32 m.Mem)\/rE (1:Nat))/\rE m.Mem)/\rE m.B1.D9/\rE m.B8.F1/\rE m.B8.D3/\rE m.B8.E0/\rE m.B7.ab/\rE m.B7.C8/\rE m.B7.Frame/\rE m.B7.C7/\rE m.B7.F6/\rE m.B7.C5/\rE m.B7.C6/\rE m.B7.C9/\rE m.D2.Frame/\rE m.D2.F7/\rE m.D2.D1/\rE m.D2.D4/\rE m.D2.C4/\rE m.D2.F9/\rE m.A6.A2/\rE m.A6.D0/\rE m.B6/\rE (false:Bool)/\rE m.B5/\True)/\(mE zM True True)/\True) (Sum.inl (wrap i64 (v0+1)))))) (.lf (Sum.inr E1))))
def oX m:=(KH m).m
abbrev Qmp m:=(KH m).p
def Z2n:cg:={
 α:=(Int)
 F:=λst a=>([(1,.ptr 0 0 0),(2,.ptr 1 0 0),(3,(lk st 3)),(15,.int i64 a)],[⟨true,43,49,.gen [mB (cT st 1)]⟩,⟨true,43,49,.gen [mB (cT st 2)]⟩])
 a0:=λst=>(lk st 15).toInt
 ji:=λst=>[]++[(rX st 1 0),(rX st 2 1)]}
def Qxs:List (Nat×cg):=[(6,Z2n)]
def Z64:ba:=ba.fz<|kY 136 [] false [.agg bd.sig] [] (λa r=>Qmp (bd.of (aC a 0))) (λa r=>oX (bd.of (aC a 0))) (λX=>.agg (bd.cells X)) (λX=>[])
theorem Z30:bm pG Z64:=wD<|uL drawn jt (.cons Qlb (.cons Rk (.nil))) Tryz.func136 Tryz.call136 (λa r=>KH (bd.of (aC a 0))) [.sl (.ints .u32) false] Qxs 3 (λ_ _ _=>by kernel_rfl) (λ_ _=>rfl) (λ_ _ h=>h) (λh=>by cases h)
def Ib(c:iK)(port:Int):Tree (iK×Int):=
.br (port==0) (.br (decide (c.D9=[])) (.lf (c,4294967295)) (.cn (decide ((0:Int)<=(0:Int)/\0<(c.D9.length:Int))) (.cn (decide ((0:Int)<=(1:Int)/\1<=(c.D9.length:Int)/\(c.D9.length:Int)<=(c.D9.length:Int))) (.lf ({D9:=cU (dA (c.D9.length:Int)-dA 1) (cV (dA 1) c.D9)},wrap u32 (↑(hY (c.D9.getD (dA 0) (0:UInt8))):Int)))))) (.br (port==1) (.lf (c,wrap u32 (c.D9.length:Int))) (.lf (c,0)))
def W5 c port:=(Ib c port).m
theorem Z9m(c:iK)(port:Int):(Ib c port).p:=by
 unfold Tree.p Ib
 repeat'(first|exact trivial|refine ae (λ_=>?_) (λ_=>?_)|refine ax ?_ ?_|refine c9 ?_ ?_|refine aq (λ_ _=>?_)|refine e6 ?_|refine bh ?_|refine And.intro ?_ ?_)
 all_goals(exact nE)
def Zhh:ba:=mS 195 [] true [.agg iK.sig,.one (.int .i64)] [] (λa r=>Ib (iK.of (aC a 0)) (au a 1)) (λX=>.dw [.agg (iK.cells (X.1)),.int .u32 (X.2)]) (λX=>[])
theorem Zfp:bm pG Zhh:=oS (.nil) Tryz.func195 Tryz.call195 [] [] 2 (λ_ _ _=>by kernel_rfl) (λa r=>Z9m (iK.of (aC a 0)) (au a 1)) (λ_ X=>by kernel_rfl)
def SC(t:iS):Tree Int:=
.br t.E0 (.lf 1) (.lf 0)
def Ws t:=(SC t).m
def Zqg:ba:=mS 196 [] true [.agg iS.sig] [] (λa r=>SC (iS.of (aC a 0))) (λX=>.int .u32 X) (λX=>[])
theorem Zlt:bm pG Zqg:=oS (.nil) Tryz.func196 Tryz.call196 [] [] 2
def SD(d0:fu)(port:Int):Tree Int:=
.br (port==4) (.lf d0.C8) (.br (port==5) (.lf d0.Frame) (.br (port==6) (.lf (wrap u32 d0.C7)) (.lf 0)))
def Nv d0 port:=(SD d0 port).m
def qD:ba:=mS 197 [] true [.agg fu.sig,.one (.int .i64)] [] (λa r=>SD (fu.of (aC a 0)) (au a 1)) (λX=>.int .u32 X) (λX=>[])
theorem Zr3:bm pG qD:=oS (.nil) Tryz.func197 Tryz.call197 [] [] 2
def Nw(n:gw)(port:Int):Tree Int:=
.br (port==7) (.lf n.Frame) (.br (port==8) (.lf n.F9) (.br (port==9) (.br n.D1 (.br n.C4 (.lf (wrap u32 (wrap u32 ((0:Int)+(1:Int))+2))) (.lf (wrap u32 ((0:Int)+(1:Int))))) (.br n.C4 (.lf (wrap u32 ((0:Int)+(2:Int)))) (.lf 0))) (.lf 0)))
def KB n port:=(Nw n port).m
def zX:ba:=mS 198 [] true [.agg gw.sig,.one (.int .i64)] [] (λa r=>Nw (gw.of (aC a 0)) (au a 1)) (λX=>.int .u32 X) (λX=>[])
theorem xD:bm pG zX:=oS (.nil) Tryz.func198 Tryz.call198 [] [] 2
def KC(b:gb)(port:Int):Tree Int:=
.br (port==10) (.lf b.A2) (.br (port==11) (.an (Qf4 b) (.lv (Qe b) λ(x0:Int)=>.lf (wrap u32 x0))) (.lf 0))
def Xh b port:=(KC b port).m
abbrev Qug b port:=(KC b port).p
def Zky:ba:=mT 199 [] true [.agg gb.sig,.one (.int .i64)] [] (λa r=>KC (gb.of (aC a 0)) (au a 1)) (λX=>.int .u32 X) (λX=>[])
theorem Zcx:bm pG Zky:=oT (.cons Qpq (.nil)) Tryz.func199 Tryz.call199 [] [] 2
def KA(m:bd)(port clock:Int):Tree (bd×Int):=
let T1:Tree ((bd×Int)):=.lv (W5 m.B1 port) λ(x0:iK×Int)=>.lf ({B4:=m.B4,Mem:=m.Mem,B1:=x0.1,B8:=m.B8,B7:=m.B7,D2:=m.D2,A6:=m.A6,B6:=m.B6,B2:=m.B2,B5:=m.B5},x0.2);.br (port==0) T1 (.br (port==1) T1 (.br (port==2) (.lf (m,clock)) (.br (port==3) (.lv (Ws m.B8) λ(x2:Int)=>.lf (m,x2)) (.br (port==4) (.lv (Nv m.B7 port) λ(x3:Int)=>.lf (m,x3)) (.br (port==5) (.lv (Nv m.B7 port) λ(x4:Int)=>.lf (m,x4)) (.br (port==6) (.lv (Nv m.B7 port) λ(x5:Int)=>.lf (m,x5)) (.br (port==7) (.lv (KB m.D2 port) λ(x6:Int)=>.lf (m,x6)) (.br (port==8) (.lv (KB m.D2 port) λ(x7:Int)=>.lf (m,x7)) (.br (port==9) (.lv (KB m.D2 port) λ(x8:Int)=>.lf (m,x8)) (let T2:Tree ((bd×Int)):=.an (Qug m.A6 port) (.lv (Xh m.A6 port) λ(x9:Int)=>.lf (m,x9));.br (port==10) T2 (.br (port==11) T2 (.lf (m,0)))))))))))))
def ud m port clock:=(KA m port clock).m
abbrev Qhy m port clock:=(KA m port clock).p
def Qvz:ba:=ba.fz<|kY 138 [] false [.agg bd.sig,.one (.int .i64),.one (.int .u32)] [] (λa r=>Qhy (bd.of (aC a 0)) (au a 1) (au a 2)) (λa r=>ud (bd.of (aC a 0)) (au a 1) (au a 2)) (λX=>.dw [.agg (bd.cells (X.1)),.int .u32 (X.2)]) (λX=>[])
theorem Qv0:bm pG Qvz:=wD<|uL drawn jt (.cons Zfp (.cons Zlt (.cons Zr3 (.cons xD (.cons Zcx (.nil)))))) Tryz.func138 Tryz.call138 (λa r=>KA (bd.of (aC a 0)) (au a 1) (au a 2)) [.sl (.ints .u32) false] [] 2 (λ_ _ _=>by kernel_rfl) (λ_ _=>rfl) (λ_ _ h=>h) (λh=>by cases h)
def Sz(t:iS)(deadline:Int):Tree iS:=
.lf ({F1:=deadline !=0,D3:=deadline,E0:=false})
def Nr t deadline:=(Sz t deadline).m
def Zmv:ba:=mS 200 [] true [.agg iS.sig,.one (.int .u32)] [] (λa r=>Sz (iS.of (aC a 0)) (au a 1)) (λX=>.agg (iS.cells X)) (λX=>[])
theorem Zge:bm pG Zmv:=oS (.nil) Tryz.func200 Tryz.call200 [] [] 2
def Sw(m:List Int)(frame:Int):Tree Bool:=
.lv (jK m) λ(x0:Int)=>.lf (decide (wrap u64 frame<wrap u64 x0))
def Nn m frame:=(Sw m frame).m
def Zdf:ba:=mS 280 [] true [.one (.ints .u32),.one (.int .u32)] [] (λa r=>Sw (dh .u32 a 0) (au a 1)) (λX=>.bool X) (λX=>[])
theorem Z98:bm pG Zdf:=oS (.cons Q2 (.nil)) Tryz.func280 Tryz.call280 [] [] 2
def Kr(m:List Int)(frame:Int):Tree Bool:=
.br (decide (frame>=0)) (.lv (jK m) λ(x0:Int)=>.lf (decide (frame<x0))) (.lf false)
def Eg m frame:=(Kr m frame).m
def Z2s:ba:=mS 145 [] true [.one (.ints .u32),.one (.int .i64)] [] (λa r=>Kr (dh .u32 a 0) (au a 1)) (λX=>.bool X) (λX=>[])
theorem Qmi:bm pG Z2s:=oS (.cons Q2 (.nil)) Tryz.func145 Tryz.call145 [] [] 2
def Qp7(words:List Int)(z:(Int)×(List Int)):Prop:=0<=z.1/\z.1<=words.length/\(z.2.length:Int)=4*z.1
def Ni(words:List Int)(z:(Int)×(List Int)):Nat:=(words.length-z.1).toNat
def Ei(words:List Int):Tree (List UInt8):=
.cn (bN 0 1&&bX 1 1&&List.all [D.int u8 0] D.plain&&decide ((0:Int)<=(0:Int)/\0<=wrap i64 (4*(words.length:Int))/\wrap i64 (4*(words.length:Int))<=9223372036854775807/\(↑1:Int)*wrap i64 (4*(words.length:Int))<=140737488355328)) (.lp inferInstance (Ni words (0,[])+1) ((True/\((ah.Nil (ah.ints u32 words)\/rE (1:Nat))/\rE (words:List Int))/\rE ((words.length:Int):Int)/\rE (0:Int)/\True)/\rE ([]:List Int)/\True) (0,[]) λ(v0:Int×List Int)=>.br (decide (v0.1<(words.length:Int))) (.cn (bX 1 1&&bN 0 1&&decide (0<=v0.1/\v0.1<(words.length:Int))) (.cn (decide (1*(v0.2.length+4)<=140737488355328)) (let E1:=words.getD v0.1.toNat 0;.nx ((True/\((ah.Nil (ah.ints u32 words)\/rE (1:Nat))/\rE (words:List Int))/\rE ((words.length:Int):Int)/\rE ((wrap i64 (v0.1+1)):Int)/\True)/\rE ((v0.2++[wrap u8 (words.getD v0.1.toNat 0),wrap u8 (bc u32 (words.getD v0.1.toNat 0) 8),wrap u8 (bc u32 (words.getD v0.1.toNat 0) 16),wrap u8 (bc u32 (words.getD v0.1.toNat 0) 24)]):List Int)/\True) (Sum.inl (wrap i64 (v0.1+1),v0.2++[wrap u8 E1,wrap u8 (bc u32 E1 8),wrap u8 (bc u32 E1 16),wrap u8 (bc u32 E1 24)]))))) (.lf (Sum.inr (bytesOf v0.2))))
def Z6h words:=(Ei words).m
def U0(words:List Int):Prop:=
words.length<=1000000000000
theorem Z4j(words:List Int)(hw:U0 words):(Ei words).p:=by
 simp only[U0]at hw
 unfold Tree.p Ei
 repeat'(first|refine fp (inv:=Qp7 words) (μ:=Ni words) ?_ (cN _) (λ_ _=>?_)|exact trivial|refine ae (λ_=>?_) (λ_=>?_)|refine ax ?_ ?_|refine c9 ?_ ?_|refine aq (λ_ _=>?_)|refine e6 ?_|refine bh ?_|refine And.intro ?_ ?_)
 all_goals((try simp only[Qp7,Ni]at*);exact nE)
def Z8f:cg:={
 α:=(Int)×(List Int)
 F:=λst a=>([(3,.all 0),(10,(lk st 10)),(11,(lk st 11)),(12,.int i64 a.1)],[⟨false,5,1,.ints u8 a.2⟩])
 a0:=λst=>((lk st 12).toInt,(Q3 st.rows (rN st 3)))
 ji:=λst=>[]++[(rX st 3 0)]}
def Z2r:List (Nat×cg):=[(3,Z8f)]
def Zfb:ba:=kY 146 [] true [.one (.ints .u32)] [] (λa r=>U0 (dh .u32 a 0)) (λa r=>Z6h (dh .u32 a 0)) (λX=>.str X) (λX=>[])
theorem Za4:bm pG Zfb:=uL drawn jt (.nil) Tryz.func146 Tryz.call146 (λa r=>Ei (dh .u32 a 0)) [] Z2r 3 (hp:=λa r h=>Z4j (dh .u32 a 0) h)
def Dl(m:List Int)(frame:Int):Tree ((List UInt8)×Bool):=
.lv (Eg m frame) λ(x0:Bool)=>.br (!x0) (.lf ([],false)) (.cn (bX 1 1&&bN 0 1&&decide (0<=wrap i64 (frame*32)/\wrap i64 (frame*32)<=wrap i64 (wrap i64 (frame*32)+32)/\wrap i64 (wrap i64 (frame*32)+32)<=(m.length:Int))) (let E1:=cU (dA (wrap i64 (wrap i64 (frame*32)+32))-dA (wrap i64 (frame*32))) (cV (dA (wrap i64 (frame*32))) m);.an (U0 E1) (.lv (Z6h E1) λ(x1:List UInt8)=>.lf (x1,true))))
def jz m frame:=(Dl m frame).m
abbrev N9 m frame:=(Dl m frame).p
def Zdb:ba:=mT 99 [] true [.one (.ints .u32),.one (.int .i64)] [] (λa r=>Dl (dh .u32 a 0) (au a 1)) (λX=>.dw [.str (X.1),.bool (X.2)]) (λX=>[])
theorem Ro:bm pG Zdb:=oT (.cons Qmi (.cons Za4 (.nil))) Tryz.func99 Tryz.call99 [] [] 2
def Qty(d0:fu)(gj:Int):Tree (il×Bool):=
.br (d0.C7 !=1) (.lf ({C2:=0,At:=0,C8:=0,F0:=[]},false)) (.br (d0.F6==1) (.lf ({C2:=3,At:=gj,C8:=d0.C5,F0:=[]},true)) (.br (d0.F6==2) (.lf ({C2:=4,At:=gj,C8:=d0.C5,F0:=d0.C9},true)) (.lf ({C2:=0,At:=0,C8:=0,F0:=[]},false))))
def Xa d0 gj:=(Qty d0 gj).m
def Z9g:ba:=mS 281 [] true [.agg fu.sig,.one (.int .u64)] [] (λa r=>Qty (fu.of (aC a 0)) (au a 1)) (λX=>.dw [.agg (il.cells (X.1)),.bool (X.2)]) (λX=>[])
theorem Z3z:bm pG Z9g:=oS (.nil) Tryz.func281 Tryz.call281 [] [] 2
def Kt(d0:fu)(m:List Int)(cmd gj:Int):Tree (fu×(List il)):=
.br (d0.C7 !=0) (.lf (d0,[])) (let T1:Tree ((fu×(List il))):=.lf ({ab:=d0.ab,C8:=d0.C8,Frame:=d0.Frame,C7:=3,F6:=d0.F6,C5:=d0.C5,C6:=d0.C6,C9:=d0.C9},[]);.br (decide (d0.C8>=d0.ab)) T1 (.lv (Nn m d0.Frame) λ(x0:Bool)=>.br (!x0) T1 (.br (cmd==2) (.an (N9 m (wrap i64 d0.Frame)) (.lv (jz m (wrap i64 d0.Frame)) λ(x1:List UInt8×Bool)=>.lv (Xa {ab:=d0.ab,C8:=d0.C8,Frame:=d0.Frame,C7:=1,F6:=cmd,C5:=d0.C8,C6:=d0.Frame,C9:=x1.1} gj) λ(x2:il×Bool)=>.lf ({ab:=d0.ab,C8:=d0.C8,Frame:=d0.Frame,C7:=1,F6:=cmd,C5:=d0.C8,C6:=d0.Frame,C9:=x1.1},[x2.1]))) (.lv (Xa {ab:=d0.ab,C8:=d0.C8,Frame:=d0.Frame,C7:=1,F6:=cmd,C5:=d0.C8,C6:=d0.Frame,C9:=[]} gj) λ(x3:il×Bool)=>.lf ({ab:=d0.ab,C8:=d0.C8,Frame:=d0.Frame,C7:=1,F6:=cmd,C5:=d0.C8,C6:=d0.Frame,C9:=[]},[x3.1])))))
def Qzz d0 m cmd gj:=(Kt d0 m cmd gj).m
abbrev Qui d0 m cmd gj:=(Kt d0 m cmd gj).p
def Zhl:ba:=mT 250 [] true [.agg fu.sig,.one (.ints .u32),.one (.int .i64),.one (.int .u64)] [] (λa r=>Kt (fu.of (aC a 0)) (dh .u32 a 1) (au a 2) (au a 3)) (λX=>.dw [.agg (fu.cells (X.1)),.sl 4 (.ai .bz (X.2)) true]) (λX=>[])
theorem Ze:bm pG Zhl:=oT (.cons Z98 (.cons Ro (.cons Z3z (.nil)))) Tryz.func250 Tryz.call250 [.sl (.ai .bz) true] [] 2
def Ku(d0:fu)(m:List Int)(port v gj:Int):Tree (fu×(List il)):=
.br (port==4) (.lf ({ab:=d0.ab,C8:=v,Frame:=d0.Frame,C7:=d0.C7,F6:=d0.F6,C5:=d0.C5,C6:=d0.C6,C9:=d0.C9},[])) (.br (port==5) (.lf ({ab:=d0.ab,C8:=d0.C8,Frame:=v,C7:=d0.C7,F6:=d0.F6,C5:=d0.C5,C6:=d0.C6,C9:=d0.C9},[])) (.br (port==6) (let T1:Tree ((fu×(List il))):=.an (Qui d0 m (wrap i64 v) gj) (.lv (Qzz d0 m (wrap i64 v) gj) λ(x0:fu×List il)=>.lf (x0.1,x0.2));.br (v==1) T1 (.br (v==2) T1 (.br (v==0) (.lv (Kv d0) λ(x2:Bool)=>.br x2 (.lf ({ab:=d0.ab,C8:=d0.C8,Frame:=d0.Frame,C7:=0,F6:=d0.F6,C5:=d0.C5,C6:=d0.C6,C9:=d0.C9},[])) (.lf (d0,[]))) (.lf (d0,[]))))) (.lf (d0,[]))))
def W8 d0 m port v gj:=(Ku d0 m port v gj).m
abbrev Z12 d0 m port v gj:=(Ku d0 m port v gj).p
def Zsa:ba:=mT 201 [] true [.agg fu.sig,.one (.ints .u32),.one (.int .i64),.one (.int .u32),.one (.int .u64)] [] (λa r=>Ku (fu.of (aC a 0)) (dh .u32 a 1) (au a 2) (au a 3) (au a 4)) (λX=>.dw [.agg (fu.cells (X.1)),.sl 4 (.ai .bz (X.2)) true]) (λX=>[])
theorem Zm4:bm pG Zsa:=oT (.cons Ze (.cons Qqs (.nil))) Tryz.func201 Tryz.call201 [.sl (.ai .bz) true] [] 2
def Sx(m:List Int)(frame:Int):Tree Bool:=
.lv (jK m) λ(x0:Int)=>.lf (decide (wrap u64 frame<wrap u64 x0))
def Ks m frame:=(Sx m frame).m
def Zj4:ba:=mS 253 [] true [.one (.ints .u32),.one (.int .u32)] [] (λa r=>Sx (dh .u32 a 0) (au a 1)) (λX=>.bool X) (λX=>[])
theorem Qw2:bm pG Zj4:=oS (.cons Q2 (.nil)) Tryz.func253 Tryz.call253 [] [] 2
def Kw(n:gw)(m:List Int)(gj:Int):Tree (List il):=
.br (decide (n.F7<1)) (.lf ([])) (.br (decide (n.F7>128)) (.lf ([])) (.lv (Ks m n.Frame) λ(x0:Bool)=>.br (!x0) (.lf ([])) (.an (N9 m (wrap i64 n.Frame)) (.lv (jz m (wrap i64 n.Frame)) λ(x1:List UInt8×Bool)=>.cn (decide ((0:Int)<=(0:Int)/\0<=n.F7/\n.F7<=(x1.1.length:Int))) (.lf ([{C2:=2,At:=gj,C8:=0,F0:=cU (dA n.F7-dA 0) (cV (dA 0) x1.1)}]))))))
def Zfs n m gj:=(Kw n m gj).m
abbrev Z18 n m gj:=(Kw n m gj).p
def Zs0:ba:=mT 252 [] true [.agg gw.sig,.one (.ints .u32),.one (.int .u64)] [] (λa r=>Kw (gw.of (aC a 0)) (dh .u32 a 1) (au a 2)) (λX=>.sl 4 (.ai .bz X) true) (λX=>[])
theorem Zmm:bm pG Zs0:=oT (.cons Qw2 (.cons Ro (.nil))) Tryz.func252 Tryz.call252 [.sl (.ai .bz) true] [] 2
def Kx(n:gw)(m:List Int)(port v gj:Int):Tree (gw×(List il)):=
.br (port==7) (.lf ({Frame:=v,F7:=n.F7,D1:=n.D1,D4:=n.D4,C4:=n.C4,F9:=n.F9},[])) (.br (port==8) (.lf ({Frame:=n.Frame,F7:=v,D1:=n.D1,D4:=n.D4,C4:=n.C4,F9:=n.F9},[])) (.br (port==9) (.br (v==1) (.an (Z18 n m gj) (.lv (Zfs n m gj) λ(x0:List il)=>.lf (n,x0))) (.br (v==2) (.lv (Ks m n.Frame) λ(x1:Bool)=>.br x1 (.br (!n.D1) (.br (!n.C4) (.lf ({Frame:=n.Frame,F7:=n.F7,D1:=true,D4:=n.Frame,C4:=n.C4,F9:=n.F9},[])) (.lf (n,[]))) (.lf (n,[]))) (.lf (n,[]))) (.br (v==0) (.lf ({Frame:=n.Frame,F7:=n.F7,D1:=n.D1,D4:=n.D4,C4:=false,F9:=0},[])) (.lf (n,[]))))) (.lf (n,[]))))
def Xc n m port v gj:=(Kx n m port v gj).m
abbrev Z5w n m port v gj:=(Kx n m port v gj).p
def zD:ba:=mT 202 [] true [.agg gw.sig,.one (.ints .u32),.one (.int .i64),.one (.int .u32),.one (.int .u64)] [] (λa r=>Kx (gw.of (aC a 0)) (dh .u32 a 1) (au a 2) (au a 3) (au a 4)) (λX=>.dw [.agg (gw.cells (X.1)),.sl 4 (.ai .bz (X.2)) true]) (λX=>[])
theorem Zsj:bm pG zD:=oT (.cons Zmm (.cons Qw2 (.nil))) Tryz.func202 Tryz.call202 [.sl (.ai .bz) true] [] 2
def Qb(m:List Int)(frame:Int)(s:List UInt8)(z:(Int)×(List Int)):Nat:=(32-z.1).toNat
def H7(m:List Int)(frame:Int)(s:List UInt8):Tree ((List Int)×Bool):=
.an (nI m) (.lv (ko m) λ(x0:List Int)=>.lv (Eg m frame) λ(x1:Bool)=>.br (!x1) (.lf (x0,false)) (.br ((s.length:Int) !=(128:Int)) (.lf (x0,false)) (.lp inferInstance (Qb m frame s (0,x0)+1) ((rE (s:List UInt8)/\True/\rE ((wrap i64 (frame*32)):Int)/\rE (0:Int)/\True)/\rE (x0:List Int)/\True) (0,x0) λ(v0:Int×List Int)=>.br (decide (v0.1<32)) (.cn (decide (0<=wrap i64 (4*v0.1)/\wrap i64 (4*v0.1)<=wrap i64 (wrap i64 (4*v0.1)+4)/\wrap i64 (wrap i64 (4*v0.1)+4)<=(s.length:Int))) (let E1:=cU (dA (wrap i64 (wrap i64 (4*v0.1)+4))-dA (wrap i64 (4*v0.1))) (cV (dA (wrap i64 (4*v0.1))) s);.cn (decide ((0:Int)<=(0:Int)/\0<(↑(dF E1):Int))) (.cn (decide ((0:Int)<=(1:Int)/\1<(↑(dF E1):Int))) (.cn (decide ((0:Int)<=(2:Int)/\2<(↑(dF E1):Int))) (.cn (decide ((0:Int)<=(3:Int)/\3<(↑(dF E1):Int))) (.cn (bX 1 1&&bN 0 1&&decide (0<=wrap i64 (wrap i64 (frame*32)+v0.1)/\wrap i64 (wrap i64 (frame*32)+v0.1)<(v0.2.length:Int))) (.nx ((rE (s:List UInt8)/\True/\rE ((wrap i64 (frame*32)):Int)/\rE ((wrap i64 (v0.1+1)):Int)/\True)/\rE ((dB v0.2 (dA (wrap i64 (wrap i64 (frame*32)+v0.1))) (iG u32 (iG u32 (iG u32 (wrap u32 (↑(hY (aV (cU (dA (wrap i64 (wrap i64 (4*v0.1)+4))-dA (wrap i64 (4*v0.1))) (cV (dA (wrap i64 (4*v0.1))) s)) (dA 0) (0:UInt8))):Int)) (eu u32 (wrap u32 (↑(hY (aV (cU (dA (wrap i64 (wrap i64 (4*v0.1)+4))-dA (wrap i64 (4*v0.1))) (cV (dA (wrap i64 (4*v0.1))) s)) (dA 1) (0:UInt8))):Int)) 8)) (eu u32 (wrap u32 (↑(hY (aV (cU (dA (wrap i64 (wrap i64 (4*v0.1)+4))-dA (wrap i64 (4*v0.1))) (cV (dA (wrap i64 (4*v0.1))) s)) (dA 2) (0:UInt8))):Int)) 16)) (eu u32 (wrap u32 (↑(hY (aV (cU (dA (wrap i64 (wrap i64 (4*v0.1)+4))-dA (wrap i64 (4*v0.1))) (cV (dA (wrap i64 (4*v0.1))) s)) (dA 3) (0:UInt8))):Int)) 24))):List Int)/\True) (Sum.inl (wrap i64 (v0.1+1),dB v0.2 (dA (wrap i64 (wrap i64 (frame*32)+v0.1))) (iG u32 (iG u32 (iG u32 (wrap u32 (↑(hY (aV E1 (dA 0) (0:UInt8))):Int)) (eu u32 (wrap u32 (↑(hY (aV E1 (dA 1) (0:UInt8))):Int)) 8)) (eu u32 (wrap u32 (↑(hY (aV E1 (dA 2) (0:UInt8))):Int)) 16)) (eu u32 (wrap u32 (↑(hY (aV E1 (dA 3) (0:UInt8))):Int)) 24))))))))))) (.lf (Sum.inr (v0.2,true))))))
def rA m frame s:=(H7 m frame s).m
abbrev Tt m frame s:=(H7 m frame s).p
def Qz7:cg:={
 α:=(Int)×(List Int)
 F:=λst a=>([(2,(lk st 2)),(8,.all 0),(9,(lk st 9)),(26,.int i64 a.1)],[⟨false,25,1,.ints u32 a.2⟩])
 a0:=λst=>((lk st 26).toInt,(Q3 st.rows (rN st 8)))
 ji:=λst=>[]++[(rX st 8 0)]}
def Qv1:List (Nat×cg):=[(6,Qz7)]
def Z2d:ba:=mT 205 [] true [.one (.ints .u32),.one (.int .i64),.one (.str)] [] (λa r=>H7 (dh .u32 a 0) (au a 1) (jy a 2)) (λX=>.dw [.all 0,.bool (X.2)]) (λX=>[⟨false,25,1,.ints .u32 (X.1)⟩])
theorem Qn:bm pG Z2d:=oT (.cons JC (.cons Qmi (.nil))) Tryz.func205 Tryz.call205 [.row 25 1 (.ints .u32)] Qv1 3
def strings_Repeat(s:List UInt8)(count:Int):(List UInt8):=
Lib.repeatL s count.toNat
def Qdw(s:List UInt8)(count:Int):Prop:=
0<=count/\count<=9223372036854775807/\s.length*count.toNat<=140737488355328
def Qjt(s:List UInt8)(count:Int):List D:=[.str s,.int .i64 count]
def Qiy(s:List UInt8)(count:Int):List Row:=[]
def Qdp(X:List UInt8):D:=.str X
def Qe9(X:List UInt8):List Row:=[]
def Ql6:List PT:=[.one (.str),.one (.int .i64)]
def Qj8:List RT:=[]
def Qwl(args:List D)(rows:List Row):(List UInt8):=strings_Repeat (jy args 0) (au args 1)
def Qxh(args:List D)(rows:List Row):Prop:=Qdw (jy args 0) (au args 1)
def Z2i:ba:=kY 254 [] true Ql6 Qj8 Qxh Qwl Qdp Qe9
theorem Qtq(s:List UInt8)(count:Int)(hw:Qdw s count):kg pG 254 (Qjt s count) (Qiy s count) (Qdp (strings_Repeat s count)) (Qe9 (strings_Repeat s count)):=by
 exact zd Tryz.strings_Repeat hw.1 hw.2.1 hw.2.2
set_option maxRecDepth 100000 in
theorem Qvn(args:List D)(rows:List Row):kM Ql6 args 0=Qjt (jy args 0) (au args 1):=by kernel_rfl
set_option maxRecDepth 100000 in
theorem Qtt(args:List D)(rows:List Row):kh Qj8 rows 0=Qiy (jy args 0) (au args 1):=by kernel_rfl
set_option maxRecDepth 100000 in
theorem Z0(X:List UInt8):(sU (Qdp X)&&jo (Qe9 X))=true:=by kernel_rfl
theorem Qzp:bm pG Z2i:=Fp Tryz.call254 (λargs rows hp=>by rw[Qvn args rows,Qtt args rows];exact Qtq (jy args 0) (au args 1) hp) (λ_ X=>Z0 X)
def Dp(b:gb)(m:List Int)(port v:Int):Tree (gb×(List Int)):=
let T1:Tree ((gb×(List Int))):=.an (nI m) (.lv (ko m) λ(x0:List Int)=>.lf (b,x0));.br (decide (v>=32)) T1 (.cn (decide (0<=v)) (.br (port==10) (.lv (jK m) λ(x1:Int)=>.br (decide (wrap i64 v<x1)) (.br (bb u32 b.D0 (eu u32 1 v)==0) (.an (Qdw [(0:UInt8)] 128) (.lv (strings_Repeat [(0:UInt8)] 128) λ(x2:List UInt8)=>.an (Tt m (wrap i64 v) x2) (.lv (rA m (wrap i64 v) x2) λ(x3:List Int×Bool)=>.lf ({A2:=b.A2,D0:=iG u32 b.D0 (eu u32 1 v)},x3.1)))) T1) T1) (.br (port==11) (.an (nI m) (.lv (ko m) λ(x6:List Int)=>.lf ({A2:=b.A2,D0:=oD u32 b.D0 (eu u32 1 v)},x6))) T1)))
def Gw b m port v:=(Dp b m port v).m
abbrev Qrz b m port v:=(Dp b m port v).p
def Zg2:ba:=mT 203 [] true [.agg gb.sig,.one (.ints .u32),.one (.int .i64),.one (.int .u32)] [] (λa r=>Dp (gb.of (aC a 0)) (dh .u32 a 1) (au a 2) (au a 3)) (λX=>.dw [.agg (gb.cells (X.1)),.all 0]) (λX=>[⟨false,25,1,.ints .u32 (X.2)⟩])
theorem Z9w:bm pG Zg2:=oT (.cons JC (.cons Q2 (.cons Qn (.cons Qzp (.nil))))) Tryz.func203 Tryz.call203 [.row 25 1 (.ints .u32)] [] 2
def Kz(m:bd)(port v gj:Int):Tree (bd×(List il)):=
.br (port==0) (.lf (m,[{C2:=1,At:=gj,C8:=0,F0:=[(λ(n:Int)=>UInt8.ofNat n.toNat) (wrap u8 v)]}])) (.br (port==3) (.lv (Nr m.B8 v) λ(x0:iS)=>.lf ({B4:=m.B4,Mem:=m.Mem,B1:=m.B1,B8:=x0,B7:=m.B7,D2:=m.D2,A6:=m.A6,B6:=m.B6,B2:=m.B2,B5:=m.B5},[])) (let T1:Tree ((bd×(List il))):=.an (Z12 m.B7 m.Mem port v gj) (.lv (W8 m.B7 m.Mem port v gj) λ(x1:fu×List il)=>.lf ({B4:=m.B4,Mem:=m.Mem,B1:=m.B1,B8:=m.B8,B7:=x1.1,D2:=m.D2,A6:=m.A6,B6:=m.B6,B2:=m.B2,B5:=m.B5},x1.2));.br (port==4) T1 (.br (port==5) T1 (.br (port==6) T1 (let T2:Tree ((bd×(List il))):=.an (Z5w m.D2 m.Mem port v gj) (.lv (Xc m.D2 m.Mem port v gj) λ(x4:gw×List il)=>.lf ({B4:=m.B4,Mem:=m.Mem,B1:=m.B1,B8:=m.B8,B7:=m.B7,D2:=x4.1,A6:=m.A6,B6:=m.B6,B2:=m.B2,B5:=m.B5},x4.2));.br (port==7) T2 (.br (port==8) T2 (.br (port==9) T2 (let T3:Tree ((bd×(List il))):=.an (Qrz m.A6 m.Mem port v) (.lv (Gw m.A6 m.Mem port v) λ(x7:gb×List Int)=>.lf ({B4:=m.B4,Mem:=x7.2,B1:=m.B1,B8:=m.B8,B7:=m.B7,D2:=m.D2,A6:=x7.1,B6:=m.B6,B2:=m.B2,B5:=m.B5},[]));.br (port==10) T3 (.br (port==11) T3 (.lf (m,[])))))))))))
def Ev m port v gj:=(Kz m port v gj).m
abbrev Qgt m port v gj:=(Kz m port v gj).p
def Qvm:ba:=ba.fz<|kY 139 [] false [.agg bd.sig,.one (.int .i64),.one (.int .u32),.one (.int .u64)] [] (λa r=>Qgt (bd.of (aC a 0)) (au a 1) (au a 2) (au a 3)) (λa r=>Ev (bd.of (aC a 0)) (au a 1) (au a 2) (au a 3)) (λX=>.dw [.agg (bd.cells (X.1)),.sl 4 (.ai .bz (X.2)) true]) (λX=>[])
theorem Qth:bm pG Qvm:=wD<|uL drawn jt (.cons Zge (.cons Zm4 (.cons Zsj (.cons Z9w (.nil))))) Tryz.func139 Tryz.call139 (λa r=>Kz (bd.of (aC a 0)) (au a 1) (au a 2) (au a 3)) [.sl (.ints .u32) false,.sl (.ai .bz) true] [] 2 (λ_ _ _=>by kernel_rfl) (λ_ _=>rfl) (λ_ _ h=>h) (λh=>by cases h)
def Nz(m:bd)(clock:Int):Tree (bd×(List il)):=
.an (nI m.Mem) (.lv (ko m.Mem) λ(x0:List Int)=>let E1:=({B4:=m.B4,Mem:=x0,B1:=m.B1,B8:=m.B8,B7:=m.B7,D2:=m.D2,A6:=m.A6,B6:=m.B6,B2:=m.B2,B5:=m.B5}:bd);.an (Qps E1) (.lv (Eo E1) λ(x1:Bool)=>.br (!x1) (.lf (E1,[])) (.an (Qmp E1) (.lv (oX E1) λ(x2:bd)=>.an (Z0x x2.B4 x2.Mem) (.lv (BS x2.B4 x2.Mem) λ(x3:bn×List Int×kZ)=>let E2:=({B4:=x3.1,Mem:=x3.2.1,B1:=x2.B1,B8:=x2.B8,B7:=x2.B7,D2:=x2.D2,A6:=x2.A6,B6:=x2.B6,B2:=x2.B2,B5:=x2.B5}:bd);.br (x3.2.2.C2==1) (.an (Qhy E2 x3.2.2.D8 clock) (.lv (ud E2 x3.2.2.D8 clock) λ(x4:bd×Int)=>.br (x3.2.2.F8 !=0) (.cn (bN 0 1&&decide (0<=x3.2.2.F8/\x3.2.2.F8<(↑16:Int))) (.lf ({B4:={X:=iv.of 0 (dB (iv.l x4.1.B4.X) x3.2.2.F8.toNat x4.2),Pc:=x4.1.B4.Pc,C3:=x4.1.B4.C3},Mem:=x4.1.Mem,B1:=x4.1.B1,B8:=x4.1.B8,B7:=x4.1.B7,D2:=x4.1.D2,A6:=x4.1.A6,B6:=wrap u64 (x4.1.B6+1),B2:=x4.1.B2,B5:=x4.1.B5},[]))) (.lf ({B4:=x4.1.B4,Mem:=x4.1.Mem,B1:=x4.1.B1,B8:=x4.1.B8,B7:=x4.1.B7,D2:=x4.1.D2,A6:=x4.1.A6,B6:=wrap u64 (x4.1.B6+1),B2:=x4.1.B2,B5:=x4.1.B5},[])))) (.br (x3.2.2.C2==2) (.an (Qgt E2 x3.2.2.D8 x3.2.2.Value m.B6) (.lv (Ev E2 x3.2.2.D8 x3.2.2.Value m.B6) λ(x5:bd×List il)=>.lf ({B4:=x5.1.B4,Mem:=x5.1.Mem,B1:=x5.1.B1,B8:=x5.1.B8,B7:=x5.1.B7,D2:=x5.1.D2,A6:=x5.1.A6,B6:=wrap u64 (x5.1.B6+1),B2:=x5.1.B2,B5:=x5.1.B5},x5.2))) (.br (x3.2.2.C2==3) (.lf ({B4:=x3.1,Mem:=x3.2.1,B1:=x2.B1,B8:=x2.B8,B7:=x2.B7,D2:=x2.D2,A6:=x2.A6,B6:=wrap u64 (x2.B6+1),B2:=true,B5:=x2.B5},[])) (.br (x3.2.2.C2==4) (.lf ({B4:=x3.1,Mem:=x3.2.1,B1:=x2.B1,B8:=x2.B8,B7:=x2.B7,D2:=x2.D2,A6:=x2.A6,B6:=wrap u64 (x2.B6+1),B2:=x2.B2,B5:=true},[])) (.lf ({B4:=x3.1,Mem:=x3.2.1,B1:=x2.B1,B8:=x2.B8,B7:=x2.B7,D2:=x2.D2,A6:=x2.A6,B6:=wrap u64 (x2.B6+1),B2:=x2.B2,B5:=x2.B5},[]))))))))))
def DA m clock:=(Nz m clock).m
abbrev Tn m clock:=(Nz m clock).p
def Z9l:ba:=ba.fz<|kY 92 [] false [.agg bd.sig,.one (.int .u32)] [] (λa r=>Tn (bd.of (aC a 0)) (au a 1)) (λa r=>DA (bd.of (aC a 0)) (au a 1)) (λX=>.dw [.agg (bd.cells (X.1)),.sl 4 (.ai .bz (X.2)) false]) (λX=>[])
theorem Z5k:bm pG Z9l:=wD<|uL drawn jt (.cons JC (.cons Z77 (.cons Z30 (.cons Znt (.cons Qv0 (.cons Qth (.nil))))))) Tryz.func92 Tryz.call92 (λa r=>Nz (bd.of (aC a 0)) (au a 1)) [.sl (.ints .u32) false,.sl (.ai .bz) false] [] 2 (λ_ _ _=>by kernel_rfl) (λ_ _=>rfl) (λ_ _ h=>h) (λh=>by cases h)
end
noncomputable section
def Z6b(op:Int):Tree Int:=
let T1:Tree (Int):=.br (op==49) (.lf 3) (let T2:Tree (Int):=.br (op==24) (.lf 6) (.br (op==48) (.lf 7) (.br (op==58) (.lf 8) (.br (op==59) (.lf 8) (.br (op==60) (.lf 9) (.br (op==61) (.lf 9) (.br (op==56) (.lf 1) (.br (op==57) (.lf 1) (.br (decide (op>=62)) (.br (decide (op<=64)) (.lf 1) (.lf 0)) (.lf 0)))))))));.br (decide (op>=17)) (.br (decide (op<=19)) (.lf 4) (.br (decide (op>=20)) (.br (decide (op<=22)) (.lf 5) T2) T2)) (.br (decide (op>=20)) (.br (decide (op<=22)) (.lf 5) T2) T2));let T3:Tree (Int):=.br (op==16) (.lf 3) (.br (op==23) (.lf 3) (.br (decide (op>=32)) (.br (decide (op<=36)) (.lf 3) (.br (decide (op>=40)) (.br (decide (op<=45)) (.lf 3) T1) T1)) (.br (decide (op>=40)) (.br (decide (op<=45)) (.lf 3) T1) T1)));.br (decide (op>=1)) (.br (decide (op<=13)) (.lf 2) T3) T3
def oE op:=(Z6b op).m
def Zm7:ba:=mS 178 [] true [.one (.int .i64)] [] (λa r=>Z6b (au a 0)) (λX=>.int .i64 X) (λX=>[])
theorem Rp:bm pG Zm7:=oS (.nil) Tryz.func178 Tryz.call178 [] [] 2
def SK(r:Int):Tree Bool:=
.br (decide (r>=0)) (.lf (decide (r<=15))) (.lf false)
def KK r:=(SK r).m
def Z3w:ba:=mS 233 [] true [.one (.int .i64)] [] (λa r=>SK (au a 0)) (λX=>.bool X) (λX=>[])
theorem Z29:bm pG Z3w:=oS (.nil) Tryz.func233 Tryz.call233 [] [] 2
def WD(f:Int):Tree (Int×Int):=
.br (f==3) (.lf ((-32768),32767)) (.br (f==7) (.lf ((-32768),32767)) (.br (f==4) (.lf (0,65535)) (.br (f==6) (.lf (0,65535)) (.br (f==5) (.lf (0,31)) (.br (f==8) (.lf (0,7)) (.br (f==9) (.lf (0,11)) (.lf (0,0))))))))
def WC f:=(WD f).m
def Zf7:ba:=mS 179 [] true [.one (.int .i64)] [] (λa r=>WD (au a 0)) (λX=>.dw [.int .i64 (X.1),.int .i64 (X.2)]) (λX=>[])
theorem Quh:bm pG Zf7:=oS (.nil) Tryz.func179 Tryz.call179 [] [] 2
def ND(i:gr):Tree Bool:=
.lv (oE i.Op) λ(x0:Int)=>.br (x0==0) (.lf false) (.lv (KK i.A) λ(x1:Bool)=>.br (!x1) (.lf false) (.lv (KK i.B) λ(x2:Bool)=>.br (!x2) (.lf false) (.lv (KK i.C) λ(x3:Bool)=>.br (!x3) (.lf false) (.lv (WC x0) λ(x4:Int×Int)=>.br (decide (wrap i64 i.bw<x4.1)) (.lf false) (.br (decide (wrap i64 i.bw>x4.2)) (.lf false) (let T1:Tree (Bool):=.br (x0==1) (.br (i.A !=0) (.lf false) (.br (i.B==0) (.lf true) (.br (decide (x0>=2)) (.lf (decide (x0<=5))) (.lf false)))) (.br (i.B==0) (.lf true) (.br (decide (x0>=2)) (.lf (decide (x0<=5))) (.lf false)));.br (x0 !=2) (.br (i.C !=0) (.lf false) T1) T1))))))
def Er i:=(ND i).m
def Zh8:ba:=mS 177 [] true [.agg gr.sig] [] (λa r=>ND (gr.of (aC a 0))) (λX=>.bool X) (λX=>[])
theorem Qx3:bm pG Zh8:=oS (.cons Rp (.cons Z29 (.cons Quh (.nil)))) Tryz.func177 Tryz.call177 [] [] 2
def Sq(i:gr):Tree (Int×Bool):=
.lv (Er i) λ(x0:Bool)=>.br (!x0) (.lf (0,false)) (.lf (iG u32 (iG u32 (iG u32 (iG u32 (eu u32 (wrap u32 i.Op) 24) (eu u32 (wrap u32 i.A) 20)) (eu u32 (wrap u32 i.B) 16)) (bb u32 (wrap u32 i.bw) 65535)) (wrap u32 i.C),true))
def oC i:=(Sq i).m
def Zg3:ba:=mS 125 [] true [.agg gr.sig] [] (λa r=>Sq (gr.of (aC a 0))) (λX=>.dw [.int .u32 (X.1),.bool (X.2)]) (λX=>[])
theorem Qm8:bm pG Zg3:=oS (.cons Qx3 (.nil)) Tryz.func125 Tryz.call125 [] [] 2
def Zcm:Tree (List Int):=
.lf ([1,2,3,4,5,6,7,8,9,10,11,12,13,16,16,17,18,19,20,21,22,23,24,24,32,32,33,34,35,35,36,40,41,42,43,44,45,48,49,56,57,58,59,60,60,61,61,62,63,64])
def Zdp:(List Int):=(Zcm).m
def Zqx:ba:=mS 180 [] true [] [] (λa r=>Zcm) (λX=>.sl 1 (.ints .i64 X) true) (λX=>[])
theorem Zll:bm pG Zqx:=oS (.nil) Tryz.func180 Tryz.call180 [.sl (.ints .i64) true] [] 2
def Z62(Da:Int):Tree (Int×Int):=
let E1:=wrap u64 (rh u64 (wrap u64 (Da+11400714819323198485)) (bc u64 (wrap u64 (Da+11400714819323198485)) 30)*13787848793156543929);let E2:=wrap u64 (rh u64 E1 (bc u64 E1 27)*10723151780598845931);.lf (rh u64 E2 (bc u64 E2 31),wrap u64 (Da+11400714819323198485))
def Zic Da:=(Z62 Da).m
def Znq:ba:=mS 89 [] true [.one (.int .u64)] [] (λa r=>Z62 (au a 0)) (λX=>.dw [.int .u64 (X.1),.int .u64 (X.2)]) (λX=>[])
theorem Zka:bm pG Znq:=oS (.nil) Tryz.func89 Tryz.call89 [] [] 2
def TL(n k:Int):Tree Int:=
.lv (Zic (rh u64 (wrap u64 n) (wrap u64 (wrap u64 k*11400714819323198485)))) λ(x0:Int×Int)=>.lf (wrap i64 (bc u64 x0.1 1))
def TJ n k:=(TL n k).m
def Zss:ba:=mS 42 [] true [.one (.int .i64),.one (.int .i64)] [] (λa r=>TL (au a 0) (au a 1)) (λX=>.int .i64 X) (λX=>[])
theorem Quz:bm pG Zss:=oS (.cons Zka (.nil)) Tryz.func42 Tryz.call42 [] [] 2
def Qr4(n k:Int):Tree Int:=
.cn (decide (k≠0)) (.br (decide (cZ n k<0)) (.lf (wrap i64 (cZ n k+k))) (.lf (cZ n k)))
def Fq n k:=(Qr4 n k).m
abbrev Jy n k:=(Qr4 n k).p
def Zgr:ba:=mT 28 [] true [.one (.int .i64),.one (.int .i64)] [] (λa r=>Qr4 (au a 0) (au a 1)) (λX=>.int .i64 X) (λX=>[])
theorem Qwr:bm pG Zgr:=oT (.nil) Tryz.func28 Tryz.call28 [] [] 2
def UQ(n:Int):Tree gr:=
.lv Zdp λ(x0:List Int)=>.lv (TJ n 1) λ(x1:Int)=>.an (Jy x1 (x0.length:Int)) (.lv (Fq x1 (x0.length:Int)) λ(x2:Int)=>.cn (bX 1 1&&bN 0 1&&decide (0<=x2/\x2<(x0.length:Int))) (.an (Jy (bc i64 x1 8) 6) (.lv (Fq (bc i64 x1 8) 6) λ(x3:Int)=>.an (Jy (bc i64 x1 12) 6) (.lv (Fq (bc i64 x1 12) 6) λ(x4:Int)=>.an (Jy (bc i64 x1 16) 6) (.lv (Fq (bc i64 x1 16) 6) λ(x5:Int)=>.an (Jy (bc i64 x1 20) 24) (.lv (Fq (bc i64 x1 20) 24) λ(x6:Int)=>.br (decide (x0.getD x2.toNat (0:Int)<=(13:Int))) (.lf ({Op:=x0.getD x2.toNat 0,A:=x3,B:=x4,C:=x5,bw:=0})) (let E4:=({Op:=x0.getD x2.toNat 0,A:=x3,B:=x4,C:=0,bw:=wrap i32 (wrap i64 (wrap i64 (8*x6)-32))}:gr);let T1:Tree (gr):=.br (x0.getD x2.toNat (0:Int)==(49:Int)) (.lf (E4)) (.br (x0.getD x2.toNat (0:Int)==(24:Int)) (.lf ({Op:=x0.getD x2.toNat 0,A:=x3,B:=0,C:=0,bw:=wrap i32 (wrap i64 (x6*bb i64 (bc i64 x1 40) 1))})) (let T2:Tree (gr):=let E6:=({Op:=x0.getD x2.toNat 0,A:=x3,B:=0,C:=0,bw:=wrap i32 (cZ x6 8)}:gr);.br (x0.getD x2.toNat (0:Int)==(58:Int)) (.lf (E6)) (.br (x0.getD x2.toNat (0:Int)==(59:Int)) (.lf (E6)) (let E5:=({Op:=x0.getD x2.toNat 0,A:=x3,B:=0,C:=0,bw:=wrap i32 (cZ x6 12)}:gr);.br (x0.getD x2.toNat (0:Int)==(60:Int)) (.lf (E5)) (.br (x0.getD x2.toNat (0:Int)==(61:Int)) (.lf (E5)) (.lf ({Op:=x0.getD x2.toNat 0,A:=0,B:=0,C:=0,bw:=0})))));.br (decide (x0.getD x2.toNat (0:Int)>=(17:Int))) (.br (decide (x0.getD x2.toNat (0:Int)<=(22:Int))) (.lf ({Op:=x0.getD x2.toNat 0,A:=x3,B:=x4,C:=0,bw:=wrap i32 x6})) T2) T2));let T3:Tree (gr):=.br (x0.getD x2.toNat (0:Int)==(16:Int)) (.lf (E4)) (.br (x0.getD x2.toNat (0:Int)==(23:Int)) (.lf (E4)) (.br (decide (x0.getD x2.toNat (0:Int)>=(32:Int))) (.br (decide (x0.getD x2.toNat (0:Int)<=(36:Int))) (.lf (E4)) T1) T1));.br (decide (x0.getD x2.toNat (0:Int)>=(40:Int))) (.br (decide (x0.getD x2.toNat (0:Int)<=(48:Int))) (.br (x0.getD x2.toNat (0:Int)==(48:Int)) (.lf ({Op:=x0.getD x2.toNat 0,A:=x3,B:=0,C:=0,bw:=wrap i32 (wrap i64 (x6-12))})) (.lf ({Op:=x0.getD x2.toNat 0,A:=x3,B:=x4,C:=0,bw:=wrap i32 (wrap i64 (x6-12))}))) T3) T3)))))))
def Zk n:=(UQ n).m
abbrev ZX n:=(UQ n).p
def Znw:ba:=mT 127 [] true [.one (.int .i64)] [] (λa r=>UQ (au a 0)) (λX=>.agg (gr.cells X)) (λX=>[])
theorem Zk9:bm pG Znw:=oT (.cons Zll (.cons Quz (.cons Qwr (.nil)))) Tryz.func127 Tryz.call127 [] [] 2
def Qu2(l:List Int)(z:(Int)×(List Int)):Prop:=0<=z.1/\z.1<=l.length/\(z.2.length:Int)=z.1
def Sr(l:List Int)(z:(Int)×(List Int)):Nat:=(l.length-z.1).toNat
def MU(l:List Int):Tree (List Int):=
.lp inferInstance (Sr l (0,[])+1) ((((ah.Nil (ah.ints i64 l)\/rE (1:Nat))/\rE (l:List Int))/\True/\rE (0:Int)/\True)/\rE ([]:List Int)/\True) (0,[]) λ(v0:Int×List Int)=>.br (decide (v0.1<(l.length:Int))) (let E1:=bX 1 1&&bN 0 1&&decide (0<=v0.1/\v0.1<(l.length:Int));.cn E1 (let E2:=decide (4*(v0.2.length+1)<=140737488355328);.br (cZ (l.getD v0.1.toNat 0) (17:Int)==(0:Int)) (.cn E1 (.cn E2 (.nx ((((ah.Nil (ah.ints i64 l)\/rE (1:Nat))/\rE (l:List Int))/\True/\rE ((wrap i64 (v0.1+1)):Int)/\True)/\rE ((v0.2++[wrap u32 (bb i64 (l.getD v0.1.toNat 0) 4294967295)]):List Int)/\True) (Sum.inl (wrap i64 (v0.1+1),v0.2++[wrap u32 (bb i64 (l.getD v0.1.toNat 0) 4294967295)]))))) (.cn E1 (.an (ZX (l.getD v0.1.toNat 0)) (.lv (Zk (l.getD v0.1.toNat 0)) λ(x0:gr)=>.lv (oC x0) λ(x1:Int×Bool)=>.cn E2 (.nx ((((ah.Nil (ah.ints i64 l)\/rE (1:Nat))/\rE (l:List Int))/\True/\rE ((wrap i64 (v0.1+1)):Int)/\True)/\rE ((v0.2++[x1.1]):List Int)/\True) (Sum.inl (wrap i64 (v0.1+1),v0.2++[x1.1])))))))) (.lf (Sum.inr v0.2))
def Tm l:=(MU l).m
abbrev Qoi l:=(MU l).p
def Zkw:cg:={
 α:=(Int)×(List Int)
 F:=λst a=>([(0,(lk st 0)),(3,.all 0),(4,.int i64 a.1)],[⟨false,25,1,.ints u32 a.2⟩])
 a0:=λst=>((lk st 4).toInt,(Q3 st.rows (rN st 3)))
 ji:=λst=>[]++[(rX st 3 0)]}
def Z8i:List (Nat×cg):=[(3,Zkw)]
def Zlp:ba:=mT 78 [] true [.one (.ints .i64)] [] (λa r=>MU (dh .i64 a 0)) (λX=>.all 0) (λX=>[⟨false,25,1,.ints .u32 X⟩])
theorem Zj8:bm pG Zlp:=oT (.cons Qm8 (.cons Zk9 (.nil))) Tryz.func78 Tryz.call78 [.row 25 1 (.ints .u32)] Z8i 3
def Su(pc:Int):Tree bn:=
.lf ({X:={a0:=0,a1:=0,a2:=0,a3:=0,a4:=0,a5:=0,a6:=0,a7:=0,a8:=0,a9:=0,kv:=0,ky:=0,a12:=0,kz:=0,kA:=0,kB:=0},Pc:=pc,C3:={a0:=1,a1:=0,a2:=0,a3:=0,a4:=0,a5:=0,a6:=0,a7:=0}})
def Wj pc:=(Su pc).m
def Zji:ba:=mS 128 [] true [.one (.int .u32)] [] (λa r=>Su (au a 0)) (λX=>.agg (bn.cells X)) (λX=>[])
theorem Zdd:bm pG Zji:=oS (.nil) Tryz.func128 Tryz.call128 [] [] 2
def Re(bj:Int):Tree (List Int):=
.br (decide (bj<1)) (.lf ([])) (.br (decide (bj>32)) (.lf ([])) (.cn (bN 0 1&&bX 1 1&&List.all [D.int u32 0] D.plain&&decide (0<=wrap i64 (bj*32)/\wrap i64 (bj*32)<=wrap i64 (bj*32)/\wrap i64 (bj*32)<=9223372036854775807/\(↑4:Int)*wrap i64 (bj*32)<=140737488355328)) (.lf (List.replicate (dA (wrap i64 (bj*32))) 0))))
def Sv bj:=(Re bj).m
abbrev ZY bj:=(Re bj).p
def Zqr:ba:=mT 38 [] true [.one (.int .i64)] [] (λa r=>Re (au a 0)) (λX=>.all 0) (λX=>[⟨false,25,1,.ints .u32 X⟩])
theorem Zlf:bm pG Zqr:=oT (.nil) Tryz.func38 Tryz.call38 [.row 25 1 (.ints .u32)] [] 2
def Gf(bj blocks:Int)(image:List Int):Tree (bd×Bool):=
let T1:Tree ((bd×Bool)):=.lf ({B4:={X:={a0:=0,a1:=0,a2:=0,a3:=0,a4:=0,a5:=0,a6:=0,a7:=0,a8:=0,a9:=0,kv:=0,ky:=0,a12:=0,kz:=0,kA:=0,kB:=0},Pc:=0,C3:={a0:=0,a1:=0,a2:=0,a3:=0,a4:=0,a5:=0,a6:=0,a7:=0}},Mem:=[],B1:={D9:=[]},B8:={F1:=false,D3:=0,E0:=false},B7:={ab:=0,C8:=0,Frame:=0,C7:=0,F6:=0,C5:=0,C6:=0,C9:=[]},D2:={Frame:=0,F7:=0,D1:=false,D4:=0,C4:=false,F9:=0},A6:={A2:=0,D0:=0},B6:=0,B2:=false,B5:=false},false);.br (decide (bj<1)) T1 (.br (decide (bj>32)) T1 (.br (decide (blocks<0)) T1 (.br (decide (blocks>64)) T1 (.br (decide ((image.length:Int)>wrap i64 (bj*32))) T1 (.lv (Wj 0) λ(x0:bn)=>.an (ZY bj) (.lv (Sv bj) λ(x1:List Int)=>.lf ({B4:=x0,Mem:=cU (Min.min (image.length) (x1.length)) image++cV (Min.min (image.length) (x1.length)) x1,B1:={D9:=[]},B8:={F1:=false,D3:=0,E0:=false},B7:={ab:=wrap u32 blocks,C8:=0,Frame:=0,C7:=0,F6:=0,C5:=0,C6:=0,C9:=[]},D2:={Frame:=0,F7:=0,D1:=false,D4:=0,C4:=false,F9:=0},A6:={A2:=0,D0:=0},B6:=0,B2:=false,B5:=false},true)))))))
def kR bj blocks image:=(Gf bj blocks image).m
abbrev U1 bj blocks image:=(Gf bj blocks image).p
def Zrj:ba:=mT 79 [] true [.one (.int .i64),.one (.int .i64),.one (.ints .u32)] [] (λa r=>Gf (au a 0) (au a 1) (dh .u32 a 2)) (λX=>.dw [.agg (bd.cq (X.1) (.all 0)),.bool (X.2)]) (λX=>[⟨false,25,1,.ints .u32 (X.1).Mem⟩])
theorem Zo:bm pG Zrj:=oT (.cons Zdd (.cons Zlf (.nil))) Tryz.func79 Tryz.call79 [.row 25 1 (.ints .u32)] [] 2
def Qkk(a b:List Int)(z:(Int)):Prop:=0<=z/\z<=a.length/\a.length=b.length
def IN(a b:List Int)(z:(Int)):Nat:=(a.length-z).toNat
def IM(a b:List Int):Tree Bool:=
.br ((a.length:Int) !=(b.length:Int)) (.lf false) (.lp inferInstance (IN a b 0+1) ((((ah.Nil (ah.ints u32 a)\/rE (1:Nat))/\rE (a:List Int))/\((ah.Nil (ah.ints u32 b)\/rE (1:Nat))/\rE (b:List Int))/\rE (0:Int)/\True)/\True) 0 λ(v0:Int)=>.br (decide (v0<(a.length:Int))) (.cn (bX 1 1&&bN 0 1&&decide (0<=v0/\v0<(a.length:Int))) (.cn (bX 1 1&&bN 0 1&&decide (0<=v0/\v0<(b.length:Int))) (.br (a.getD v0.toNat 0 !=b.getD v0.toNat 0) (.lf (Sum.inr false)) (.nx ((((ah.Nil (ah.ints u32 a)\/rE (1:Nat))/\rE (a:List Int))/\((ah.Nil (ah.ints u32 b)\/rE (1:Nat))/\rE (b:List Int))/\rE ((wrap i64 (v0+1)):Int)/\True)/\True) (Sum.inl (wrap i64 (v0+1))))))) (.lf (Sum.inr true)))
def O3 a b:=(IM a b).m
def U2(a b:List Int):Prop:=
a.length<=1000000000000
theorem Qw3(a b:List Int)(hw:U2 a b):(IM a b).p:=by
 simp only[U2]at hw
 unfold Tree.p IM
 repeat'(first|refine fp (inv:=Qkk a b) (μ:=IN a b) ?_ (cN _) (λ_ _=>?_)|exact trivial|refine ae (λ_=>?_) (λ_=>?_)|refine ax ?_ ?_|refine c9 ?_ ?_|refine aq (λ_ _=>?_)|refine e6 ?_|refine bh ?_|refine And.intro ?_ ?_)
 all_goals((try simp only[Qkk,IN]at*);exact nE)
def Qzf:cg:={
 α:=(Int)
 F:=λst a=>([(0,(lk st 0)),(1,(lk st 1)),(5,.int i64 a)],[])
 a0:=λst=>(lk st 5).toInt
 ji:=λst=>[]++[]}
def Qvb:List (Nat×cg):=[(4,Qzf)]
def Z2q:ba:=kY 67 [] true [.one (.ints .u32),.one (.ints .u32)] [] (λa r=>U2 (dh .u32 a 0) (dh .u32 a 1)) (λa r=>O3 (dh .u32 a 0) (dh .u32 a 1)) (λX=>.bool X) (λX=>[])
theorem Qzw:bm pG Z2q:=uL drawn jt (.nil) Tryz.func67 Tryz.call67 (λa r=>IM (dh .u32 a 0) (dh .u32 a 1)) [] Qvb 3 (hp:=λa r h=>Qw3 (dh .u32 a 0) (dh .u32 a 1) h)
def O2(a b:bd):Tree Bool:=
.br (eqs [D.int u32 a.B4.X.a0,D.int u32 a.B4.X.a1,D.int u32 a.B4.X.a2,D.int u32 a.B4.X.a3,D.int u32 a.B4.X.a4,D.int u32 a.B4.X.a5,D.int u32 a.B4.X.a6,D.int u32 a.B4.X.a7,D.int u32 a.B4.X.a8,D.int u32 a.B4.X.a9,D.int u32 a.B4.X.kv,D.int u32 a.B4.X.ky,D.int u32 a.B4.X.a12,D.int u32 a.B4.X.kz,D.int u32 a.B4.X.kA,D.int u32 a.B4.X.kB,D.int u32 a.B4.Pc,D.int u32 a.B4.C3.a0,D.int u32 a.B4.C3.a1,D.int u32 a.B4.C3.a2,D.int u32 a.B4.C3.a3,D.int u32 a.B4.C3.a4,D.int u32 a.B4.C3.a5,D.int u32 a.B4.C3.a6,D.int u32 a.B4.C3.a7] [D.int u32 b.B4.X.a0,D.int u32 b.B4.X.a1,D.int u32 b.B4.X.a2,D.int u32 b.B4.X.a3,D.int u32 b.B4.X.a4,D.int u32 b.B4.X.a5,D.int u32 b.B4.X.a6,D.int u32 b.B4.X.a7,D.int u32 b.B4.X.a8,D.int u32 b.B4.X.a9,D.int u32 b.B4.X.kv,D.int u32 b.B4.X.ky,D.int u32 b.B4.X.a12,D.int u32 b.B4.X.kz,D.int u32 b.B4.X.kA,D.int u32 b.B4.X.kB,D.int u32 b.B4.Pc,D.int u32 b.B4.C3.a0,D.int u32 b.B4.C3.a1,D.int u32 b.B4.C3.a2,D.int u32 b.B4.C3.a3,D.int u32 b.B4.C3.a4,D.int u32 b.B4.C3.a5,D.int u32 b.B4.C3.a6,D.int u32 b.B4.C3.a7]) (.an (U2 a.Mem b.Mem) (.lv (O3 a.Mem b.Mem) λ(x0:Bool)=>.br x0 (.br (eqs [D.str a.B1.D9] [D.str b.B1.D9]) (.br (eqs [D.bool a.B8.F1,D.int u32 a.B8.D3,D.bool a.B8.E0] [D.bool b.B8.F1,D.int u32 b.B8.D3,D.bool b.B8.E0]) (.br (eqs [D.int u32 a.B7.ab,D.int u32 a.B7.C8,D.int u32 a.B7.Frame,D.int i64 a.B7.C7,D.int i64 a.B7.F6,D.int u32 a.B7.C5,D.int u32 a.B7.C6,D.str a.B7.C9] [D.int u32 b.B7.ab,D.int u32 b.B7.C8,D.int u32 b.B7.Frame,D.int i64 b.B7.C7,D.int i64 b.B7.F6,D.int u32 b.B7.C5,D.int u32 b.B7.C6,D.str b.B7.C9]) (.br (eqs [D.int u32 a.D2.Frame,D.int u32 a.D2.F7,D.bool a.D2.D1,D.int u32 a.D2.D4,D.bool a.D2.C4,D.int u32 a.D2.F9] [D.int u32 b.D2.Frame,D.int u32 b.D2.F7,D.bool b.D2.D1,D.int u32 b.D2.D4,D.bool b.D2.C4,D.int u32 b.D2.F9]) (.br (eqs [D.int u32 a.A6.A2,D.int u32 a.A6.D0] [D.int u32 b.A6.A2,D.int u32 b.A6.D0]) (.br (a.B6==b.B6) (.br (a.B2==b.B2) (.lf (a.B5==b.B5)) (.lf false)) (.lf false)) (.lf false)) (.lf false)) (.lf false)) (.lf false)) (.lf false)) (.lf false))) (.lf false)
def Zh2 a b:=(O2 a b).m
abbrev Qob a b:=(O2 a b).p
def Znr:ba:=mT 24 [] true [.agg bd.sig,.agg bd.sig] [] (λa r=>O2 (bd.of (aC a 0)) (bd.of (aC a 1))) (λX=>.bool X) (λX=>[])
theorem Zl2:bm pG Znr:=oT (.cons Qzw (.nil)) Tryz.func24 Tryz.call24 [] [] 2
