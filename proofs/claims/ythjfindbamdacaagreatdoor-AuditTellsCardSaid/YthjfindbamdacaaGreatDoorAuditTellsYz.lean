import Derived.Test.YthjfindbamdacaaGreatDoorAuditTellsFh
import Derived.Test.YthjfindbamdacaaGreatDoorAuditTellsYx
open List renaming take->cZ,drop->dA,length->dJ,set->dF,getD->aK
open Int renaming toNat->dE,tmod->dD
open UInt8 renaming toNat->eV
open Nat renaming blt->bJ,beq->bT
set_option maxRecDepth 100000
set_option linter.all false
namespace Go.Proofs.YthjfindbamdacaaGreatDoor
open Go Go.GD Go.IntKind
noncomputable section
def I7(m:ao):Tree Bool:=
.an (RV m) (.lv (mM m) λ(x0:Bool)=>.br x0 (.br (!m.A6) (.an (Yn m) (.lv (Lw m) λ(x1:Bool)=>.br (!x1) (.lf (decide (m.A0<1152921504606846976))) (.lf false))) (.lf false)) (.lf false))
def AM m:=(I7 m).m
abbrev Qfc m:=(I7 m).p
def Z67:bb:=mT 61 [] true [.agg ao.sig] [] (λa r=>I7 (ao.of (aC a 0))) (λX=>.bool X) (λX=>[])
theorem Qp6:bj pG Z67:=oT (.cons Qjw (.cons Qpi (.nil))) Tryz.func61 Tryz.call61 [] [] 2
def Xh(m:ao)(z:(Int)):Nat:=(5-z).toNat
def GQ(m:ao):Tree ao:=
let E1:=({A7:=m.A7,Mem:=m.Mem,A2:=m.A2,A9:=m.A9,A4:=m.A4,C1:=m.C1,A1:=m.A1,A0:=m.A0,A3:=false,A6:=m.A6}:ao);.br (bc u32 m.A7.B1.a0 (2:Int)==(0:Int)) (.lf (E1)) (.an (Qb1 E1) (.lv (L5 E1) λ(x0:Int)=>.lp inferInstance (Xh m 0+1) ((rZ/\rZ/\rE (x0:Int)/\rE (0:Int)/\True)/\(rE m.A7.X.a0/\rE m.A7.X.a1/\rE m.A7.X.a2/\rE m.A7.X.a3/\rE m.A7.X.a4/\rE m.A7.X.a5/\rE m.A7.X.a6/\rE m.A7.X.a7/\rE m.A7.X.a8/\rE m.A7.X.a9/\rE m.A7.X.kP/\rE m.A7.X.kQ/\rE m.A7.X.a12/\rE m.A7.X.kR/\rE m.A7.X.kS/\rE m.A7.X.kT/\rE m.A7.Pc/\rE m.A7.B1.a0/\rE m.A7.B1.a1/\rE m.A7.B1.a2/\rE m.A7.B1.a3/\rE m.A7.B1.a4/\rE m.A7.B1.a5/\rE m.A7.B1.a6/\rE m.A7.B1.a7/\((ai.Nil (ai.ints u32 m.Mem)\/rE (1:Nat))/\rE m.Mem)/\rE m.A2.C6/\rE m.A9.D0/\rE m.A9.B8/\rE m.A9.C9/\rE m.A4.ag/\rE m.A4.B9/\rE m.A4.Frame/\rE m.A4.B6/\rE m.A4.D1/\rE m.A4.B4/\rE m.A4.B0/\rE m.A4.B5/\rE m.C1.Frame/\rE m.C1.D6/\rE m.C1.C2/\rE m.C1.B7/\rE m.C1.B3/\rE m.C1.D8/\rE m.A1.C4/\rE m.A1.C0/\rE m.A0/\rE (false:Bool)/\rE m.A6/\True)/\(mE zM True True)/\True) 0 λ(v0:Int)=>.br (decide (v0<5)) (.cn (decide (0<=v0)) (.br (bc u32 x0 (eg u32 1 v0) !=0) (.lv (rB m.A7 (wrap i64 (16+v0)) 0) λ(x1:bg)=>.lf (Sum.inr {A7:=x1,Mem:=m.Mem,A2:=m.A2,A9:=m.A9,A4:=m.A4,C1:=m.C1,A1:=m.A1,A0:=m.A0,A3:=false,A6:=m.A6})) (.nx ((rZ/\rZ/\rE (x0:Int)/\rE ((wrap i64 (v0+1)):Int)/\True)/\(rE m.A7.X.a0/\rE m.A7.X.a1/\rE m.A7.X.a2/\rE m.A7.X.a3/\rE m.A7.X.a4/\rE m.A7.X.a5/\rE m.A7.X.a6/\rE m.A7.X.a7/\rE m.A7.X.a8/\rE m.A7.X.a9/\rE m.A7.X.kP/\rE m.A7.X.kQ/\rE m.A7.X.a12/\rE m.A7.X.kR/\rE m.A7.X.kS/\rE m.A7.X.kT/\rE m.A7.Pc/\rE m.A7.B1.a0/\rE m.A7.B1.a1/\rE m.A7.B1.a2/\rE m.A7.B1.a3/\rE m.A7.B1.a4/\rE m.A7.B1.a5/\rE m.A7.B1.a6/\rE m.A7.B1.a7/\((ai.Nil (ai.ints u32 m.Mem)\/rE (1:Nat))/\rE m.Mem)/\rE m.A2.C6/\rE m.A9.D0/\rE m.A9.B8/\rE m.A9.C9/\rE m.A4.ag/\rE m.A4.B9/\rE m.A4.Frame/\rE m.A4.B6/\rE m.A4.D1/\rE m.A4.B4/\rE m.A4.B0/\rE m.A4.B5/\rE m.C1.Frame/\rE m.C1.D6/\rE m.C1.C2/\rE m.C1.B7/\rE m.C1.B3/\rE m.C1.D8/\rE m.A1.C4/\rE m.A1.C0/\rE m.A0/\rE (false:Bool)/\rE m.A6/\True)/\(mE zM True True)/\True) (Sum.inl (wrap i64 (v0+1)))))) (.lf (Sum.inr E1))))
def nu m:=(GQ m).m
abbrev Qdg m:=(GQ m).p
def Z0b:bm:={
 α:=(Int)
 F:=λst a=>([(1,.ptr 0 0 0),(2,.ptr 1 0 0),(3,(lk st 3)),(15,.int i64 a)],[⟨true,42,49,.gen [mB (cT st 1)]⟩,⟨true,42,49,.gen [mB (cT st 2)]⟩])
 a0:=λst=>(lk st 15).toInt
 iy:=λst=>[]++[(rX st 1 0),(rX st 2 1)]}
def Qw2:List (Nat×bm):=[(6,Z0b)]
def Z55:bb:=bb.fz<|mU 62 [] false [.agg ao.sig] [] (λa r=>Qdg (ao.of (aC a 0))) (λa r=>nu (ao.of (aC a 0))) (λX=>.agg (ao.cells X)) (λX=>[])
theorem Qnm:bj pG Z55:=MY<|wv drawn nj (.cons Qj5 (.cons R4 (.nil))) Tryz.func62 Tryz.call62 (λa r=>GQ (ao.of (aC a 0))) [.sl (.ints .u32) false] Qw2 3 (λ_ _ _=>by kernel_rfl) (λ_ _=>rfl) (λ_ _ h=>h) (λh=>by cases h)
def I4(c:je)(port:Int):Tree (je×Int):=
.br (port==0) (.br (decide (c.C6=[])) (.lf (c,4294967295)) (.cn (decide ((0:Int)<=(0:Int)/\0<(c.C6.length:Int))) (.cn (decide ((0:Int)<=(1:Int)/\1<=(c.C6.length:Int)/\(c.C6.length:Int)<=(c.C6.length:Int))) (.lf ({C6:=cZ (dE (c.C6.length:Int)-dE 1) (dA (dE 1) c.C6)},wrap u32 (↑(eV (c.C6.getD (dE 0) (0:UInt8))):Int)))))) (.br (port==1) (.lf (c,wrap u32 (c.C6.length:Int))) (.lf (c,0)))
def XR c port:=(I4 c port).m
theorem Z6b(c:je)(port:Int):(I4 c port).p:=by
 unfold Tree.p I4
 repeat'(first|exact trivial|refine ab (λ_=>?_) (λ_=>?_)|refine ar ?_ ?_|refine cu ?_ ?_|refine au (λ_ _=>?_)|refine dm ?_|refine bq ?_|refine And.intro ?_ ?_)
 all_goals(exact oM)
def Zf2:bb:=mS 122 [] true [.agg je.sig,.one (.int .i64)] [] (λa r=>I4 (je.of (aC a 0)) (av a 1)) (λX=>.dt [.agg (je.cells (X.1)),.int .u32 (X.2)]) (λX=>[])
theorem Zdx:bj pG Zf2:=oS (.nil) Tryz.func122 Tryz.call122 [] [] 2 (λ_ _ _=>by kernel_rfl) (λa r=>Z6b (je.of (aC a 0)) (av a 1)) (λ_ X=>by kernel_rfl)
def Tk(t:jk):Tree Int:=
.br t.C9 (.lf 1) (.lf 0)
def Xb t:=(Tk t).m
def Zon:bb:=mS 123 [] true [.agg jk.sig] [] (λa r=>Tk (jk.of (aC a 0))) (λX=>.int .u32 X) (λX=>[])
theorem Zj3:bj pG Zon:=oS (.nil) Tryz.func123 Tryz.call123 [] [] 2
def Tl(d0:fm)(port:Int):Tree Int:=
.br (port==4) (.lf d0.B9) (.br (port==5) (.lf d0.Frame) (.br (port==6) (.lf (wrap u32 d0.B6)) (.lf 0)))
def Om d0 port:=(Tl d0 port).m
def vA:bb:=mS 124 [] true [.agg fm.sig,.one (.int .i64)] [] (λa r=>Tl (fm.of (aC a 0)) (av a 1)) (λX=>.int .u32 X) (λX=>[])
theorem Zp9:bj pG vA:=oS (.nil) Tryz.func124 Tryz.call124 [] [] 2
def On(n:ij)(port:Int):Tree Int:=
.br (port==7) (.lf n.Frame) (.br (port==8) (.lf n.D8) (.br (port==9) (.br n.C2 (.br n.B3 (.lf (wrap u32 (wrap u32 ((0:Int)+(1:Int))+2))) (.lf (wrap u32 ((0:Int)+(1:Int))))) (.br n.B3 (.lf (wrap u32 ((0:Int)+(2:Int)))) (.lf 0))) (.lf 0)))
def Lr n port:=(On n port).m
def vS:bb:=mS 125 [] true [.agg ij.sig,.one (.int .i64)] [] (λa r=>On (ij.of (aC a 0)) (av a 1)) (λX=>.int .u32 X) (λX=>[])
theorem qB:bj pG vS:=oS (.nil) Tryz.func125 Tryz.call125 [] [] 2
def Ls(b:gr)(port:Int):Tree Int:=
.br (port==10) (.lf b.C4) (.br (port==11) (.an (Qdh b) (.lv (TU b) λ(x0:Int)=>.lf (wrap u32 x0))) (.lf 0))
def X2 b port:=(Ls b port).m
abbrev Qrr b port:=(Ls b port).p
def Zek:bb:=mT 126 [] true [.agg gr.sig,.one (.int .i64)] [] (λa r=>Ls (gr.of (aC a 0)) (av a 1)) (λX=>.int .u32 X) (λX=>[])
theorem Zeh:bj pG Zek:=oT (.cons Qn3 (.nil)) Tryz.func126 Tryz.call126 [] [] 2
def Lq(m:ao)(port clock:Int):Tree (ao×Int):=
let T1:Tree ((ao×Int)):=.lv (XR m.A2 port) λ(x0:je×Int)=>.lf ({A7:=m.A7,Mem:=m.Mem,A2:=x0.1,A9:=m.A9,A4:=m.A4,C1:=m.C1,A1:=m.A1,A0:=m.A0,A3:=m.A3,A6:=m.A6},x0.2);.br (port==0) T1 (.br (port==1) T1 (.br (port==2) (.lf (m,clock)) (.br (port==3) (.lv (Xb m.A9) λ(x2:Int)=>.lf (m,x2)) (.br (port==4) (.lv (Om m.A4 port) λ(x3:Int)=>.lf (m,x3)) (.br (port==5) (.lv (Om m.A4 port) λ(x4:Int)=>.lf (m,x4)) (.br (port==6) (.lv (Om m.A4 port) λ(x5:Int)=>.lf (m,x5)) (.br (port==7) (.lv (Lr m.C1 port) λ(x6:Int)=>.lf (m,x6)) (.br (port==8) (.lv (Lr m.C1 port) λ(x7:Int)=>.lf (m,x7)) (.br (port==9) (.lv (Lr m.C1 port) λ(x8:Int)=>.lf (m,x8)) (let T2:Tree ((ao×Int)):=.an (Qrr m.A1 port) (.lv (X2 m.A1 port) λ(x9:Int)=>.lf (m,x9));.br (port==10) T2 (.br (port==11) T2 (.lf (m,0)))))))))))))
def uM m port clock:=(Lq m port clock).m
abbrev Qfs m port clock:=(Lq m port clock).p
def Qtw:bb:=bb.fz<|mU 64 [] false [.agg ao.sig,.one (.int .i64),.one (.int .u32)] [] (λa r=>Qfs (ao.of (aC a 0)) (av a 1) (av a 2)) (λa r=>uM (ao.of (aC a 0)) (av a 1) (av a 2)) (λX=>.dt [.agg (ao.cells (X.1)),.int .u32 (X.2)]) (λX=>[])
theorem Qsm:bj pG Qtw:=MY<|wv drawn nj (.cons Zdx (.cons Zj3 (.cons Zp9 (.cons qB (.cons Zeh (.nil)))))) Tryz.func64 Tryz.call64 (λa r=>Lq (ao.of (aC a 0)) (av a 1) (av a 2)) [.sl (.ints .u32) false] [] 2 (λ_ _ _=>by kernel_rfl) (λ_ _=>rfl) (λ_ _ h=>h) (λh=>by cases h)
def Th(t:jk)(deadline:Int):Tree jk:=
.lf ({D0:=deadline !=0,B8:=deadline,C9:=false})
def Oi t deadline:=(Th t deadline).m
def Zl2:bb:=mS 127 [] true [.agg jk.sig,.one (.int .u32)] [] (λa r=>Th (jk.of (aC a 0)) (av a 1)) (λX=>.agg (jk.cells X)) (λX=>[])
theorem Zig:bj pG Zl2:=oS (.nil) Tryz.func127 Tryz.call127 [] [] 2
def Ob(m:List Int)(frame:Int):Tree Bool:=
.lv (lZ m) λ(x0:Int)=>.lf (decide (wrap u64 frame<wrap u64 x0))
def I0 m frame:=(Ob m frame).m
def Zay:bb:=mS 134 [] true [.one (.ints .u32),.one (.int .u32)] [] (λa r=>Ob (ek .u32 a 0) (av a 1)) (λX=>.bool X) (λX=>[])
theorem Qrh:bj pG Zay:=oS (.cons Ia (.nil)) Tryz.func134 Tryz.call134 [] [] 2
def N7(m:List Int)(frame:Int):Tree Bool:=
.br (decide (frame>=0)) (.lv (lZ m) λ(x0:Int)=>.lf (decide (frame<x0))) (.lf false)
def IZ m frame:=(N7 m frame).m
def Z0x:bb:=mS 60 [] true [.one (.ints .u32),.one (.int .i64)] [] (λa r=>N7 (ek .u32 a 0) (av a 1)) (λX=>.bool X) (λX=>[])
theorem Qll:bj pG Z0x:=oS (.cons Ia (.nil)) Tryz.func60 Tryz.call60 [] [] 2
def Qn(words:List Int)(z:(Int)×(List Int)):Prop:=0<=z.1/\z.1<=words.length/\(z.2.length:Int)=4*z.1
def N8(words:List Int)(z:(Int)×(List Int)):Nat:=(words.length-z.1).toNat
def Ft(words:List Int):Tree (List UInt8):=
.cn (bJ 0 1&&bT 1 1&&List.all [D.int u8 0] D.plain&&decide ((0:Int)<=(0:Int)/\0<=wrap i64 (4*(words.length:Int))/\wrap i64 (4*(words.length:Int))<=9223372036854775807/\(↑1:Int)*wrap i64 (4*(words.length:Int))<=140737488355328)) (.lp inferInstance (N8 words (0,[])+1) ((True/\((ai.Nil (ai.ints u32 words)\/rE (1:Nat))/\rE (words:List Int))/\rE ((words.length:Int):Int)/\rE (0:Int)/\True)/\rE ([]:List Int)/\True) (0,[]) λ(v0:Int×List Int)=>.br (decide (v0.1<(words.length:Int))) (.cn (bT 1 1&&bJ 0 1&&decide (0<=v0.1/\v0.1<(words.length:Int))) (.cn (decide (1*(v0.2.length+4)<=140737488355328)) (let E1:=words.getD v0.1.toNat 0;.nx ((True/\((ai.Nil (ai.ints u32 words)\/rE (1:Nat))/\rE (words:List Int))/\rE ((words.length:Int):Int)/\rE ((wrap i64 (v0.1+1)):Int)/\True)/\rE ((v0.2++[wrap u8 (words.getD v0.1.toNat 0),wrap u8 (bf u32 (words.getD v0.1.toNat 0) 8),wrap u8 (bf u32 (words.getD v0.1.toNat 0) 16),wrap u8 (bf u32 (words.getD v0.1.toNat 0) 24)]):List Int)/\True) (Sum.inl (wrap i64 (v0.1+1),v0.2++[wrap u8 E1,wrap u8 (bf u32 E1 8),wrap u8 (bf u32 E1 16),wrap u8 (bf u32 E1 24)]))))) (.lf (Sum.inr (bytesOf v0.2))))
def Z2s words:=(Ft words).m
def VA(words:List Int):Prop:=
words.length<=1000000000000
theorem Z2l(words:List Int)(hw:VA words):(Ft words).p:=by
 simp only[VA]at hw
 unfold Tree.p Ft
 repeat'(first|refine ej (inv:=Qn words) (μ:=N8 words) ?_ (Nat.lt_succ_self _) (λ_ _=>?_)|exact trivial|refine ab (λ_=>?_) (λ_=>?_)|refine ar ?_ ?_|refine cu ?_ ?_|refine au (λ_ _=>?_)|refine dm ?_|refine bq ?_|refine And.intro ?_ ?_)
 all_goals((try simp only[Qn,N8]at*);exact oM)
def Z7p:bm:={
 α:=(Int)×(List Int)
 F:=λst a=>([(3,.all 0),(10,(lk st 10)),(11,(lk st 11)),(12,.int i64 a.1)],[⟨false,5,1,.ints u8 a.2⟩])
 a0:=λst=>((lk st 12).toInt,(nI st.rows (rN st 3)))
 iy:=λst=>[]++[(rX st 3 0)]}
def Z01:List (Nat×bm):=[(3,Z7p)]
def Zcr:bb:=mU 66 [] true [.one (.ints .u32)] [] (λa r=>VA (ek .u32 a 0)) (λa r=>Z2s (ek .u32 a 0)) (λX=>.str X) (λX=>[])
theorem Z83:bj pG Zcr:=wv drawn nj (.nil) Tryz.func66 Tryz.call66 (λa r=>Ft (ek .u32 a 0)) [] Z01 3 (hp:=λa r h=>Z2l (ek .u32 a 0) h)
def GG(m:List Int)(frame:Int):Tree ((List UInt8)×Bool):=
.lv (IZ m frame) λ(x0:Bool)=>.br (!x0) (.lf ([],false)) (.cn (bT 1 1&&bJ 0 1&&decide (0<=wrap i64 (frame*32)/\wrap i64 (frame*32)<=wrap i64 (wrap i64 (frame*32)+32)/\wrap i64 (wrap i64 (frame*32)+32)<=(m.length:Int))) (let E1:=cZ (dE (wrap i64 (wrap i64 (frame*32)+32))-dE (wrap i64 (frame*32))) (dA (dE (wrap i64 (frame*32))) m);.an (VA E1) (.lv (Z2s E1) λ(x1:List UInt8)=>.lf (x1,true))))
def Eo m frame:=(GG m frame).m
abbrev Qbn m frame:=(GG m frame).p
def Zc9:bb:=mT 23 [] true [.one (.ints .u32),.one (.int .i64)] [] (λa r=>GG (ek .u32 a 0) (av a 1)) (λX=>.dt [.str (X.1),.bool (X.2)]) (λX=>[])
theorem Qju:bj pG Zc9:=oT (.cons Qll (.cons Z83 (.nil))) Tryz.func23 Tryz.call23 [] [] 2
def Qrz(d0:fm)(bn:Int):Tree (fc×Bool):=
.br (d0.B6 !=1) (.lf ({C3:=0,At:=0,B9:=0,D2:=[]},false)) (.br (d0.D1==1) (.lf ({C3:=3,At:=bn,B9:=d0.B4,D2:=[]},true)) (.br (d0.D1==2) (.lf ({C3:=4,At:=bn,B9:=d0.B4,D2:=d0.B5},true)) (.lf ({C3:=0,At:=0,B9:=0,D2:=[]},false))))
def XT d0 bn:=(Qrz d0 bn).m
def Z5z:bb:=mS 254 [] true [.agg fm.sig,.one (.int .u64)] [] (λa r=>Qrz (fm.of (aC a 0)) (av a 1)) (λX=>.dt [.agg (fc.cells (X.1)),.bool (X.2)]) (λX=>[])
theorem Z37:bj pG Z5z:=oS (.nil) Tryz.func254 Tryz.call254 [] [] 2
def Li(d0:fm)(m:List Int)(cmd bn:Int):Tree (fm×(List fc)):=
.br (d0.B6 !=0) (.lf (d0,[])) (let T1:Tree ((fm×(List fc))):=.lf ({ag:=d0.ag,B9:=d0.B9,Frame:=d0.Frame,B6:=3,D1:=d0.D1,B4:=d0.B4,B0:=d0.B0,B5:=d0.B5},[]);.br (decide (d0.B9>=d0.ag)) T1 (.lv (I0 m d0.Frame) λ(x0:Bool)=>.br (!x0) T1 (.br (cmd==2) (.an (Qbn m (wrap i64 d0.Frame)) (.lv (Eo m (wrap i64 d0.Frame)) λ(x1:List UInt8×Bool)=>let E2:=({ag:=d0.ag,B9:=d0.B9,Frame:=d0.Frame,B6:=1,D1:=cmd,B4:=d0.B9,B0:=d0.Frame,B5:=x1.1}:fm);.lv (XT E2 bn) λ(x2:fc×Bool)=>.lf (E2,[x2.1]))) (let E3:=({ag:=d0.ag,B9:=d0.B9,Frame:=d0.Frame,B6:=1,D1:=cmd,B4:=d0.B9,B0:=d0.Frame,B5:=[]}:fm);.lv (XT E3 bn) λ(x3:fc×Bool)=>.lf (E3,[x3.1])))))
def Qxh d0 m cmd bn:=(Li d0 m cmd bn).m
abbrev Qs0 d0 m cmd bn:=(Li d0 m cmd bn).p
def Zf7:bb:=mT 192 [] true [.agg fm.sig,.one (.ints .u32),.one (.int .i64),.one (.int .u64)] [] (λa r=>Li (fm.of (aC a 0)) (ek .u32 a 1) (av a 2) (av a 3)) (λX=>.dt [.agg (fm.cells (X.1)),.sl 4 (.ba .bd (X.2)) true]) (λX=>[])
theorem Zbs:bj pG Zf7:=oT (.cons Qrh (.cons Qju (.cons Z37 (.nil)))) Tryz.func192 Tryz.call192 [.sl (.ba .bd) true] [] 2
def Lj(d0:fm)(m:List Int)(port v bn:Int):Tree (fm×(List fc)):=
.br (port==4) (.lf ({ag:=d0.ag,B9:=v,Frame:=d0.Frame,B6:=d0.B6,D1:=d0.D1,B4:=d0.B4,B0:=d0.B0,B5:=d0.B5},[])) (.br (port==5) (.lf ({ag:=d0.ag,B9:=d0.B9,Frame:=v,B6:=d0.B6,D1:=d0.D1,B4:=d0.B4,B0:=d0.B0,B5:=d0.B5},[])) (.br (port==6) (let T1:Tree ((fm×(List fc))):=.an (Qs0 d0 m (wrap i64 v) bn) (.lv (Qxh d0 m (wrap i64 v) bn) λ(x0:fm×List fc)=>.lf (x0.1,x0.2));.br (v==1) T1 (.br (v==2) T1 (.br (v==0) (.lv (Lk d0) λ(x2:Bool)=>.br x2 (.lf ({ag:=d0.ag,B9:=d0.B9,Frame:=d0.Frame,B6:=0,D1:=d0.D1,B4:=d0.B4,B0:=d0.B0,B5:=d0.B5},[])) (.lf (d0,[]))) (.lf (d0,[]))))) (.lf (d0,[]))))
def XS d0 m port v bn:=(Lj d0 m port v bn).m
abbrev Qzt d0 m port v bn:=(Lj d0 m port v bn).p
def Zp7:bb:=mT 128 [] true [.agg fm.sig,.one (.ints .u32),.one (.int .i64),.one (.int .u32),.one (.int .u64)] [] (λa r=>Lj (fm.of (aC a 0)) (ek .u32 a 1) (av a 2) (av a 3) (av a 4)) (λX=>.dt [.agg (fm.cells (X.1)),.sl 4 (.ba .bd (X.2)) true]) (λX=>[])
theorem Zke:bj pG Zp7:=oT (.cons Zbs (.cons Qok (.nil))) Tryz.func128 Tryz.call128 [.sl (.ba .bd) true] [] 2
def Oc(m:List Int)(frame:Int):Tree Bool:=
.lv (lZ m) λ(x0:Int)=>.lf (decide (wrap u64 frame<wrap u64 x0))
def GJ m frame:=(Oc m frame).m
def Zf1:bb:=mS 135 [] true [.one (.ints .u32),.one (.int .u32)] [] (λa r=>Oc (ek .u32 a 0) (av a 1)) (λX=>.bool X) (λX=>[])
theorem Qmv:bj pG Zf1:=oS (.cons Ia (.nil)) Tryz.func135 Tryz.call135 [] [] 2
def Ll(n:ij)(m:List Int)(bn:Int):Tree (List fc):=
.br (decide (n.D6<1)) (.lf ([])) (.br (decide (n.D6>128)) (.lf ([])) (.lv (GJ m n.Frame) λ(x0:Bool)=>.br (!x0) (.lf ([])) (.an (Qbn m (wrap i64 n.Frame)) (.lv (Eo m (wrap i64 n.Frame)) λ(x1:List UInt8×Bool)=>.cn (decide ((0:Int)<=(0:Int)/\0<=n.D6/\n.D6<=(x1.1.length:Int))) (.lf ([{C3:=2,At:=bn,B9:=0,D2:=cZ (dE n.D6-dE 0) (dA (dE 0) x1.1)}]))))))
def Zds n m bn:=(Ll n m bn).m
abbrev Qz0 n m bn:=(Ll n m bn).p
def Zqm:bb:=mT 193 [] true [.agg ij.sig,.one (.ints .u32),.one (.int .u64)] [] (λa r=>Ll (ij.of (aC a 0)) (ek .u32 a 1) (av a 2)) (λX=>.sl 4 (.ba .bd X) true) (λX=>[])
theorem Zj1:bj pG Zqm:=oT (.cons Qmv (.cons Qju (.nil))) Tryz.func193 Tryz.call193 [.sl (.ba .bd) true] [] 2
def Lm(n:ij)(m:List Int)(port v bn:Int):Tree (ij×(List fc)):=
.br (port==7) (.lf ({Frame:=v,D6:=n.D6,C2:=n.C2,B7:=n.B7,B3:=n.B3,D8:=n.D8},[])) (.br (port==8) (.lf ({Frame:=n.Frame,D6:=v,C2:=n.C2,B7:=n.B7,B3:=n.B3,D8:=n.D8},[])) (.br (port==9) (.br (v==1) (.an (Qz0 n m bn) (.lv (Zds n m bn) λ(x0:List fc)=>.lf (n,x0))) (.br (v==2) (.lv (GJ m n.Frame) λ(x1:Bool)=>.br x1 (.br (!n.C2) (.br (!n.B3) (.lf ({Frame:=n.Frame,D6:=n.D6,C2:=true,B7:=n.Frame,B3:=n.B3,D8:=n.D8},[])) (.lf (n,[]))) (.lf (n,[]))) (.lf (n,[]))) (.br (v==0) (.lf ({Frame:=n.Frame,D6:=n.D6,C2:=n.C2,B7:=n.B7,B3:=false,D8:=0},[])) (.lf (n,[]))))) (.lf (n,[]))))
def XV n m port v bn:=(Lm n m port v bn).m
abbrev Z57 n m port v bn:=(Lm n m port v bn).p
def xB:bb:=mT 129 [] true [.agg ij.sig,.one (.ints .u32),.one (.int .i64),.one (.int .u32),.one (.int .u64)] [] (λa r=>Lm (ij.of (aC a 0)) (ek .u32 a 1) (av a 2) (av a 3) (av a 4)) (λX=>.dt [.agg (ij.cells (X.1)),.sl 4 (.ba .bd (X.2)) true]) (λX=>[])
theorem Zph:bj pG xB:=oT (.cons Zj1 (.cons Qmv (.nil))) Tryz.func129 Tryz.call129 [.sl (.ba .bd) true] [] 2
def W4(m:List Int)(frame:Int)(s:List UInt8)(z:(Int)×(List Int)):Nat:=(32-z.1).toNat
def GF(m:List Int)(frame:Int)(s:List UInt8):Tree ((List Int)×Bool):=
.an (mN m) (.lv (jK m) λ(x0:List Int)=>.lv (IZ m frame) λ(x1:Bool)=>.br (!x1) (.lf (x0,false)) (.br ((s.length:Int) !=(128:Int)) (.lf (x0,false)) (.lp inferInstance (W4 m frame s (0,x0)+1) ((rE (s:List UInt8)/\True/\rE ((wrap i64 (frame*32)):Int)/\rE (0:Int)/\True)/\rE (x0:List Int)/\True) (0,x0) λ(v0:Int×List Int)=>.br (decide (v0.1<32)) (.cn (decide (0<=wrap i64 (4*v0.1)/\wrap i64 (4*v0.1)<=wrap i64 (wrap i64 (4*v0.1)+4)/\wrap i64 (wrap i64 (4*v0.1)+4)<=(s.length:Int))) (let E1:=cZ (dE (wrap i64 (wrap i64 (4*v0.1)+4))-dE (wrap i64 (4*v0.1))) (dA (dE (wrap i64 (4*v0.1))) s);.cn (decide ((0:Int)<=(0:Int)/\0<(↑(dJ E1):Int))) (.cn (decide ((0:Int)<=(1:Int)/\1<(↑(dJ E1):Int))) (.cn (decide ((0:Int)<=(2:Int)/\2<(↑(dJ E1):Int))) (.cn (decide ((0:Int)<=(3:Int)/\3<(↑(dJ E1):Int))) (.cn (bT 1 1&&bJ 0 1&&decide (0<=wrap i64 (wrap i64 (frame*32)+v0.1)/\wrap i64 (wrap i64 (frame*32)+v0.1)<(v0.2.length:Int))) (.nx ((rE (s:List UInt8)/\True/\rE ((wrap i64 (frame*32)):Int)/\rE ((wrap i64 (v0.1+1)):Int)/\True)/\rE ((dF v0.2 (dE (wrap i64 (wrap i64 (frame*32)+v0.1))) (il u32 (il u32 (il u32 (wrap u32 (↑(eV (aK (cZ (dE (wrap i64 (wrap i64 (4*v0.1)+4))-dE (wrap i64 (4*v0.1))) (dA (dE (wrap i64 (4*v0.1))) s)) (dE 0) (0:UInt8))):Int)) (eg u32 (wrap u32 (↑(eV (aK (cZ (dE (wrap i64 (wrap i64 (4*v0.1)+4))-dE (wrap i64 (4*v0.1))) (dA (dE (wrap i64 (4*v0.1))) s)) (dE 1) (0:UInt8))):Int)) 8)) (eg u32 (wrap u32 (↑(eV (aK (cZ (dE (wrap i64 (wrap i64 (4*v0.1)+4))-dE (wrap i64 (4*v0.1))) (dA (dE (wrap i64 (4*v0.1))) s)) (dE 2) (0:UInt8))):Int)) 16)) (eg u32 (wrap u32 (↑(eV (aK (cZ (dE (wrap i64 (wrap i64 (4*v0.1)+4))-dE (wrap i64 (4*v0.1))) (dA (dE (wrap i64 (4*v0.1))) s)) (dE 3) (0:UInt8))):Int)) 24))):List Int)/\True) (Sum.inl (wrap i64 (v0.1+1),dF v0.2 (dE (wrap i64 (wrap i64 (frame*32)+v0.1))) (il u32 (il u32 (il u32 (wrap u32 (↑(eV (aK E1 (dE 0) (0:UInt8))):Int)) (eg u32 (wrap u32 (↑(eV (aK E1 (dE 1) (0:UInt8))):Int)) 8)) (eg u32 (wrap u32 (↑(eV (aK E1 (dE 2) (0:UInt8))):Int)) 16)) (eg u32 (wrap u32 (↑(eV (aK E1 (dE 3) (0:UInt8))):Int)) 24))))))))))) (.lf (Sum.inr (v0.2,true))))))
def Ep m frame s:=(GF m frame s).m
abbrev Q85 m frame s:=(GF m frame s).p
def Qyi:bm:={
 α:=(Int)×(List Int)
 F:=λst a=>([(2,(lk st 2)),(8,.all 0),(9,(lk st 9)),(26,.int i64 a.1)],[⟨false,23,1,.ints u32 a.2⟩])
 a0:=λst=>((lk st 26).toInt,(nI st.rows (rN st 8)))
 iy:=λst=>[]++[(rX st 8 0)]}
def Qsc:List (Nat×bm):=[(6,Qyi)]
def Z16:bb:=mT 21 [] true [.one (.ints .u32),.one (.int .i64),.one (.str)] [] (λa r=>GF (ek .u32 a 0) (av a 1) (gh a 2)) (λX=>.dt [.all 0,.bool (X.2)]) (λX=>[⟨false,23,1,.ints .u32 (X.1)⟩])
theorem Qd8:bj pG Z16:=oT (.cons EI (.cons Qll (.nil))) Tryz.func21 Tryz.call21 [.row 23 1 (.ints .u32)] Qsc 3
def strings_Repeat(s:List UInt8)(count:Int):(List UInt8):=
Lib.repeatL s count.toNat
def Qbr(s:List UInt8)(count:Int):Prop:=
0<=count/\count<=9223372036854775807/\s.length*count.toNat<=140737488355328
def Qhg(s:List UInt8)(count:Int):List D:=[.str s,.int .i64 count]
def Qhj(s:List UInt8)(count:Int):List Row:=[]
def Qbw(X:List UInt8):D:=.str X
def Qco(X:List UInt8):List Row:=[]
def Qj3:List PT:=[.one (.str),.one (.int .i64)]
def Qit:List RT:=[]
def Qvi(args:List D)(rows:List Row):(List UInt8):=strings_Repeat (gh args 0) (av args 1)
def Qv2(args:List D)(rows:List Row):Prop:=Qbr (gh args 0) (av args 1)
def Z07:bb:=mU 194 [] true Qj3 Qit Qv2 Qvi Qbw Qco
theorem Qr(s:List UInt8)(count:Int)(hw:Qbr s count):kq pG 194 (Qhg s count) (Qhj s count) (Qbw (strings_Repeat s count)) (Qco (strings_Repeat s count)):=by
 exact qf Tryz.strings_Repeat hw.1 hw.2.1 hw.2.2
set_option maxRecDepth 100000 in
theorem Qso(args:List D)(rows:List Row):mq Qj3 args 0=Qhg (gh args 0) (av args 1):=by kernel_rfl
set_option maxRecDepth 100000 in
theorem Qr3(args:List D)(rows:List Row):lG Qit rows 0=Qhj (gh args 0) (av args 1):=by kernel_rfl
set_option maxRecDepth 100000 in
theorem Qwi(X:List UInt8):(wu (Qbw X)&&jP (Qco X))=true:=by kernel_rfl
theorem Qwk:bj pG Z07:=MZ Tryz.call194 (λargs rows hp=>by rw[Qso args rows,Qr3 args rows];exact Qr (gh args 0) (av args 1) hp) (λ_ X=>Qwi X)
def Ei(b:gr)(m:List Int)(port v:Int):Tree (gr×(List Int)):=
let T1:Tree ((gr×(List Int))):=.an (mN m) (.lv (jK m) λ(x0:List Int)=>.lf (b,x0));.br (decide (v>=32)) T1 (.cn (decide (0<=v)) (.br (port==10) (.lv (lZ m) λ(x1:Int)=>.br (decide (wrap i64 v<x1)) (.br (bc u32 b.C0 (eg u32 1 v)==0) (.an (Qbr [(0:UInt8)] 128) (.lv (strings_Repeat [(0:UInt8)] 128) λ(x2:List UInt8)=>.an (Q85 m (wrap i64 v) x2) (.lv (Ep m (wrap i64 v) x2) λ(x3:List Int×Bool)=>.lf ({C4:=b.C4,C0:=il u32 b.C0 (eg u32 1 v)},x3.1)))) T1) T1) (.br (port==11) (.an (mN m) (.lv (jK m) λ(x6:List Int)=>.lf ({C4:=b.C4,C0:=nU u32 b.C0 (eg u32 1 v)},x6))) T1)))
def Hb b m port v:=(Ei b m port v).m
abbrev Qod b m port v:=(Ei b m port v).p
def Zbb:bb:=mT 130 [] true [.agg gr.sig,.one (.ints .u32),.one (.int .i64),.one (.int .u32)] [] (λa r=>Ei (gr.of (aC a 0)) (ek .u32 a 1) (av a 2) (av a 3)) (λX=>.dt [.agg (gr.cells (X.1)),.all 0]) (λX=>[⟨false,23,1,.ints .u32 (X.2)⟩])
theorem Z7a:bj pG Zbb:=oT (.cons EI (.cons Ia (.cons Qd8 (.cons Qwk (.nil))))) Tryz.func130 Tryz.call130 [.row 23 1 (.ints .u32)] [] 2
def Lp(m:ao)(port v bn:Int):Tree (ao×(List fc)):=
.br (port==0) (.lf (m,[{C3:=1,At:=bn,B9:=0,D2:=[(λ(n:Int)=>UInt8.ofNat n.toNat) (wrap u8 v)]}])) (.br (port==3) (.lv (Oi m.A9 v) λ(x0:jk)=>.lf ({A7:=m.A7,Mem:=m.Mem,A2:=m.A2,A9:=x0,A4:=m.A4,C1:=m.C1,A1:=m.A1,A0:=m.A0,A3:=m.A3,A6:=m.A6},[])) (let T1:Tree ((ao×(List fc))):=.an (Qzt m.A4 m.Mem port v bn) (.lv (XS m.A4 m.Mem port v bn) λ(x1:fm×List fc)=>.lf ({A7:=m.A7,Mem:=m.Mem,A2:=m.A2,A9:=m.A9,A4:=x1.1,C1:=m.C1,A1:=m.A1,A0:=m.A0,A3:=m.A3,A6:=m.A6},x1.2));.br (port==4) T1 (.br (port==5) T1 (.br (port==6) T1 (let T2:Tree ((ao×(List fc))):=.an (Z57 m.C1 m.Mem port v bn) (.lv (XV m.C1 m.Mem port v bn) λ(x4:ij×List fc)=>.lf ({A7:=m.A7,Mem:=m.Mem,A2:=m.A2,A9:=m.A9,A4:=m.A4,C1:=x4.1,A1:=m.A1,A0:=m.A0,A3:=m.A3,A6:=m.A6},x4.2));.br (port==7) T2 (.br (port==8) T2 (.br (port==9) T2 (let T3:Tree ((ao×(List fc))):=.an (Qod m.A1 m.Mem port v) (.lv (Hb m.A1 m.Mem port v) λ(x7:gr×List Int)=>.lf ({A7:=m.A7,Mem:=x7.2,A2:=m.A2,A9:=m.A9,A4:=m.A4,C1:=m.C1,A1:=x7.1,A0:=m.A0,A3:=m.A3,A6:=m.A6},[]));.br (port==10) T3 (.br (port==11) T3 (.lf (m,[])))))))))))
def FD m port v bn:=(Lp m port v bn).m
abbrev Qet m port v bn:=(Lp m port v bn).p
def Qtb:bb:=bb.fz<|mU 65 [] false [.agg ao.sig,.one (.int .i64),.one (.int .u32),.one (.int .u64)] [] (λa r=>Qet (ao.of (aC a 0)) (av a 1) (av a 2) (av a 3)) (λa r=>FD (ao.of (aC a 0)) (av a 1) (av a 2) (av a 3)) (λX=>.dt [.agg (ao.cells (X.1)),.sl 4 (.ba .bd (X.2)) true]) (λX=>[])
theorem Qr4:bj pG Qtb:=MY<|wv drawn nj (.cons Zig (.cons Zke (.cons Zph (.cons Z7a (.nil))))) Tryz.func65 Tryz.call65 (λa r=>Lp (ao.of (aC a 0)) (av a 1) (av a 2) (av a 3)) [.sl (.ints .u32) false,.sl (.ba .bd) true] [] 2 (λ_ _ _=>by kernel_rfl) (λ_ _=>rfl) (λ_ _ h=>h) (λh=>by cases h)
def GS(m:ao)(clock:Int):Tree (ao×(List fc)):=
.an (mN m.Mem) (.lv (jK m.Mem) λ(x0:List Int)=>let E1:=({A7:=m.A7,Mem:=x0,A2:=m.A2,A9:=m.A9,A4:=m.A4,C1:=m.C1,A1:=m.A1,A0:=m.A0,A3:=m.A3,A6:=m.A6}:ao);.an (Qfc E1) (.lv (AM E1) λ(x1:Bool)=>.br (!x1) (.lf (E1,[])) (.an (Qdg E1) (.lv (nu E1) λ(x2:ao)=>.an (Qot x2.A7 x2.Mem) (.lv (wU x2.A7 x2.Mem) λ(x3:bg×List Int×kY)=>let E2:=({A7:=x3.1,Mem:=x3.2.1,A2:=x2.A2,A9:=x2.A9,A4:=x2.A4,C1:=x2.C1,A1:=x2.A1,A0:=x2.A0,A3:=x2.A3,A6:=x2.A6}:ao);.br (x3.2.2.C3==1) (.an (Qfs E2 x3.2.2.C7 clock) (.lv (uM E2 x3.2.2.C7 clock) λ(x4:ao×Int)=>.br (x3.2.2.D7 !=0) (.cn (bJ 0 1&&decide (0<=x3.2.2.D7/\x3.2.2.D7<(↑16:Int))) (.lf ({A7:={X:=fu.of 0 (dF (fu.l x4.1.A7.X) x3.2.2.D7.toNat x4.2),Pc:=x4.1.A7.Pc,B1:=x4.1.A7.B1},Mem:=x4.1.Mem,A2:=x4.1.A2,A9:=x4.1.A9,A4:=x4.1.A4,C1:=x4.1.C1,A1:=x4.1.A1,A0:=wrap u64 (x4.1.A0+1),A3:=x4.1.A3,A6:=x4.1.A6},[]))) (.lf ({A7:=x4.1.A7,Mem:=x4.1.Mem,A2:=x4.1.A2,A9:=x4.1.A9,A4:=x4.1.A4,C1:=x4.1.C1,A1:=x4.1.A1,A0:=wrap u64 (x4.1.A0+1),A3:=x4.1.A3,A6:=x4.1.A6},[])))) (.br (x3.2.2.C3==2) (.an (Qet E2 x3.2.2.C7 x3.2.2.Value m.A0) (.lv (FD E2 x3.2.2.C7 x3.2.2.Value m.A0) λ(x5:ao×List fc)=>.lf ({A7:=x5.1.A7,Mem:=x5.1.Mem,A2:=x5.1.A2,A9:=x5.1.A9,A4:=x5.1.A4,C1:=x5.1.C1,A1:=x5.1.A1,A0:=wrap u64 (x5.1.A0+1),A3:=x5.1.A3,A6:=x5.1.A6},x5.2))) (.br (x3.2.2.C3==3) (.lf ({A7:=x3.1,Mem:=x3.2.1,A2:=x2.A2,A9:=x2.A9,A4:=x2.A4,C1:=x2.C1,A1:=x2.A1,A0:=wrap u64 (x2.A0+1),A3:=true,A6:=x2.A6},[])) (.br (x3.2.2.C3==4) (.lf ({A7:=x3.1,Mem:=x3.2.1,A2:=x2.A2,A9:=x2.A9,A4:=x2.A4,C1:=x2.C1,A1:=x2.A1,A0:=wrap u64 (x2.A0+1),A3:=x2.A3,A6:=true},[])) (.lf ({A7:=x3.1,Mem:=x3.2.1,A2:=x2.A2,A9:=x2.A9,A4:=x2.A4,C1:=x2.C1,A1:=x2.A1,A0:=wrap u64 (x2.A0+1),A3:=x2.A3,A6:=x2.A6},[]))))))))))
def AT m clock:=(GS m clock).m
abbrev O1 m clock:=(GS m clock).p
def Z7o:bb:=bb.fz<|mU 22 [] false [.agg ao.sig,.one (.int .u32)] [] (λa r=>O1 (ao.of (aC a 0)) (av a 1)) (λa r=>AT (ao.of (aC a 0)) (av a 1)) (λX=>.dt [.agg (ao.cells (X.1)),.sl 4 (.ba .bd (X.2)) false]) (λX=>[])
theorem Z5j:bj pG Z7o:=MY<|wv drawn nj (.cons EI (.cons Qp6 (.cons Qnm (.cons Z5g (.cons Qsm (.cons Qr4 (.nil))))))) Tryz.func22 Tryz.call22 (λa r=>GS (ao.of (aC a 0)) (av a 1)) [.sl (.ints .u32) false,.sl (.ba .bd) false] [] 2 (λ_ _ _=>by kernel_rfl) (λ_ _=>rfl) (λ_ _ h=>h) (λh=>by cases h)
end
noncomputable section
def Z4u(op:Int):Tree Int:=
let T1:Tree (Int):=.br (op==49) (.lf 3) (let T2:Tree (Int):=.br (op==24) (.lf 6) (.br (op==48) (.lf 7) (.br (op==58) (.lf 8) (.br (op==59) (.lf 8) (.br (op==60) (.lf 9) (.br (op==61) (.lf 9) (.br (op==56) (.lf 1) (.br (op==57) (.lf 1) (.br (decide (op>=62)) (.br (decide (op<=64)) (.lf 1) (.lf 0)) (.lf 0)))))))));.br (decide (op>=17)) (.br (decide (op<=19)) (.lf 4) (.br (decide (op>=20)) (.br (decide (op<=22)) (.lf 5) T2) T2)) (.br (decide (op>=20)) (.br (decide (op<=22)) (.lf 5) T2) T2));let T3:Tree (Int):=.br (op==16) (.lf 3) (.br (op==23) (.lf 3) (.br (decide (op>=32)) (.br (decide (op<=36)) (.lf 3) (.br (decide (op>=40)) (.br (decide (op<=45)) (.lf 3) T1) T1)) (.br (decide (op>=40)) (.br (decide (op<=45)) (.lf 3) T1) T1)));.br (decide (op>=1)) (.br (decide (op<=13)) (.lf 2) T3) T3
def oW op:=(Z4u op).m
def Zl4:bb:=mS 154 [] true [.one (.int .i64)] [] (λa r=>Z4u (av a 0)) (λX=>.int .i64 X) (λX=>[])
theorem R8:bj pG Zl4:=oS (.nil) Tryz.func154 Tryz.call154 [] [] 2
def Tt(r:Int):Tree Bool:=
.br (decide (r>=0)) (.lf (decide (r<=15))) (.lf false)
def Lz r:=(Tt r).m
def Z5n:bb:=mS 236 [] true [.one (.int .i64)] [] (λa r=>Tt (av a 0)) (λX=>.bool X) (λX=>[])
theorem Z0f:bj pG Z5n:=oS (.nil) Tryz.func236 Tryz.call236 [] [] 2
def Xr(f:Int):Tree (Int×Int):=
.br (f==3) (.lf ((-32768),32767)) (.br (f==7) (.lf ((-32768),32767)) (.br (f==4) (.lf (0,65535)) (.br (f==6) (.lf (0,65535)) (.br (f==5) (.lf (0,31)) (.br (f==8) (.lf (0,7)) (.br (f==9) (.lf (0,11)) (.lf (0,0))))))))
def Xq f:=(Xr f).m
def Zby:bb:=mS 155 [] true [.one (.int .i64)] [] (λa r=>Xr (av a 0)) (λX=>.dt [.int .i64 (X.1),.int .i64 (X.2)]) (λX=>[])
theorem Qri:bj pG Zby:=oS (.nil) Tryz.func155 Tryz.call155 [] [] 2
def Ow(i:gm):Tree Bool:=
.lv (oW i.Op) λ(x0:Int)=>.br (x0==0) (.lf false) (.lv (Lz i.A) λ(x1:Bool)=>.br (!x1) (.lf false) (.lv (Lz i.B) λ(x2:Bool)=>.br (!x2) (.lf false) (.lv (Lz i.C) λ(x3:Bool)=>.br (!x3) (.lf false) (.lv (Xq x0) λ(x4:Int×Int)=>.br (decide (wrap i64 i.bo<x4.1)) (.lf false) (.br (decide (wrap i64 i.bo>x4.2)) (.lf false) (let T1:Tree (Bool):=.br (x0==1) (.br (i.A !=0) (.lf false) (.br (i.B==0) (.lf true) (.br (decide (x0>=2)) (.lf (decide (x0<=5))) (.lf false)))) (.br (i.B==0) (.lf true) (.br (decide (x0>=2)) (.lf (decide (x0<=5))) (.lf false)));.br (x0 !=2) (.br (i.C !=0) (.lf false) T1) T1))))))
def Ek i:=(Ow i).m
def Zgm:bb:=mS 153 [] true [.agg gm.sig] [] (λa r=>Ow (gm.of (aC a 0))) (λX=>.bool X) (λX=>[])
theorem Qve:bj pG Zgm:=oS (.cons R8 (.cons Z0f (.cons Qri (.nil)))) Tryz.func153 Tryz.call153 [] [] 2
def S3(i:gm):Tree (Int×Bool):=
.lv (Ek i) λ(x0:Bool)=>.br (!x0) (.lf (0,false)) (.lf (il u32 (il u32 (il u32 (il u32 (eg u32 (wrap u32 i.Op) 24) (eg u32 (wrap u32 i.A) 20)) (eg u32 (wrap u32 i.B) 16)) (bc u32 (wrap u32 i.bo) 65535)) (wrap u32 i.C),true))
def oV i:=(S3 i).m
def Zdu:bb:=mS 96 [] true [.agg gm.sig] [] (λa r=>S3 (gm.of (aC a 0))) (λX=>.dt [.int .u32 (X.1),.bool (X.2)]) (λX=>[])
theorem Qjy:bj pG Zdu:=oS (.cons Qve (.nil)) Tryz.func96 Tryz.call96 [] [] 2
def Z8p:Tree (List Int):=
.lf ([1,2,3,4,5,6,7,8,9,10,11,12,13,16,16,17,18,19,20,21,22,23,24,24,32,32,33,34,35,35,36,40,41,42,43,44,45,48,49,56,57,58,59,60,60,61,61,62,63,64])
def Zco:(List Int):=(Z8p).m
def Zpa:bb:=mS 156 [] true [] [] (λa r=>Z8p) (λX=>.sl 1 (.ints .i64 X) true) (λX=>[])
theorem Zl7:bj pG Zpa:=oS (.nil) Tryz.func156 Tryz.call156 [.sl (.ints .i64) true] [] 2
def Z5h(DQ:Int):Tree (Int×Int):=
let E1:=wrap u64 (nh u64 (wrap u64 (DQ+11400714819323198485)) (bf u64 (wrap u64 (DQ+11400714819323198485)) 30)*13787848793156543929);let E2:=wrap u64 (nh u64 E1 (bf u64 E1 27)*10723151780598845931);.lf (nh u64 E2 (bf u64 E2 31),wrap u64 (DQ+11400714819323198485))
def Zff DQ:=(Z5h DQ).m
def Zl0:bb:=mS 116 [] true [.one (.int .u64)] [] (λa r=>Z5h (av a 0)) (λX=>.dt [.int .u64 (X.1),.int .u64 (X.2)]) (λX=>[])
theorem Zht:bj pG Zl0:=oS (.nil) Tryz.func116 Tryz.call116 [] [] 2
def Z8d(n k:Int):Tree Int:=
.lv (Zff (nh u64 (wrap u64 n) (wrap u64 (wrap u64 k*11400714819323198485)))) λ(x0:Int×Int)=>.lf (wrap i64 (bf u64 x0.1 1))
def Zmx n k:=(Z8d n k).m
def Zqd:bb:=mS 58 [] true [.one (.int .i64),.one (.int .i64)] [] (λa r=>Z8d (av a 0) (av a 1)) (λX=>.int .i64 X) (λX=>[])
theorem Zkq:bj pG Zqd:=oS (.cons Zht (.nil)) Tryz.func58 Tryz.call58 [] [] 2
def Qp8(n k:Int):Tree Int:=
.cn (decide (k≠0)) (.br (decide (dD n k<0)) (.lf (wrap i64 (dD n k+k))) (.lf (dD n k)))
def Gc n k:=(Qp8 n k).m
abbrev Km n k:=(Qp8 n k).p
def Zep:bb:=mT 15 [] true [.one (.int .i64),.one (.int .i64)] [] (λa r=>Qp8 (av a 0) (av a 1)) (λX=>.int .i64 X) (λX=>[])
theorem Qu1:bj pG Zep:=oT (.nil) Tryz.func15 Tryz.call15 [] [] 2
def Vw(n:Int):Tree gm:=
.lv Zco λ(x0:List Int)=>.lv (Zmx n 1) λ(x1:Int)=>.an (Km x1 (x0.length:Int)) (.lv (Gc x1 (x0.length:Int)) λ(x2:Int)=>.cn (bT 1 1&&bJ 0 1&&decide (0<=x2/\x2<(x0.length:Int))) (.an (Km (bf i64 x1 8) 6) (.lv (Gc (bf i64 x1 8) 6) λ(x3:Int)=>.an (Km (bf i64 x1 12) 6) (.lv (Gc (bf i64 x1 12) 6) λ(x4:Int)=>.an (Km (bf i64 x1 16) 6) (.lv (Gc (bf i64 x1 16) 6) λ(x5:Int)=>.an (Km (bf i64 x1 20) 24) (.lv (Gc (bf i64 x1 20) 24) λ(x6:Int)=>.br (decide (x0.getD x2.toNat (0:Int)<=(13:Int))) (.lf ({Op:=x0.getD x2.toNat 0,A:=x3,B:=x4,C:=x5,bo:=0})) (let E4:=({Op:=x0.getD x2.toNat 0,A:=x3,B:=x4,C:=0,bo:=wrap i32 (wrap i64 (wrap i64 (8*x6)-32))}:gm);let T1:Tree (gm):=.br (x0.getD x2.toNat (0:Int)==(49:Int)) (.lf (E4)) (.br (x0.getD x2.toNat (0:Int)==(24:Int)) (.lf ({Op:=x0.getD x2.toNat 0,A:=x3,B:=0,C:=0,bo:=wrap i32 (wrap i64 (x6*bc i64 (bf i64 x1 40) 1))})) (let T2:Tree (gm):=let E6:=({Op:=x0.getD x2.toNat 0,A:=x3,B:=0,C:=0,bo:=wrap i32 (dD x6 8)}:gm);.br (x0.getD x2.toNat (0:Int)==(58:Int)) (.lf (E6)) (.br (x0.getD x2.toNat (0:Int)==(59:Int)) (.lf (E6)) (let E5:=({Op:=x0.getD x2.toNat 0,A:=x3,B:=0,C:=0,bo:=wrap i32 (dD x6 12)}:gm);.br (x0.getD x2.toNat (0:Int)==(60:Int)) (.lf (E5)) (.br (x0.getD x2.toNat (0:Int)==(61:Int)) (.lf (E5)) (.lf ({Op:=x0.getD x2.toNat 0,A:=0,B:=0,C:=0,bo:=0})))));.br (decide (x0.getD x2.toNat (0:Int)>=(17:Int))) (.br (decide (x0.getD x2.toNat (0:Int)<=(22:Int))) (.lf ({Op:=x0.getD x2.toNat 0,A:=x3,B:=x4,C:=0,bo:=wrap i32 x6})) T2) T2));let T3:Tree (gm):=.br (x0.getD x2.toNat (0:Int)==(16:Int)) (.lf (E4)) (.br (x0.getD x2.toNat (0:Int)==(23:Int)) (.lf (E4)) (.br (decide (x0.getD x2.toNat (0:Int)>=(32:Int))) (.br (decide (x0.getD x2.toNat (0:Int)<=(36:Int))) (.lf (E4)) T1) T1));.br (decide (x0.getD x2.toNat (0:Int)>=(40:Int))) (.br (decide (x0.getD x2.toNat (0:Int)<=(48:Int))) (.br (x0.getD x2.toNat (0:Int)==(48:Int)) (.lf ({Op:=x0.getD x2.toNat 0,A:=x3,B:=0,C:=0,bo:=wrap i32 (wrap i64 (x6-12))})) (.lf ({Op:=x0.getD x2.toNat 0,A:=x3,B:=x4,C:=0,bo:=wrap i32 (wrap i64 (x6-12))}))) T3) T3)))))))
def Zf4 n:=(Vw n).m
abbrev Qfz n:=(Vw n).p
def Zlq:bb:=mT 98 [] true [.one (.int .i64)] [] (λa r=>Vw (av a 0)) (λX=>.agg (gm.cells X)) (λX=>[])
theorem Zih:bj pG Zlq:=oT (.cons Zl7 (.cons Zkq (.cons Qu1 (.nil)))) Tryz.func98 Tryz.call98 [] [] 2
def Qs6(l:List Int)(z:(Int)×(List Int)):Prop:=0<=z.1/\z.1<=l.length/\(z.2.length:Int)=z.1
def S5(l:List Int)(z:(Int)×(List Int)):Nat:=(l.length-z.1).toNat
def NP(l:List Int):Tree (List Int):=
.lp inferInstance (S5 l (0,[])+1) ((((ai.Nil (ai.ints i64 l)\/rE (1:Nat))/\rE (l:List Int))/\True/\rE (0:Int)/\True)/\rE ([]:List Int)/\True) (0,[]) λ(v0:Int×List Int)=>.br (decide (v0.1<(l.length:Int))) (let E1:=bT 1 1&&bJ 0 1&&decide (0<=v0.1/\v0.1<(l.length:Int));.cn E1 (let E2:=decide (4*(v0.2.length+1)<=140737488355328);.br (dD (l.getD v0.1.toNat 0) (17:Int)==(0:Int)) (.cn E1 (.cn E2 (.nx ((((ai.Nil (ai.ints i64 l)\/rE (1:Nat))/\rE (l:List Int))/\True/\rE ((wrap i64 (v0.1+1)):Int)/\True)/\rE ((v0.2++[wrap u32 (bc i64 (l.getD v0.1.toNat 0) 4294967295)]):List Int)/\True) (Sum.inl (wrap i64 (v0.1+1),v0.2++[wrap u32 (bc i64 (l.getD v0.1.toNat 0) 4294967295)]))))) (.cn E1 (.an (Qfz (l.getD v0.1.toNat 0)) (.lv (Zf4 (l.getD v0.1.toNat 0)) λ(x0:gm)=>.lv (oV x0) λ(x1:Int×Bool)=>.cn E2 (.nx ((((ai.Nil (ai.ints i64 l)\/rE (1:Nat))/\rE (l:List Int))/\True/\rE ((wrap i64 (v0.1+1)):Int)/\True)/\rE ((v0.2++[x1.1]):List Int)/\True) (Sum.inl (wrap i64 (v0.1+1),v0.2++[x1.1])))))))) (.lf (Sum.inr v0.2))
def Mg l:=(NP l).m
abbrev Qmc l:=(NP l).p
def Zfg:bm:={
 α:=(Int)×(List Int)
 F:=λst a=>([(0,(lk st 0)),(3,.all 0),(4,.int i64 a.1)],[⟨false,23,1,.ints u32 a.2⟩])
 a0:=λst=>((lk st 4).toInt,(nI st.rows (rN st 3)))
 iy:=λst=>[]++[(rX st 3 0)]}
def Z6d:List (Nat×bm):=[(3,Zfg)]
def Zm0:bb:=mT 50 [] true [.one (.ints .i64)] [] (λa r=>NP (ek .i64 a 0)) (λX=>.all 0) (λX=>[⟨false,23,1,.ints .u32 X⟩])
theorem Zfw:bj pG Zm0:=oT (.cons Qjy (.cons Zih (.nil))) Tryz.func50 Tryz.call50 [.row 23 1 (.ints .u32)] Z6d 3
def Tc(pc:Int):Tree bg:=
.lf ({X:={a0:=0,a1:=0,a2:=0,a3:=0,a4:=0,a5:=0,a6:=0,a7:=0,a8:=0,a9:=0,kP:=0,kQ:=0,a12:=0,kR:=0,kS:=0,kT:=0},Pc:=pc,B1:={a0:=1,a1:=0,a2:=0,a3:=0,a4:=0,a5:=0,a6:=0,a7:=0}})
def W0 pc:=(Tc pc).m
def Zhi:bb:=mS 99 [] true [.one (.int .u32)] [] (λa r=>Tc (av a 0)) (λX=>.agg (bg.cells X)) (λX=>[])
theorem Zda:bj pG Zhi:=oS (.nil) Tryz.func99 Tryz.call99 [] [] 2
def RU(c7:Int):Tree (List Int):=
.br (decide (c7<1)) (.lf ([])) (.br (decide (c7>32)) (.lf ([])) (.cn (bJ 0 1&&bT 1 1&&List.all [D.int u32 0] D.plain&&decide (0<=wrap i64 (c7*32)/\wrap i64 (c7*32)<=wrap i64 (c7*32)/\wrap i64 (c7*32)<=9223372036854775807/\(↑4:Int)*wrap i64 (c7*32)<=140737488355328)) (.lf (List.replicate (dE (wrap i64 (c7*32))) 0))))
def Te c7:=(RU c7).m
abbrev Qjo c7:=(RU c7).p
def Zoi:bb:=mT 100 [] true [.one (.int .i64)] [] (λa r=>RU (av a 0)) (λX=>.all 0) (λX=>[⟨false,23,1,.ints .u32 X⟩])
theorem Zkx:bj pG Zoi:=oT (.nil) Tryz.func100 Tryz.call100 [.row 23 1 (.ints .u32)] [] 2
def Ec(c7 blocks:Int)(image:List Int):Tree (ao×Bool):=
let T1:Tree ((ao×Bool)):=.lf ({A7:={X:={a0:=0,a1:=0,a2:=0,a3:=0,a4:=0,a5:=0,a6:=0,a7:=0,a8:=0,a9:=0,kP:=0,kQ:=0,a12:=0,kR:=0,kS:=0,kT:=0},Pc:=0,B1:={a0:=0,a1:=0,a2:=0,a3:=0,a4:=0,a5:=0,a6:=0,a7:=0}},Mem:=[],A2:={C6:=[]},A9:={D0:=false,B8:=0,C9:=false},A4:={ag:=0,B9:=0,Frame:=0,B6:=0,D1:=0,B4:=0,B0:=0,B5:=[]},C1:={Frame:=0,D6:=0,C2:=false,B7:=0,B3:=false,D8:=0},A1:={C4:=0,C0:=0},A0:=0,A3:=false,A6:=false},false);.br (decide (c7<1)) T1 (.br (decide (c7>32)) T1 (.br (decide (blocks<0)) T1 (.br (decide (blocks>64)) T1 (.br (decide ((image.length:Int)>wrap i64 (c7*32))) T1 (.lv (W0 0) λ(x0:bg)=>.an (Qjo c7) (.lv (Te c7) λ(x1:List Int)=>.lf ({A7:=x0,Mem:=cZ (Min.min (image.length) (x1.length)) image++dA (Min.min (image.length) (x1.length)) x1,A2:={C6:=[]},A9:={D0:=false,B8:=0,C9:=false},A4:={ag:=wrap u32 blocks,B9:=0,Frame:=0,B6:=0,D1:=0,B4:=0,B0:=0,B5:=[]},C1:={Frame:=0,D6:=0,C2:=false,B7:=0,B3:=false,D8:=0},A1:={C4:=0,C0:=0},A0:=0,A3:=false,A6:=false},true)))))))
def lz c7 blocks image:=(Ec c7 blocks image).m
abbrev VB c7 blocks image:=(Ec c7 blocks image).p
def Zpq:bb:=mT 51 [] true [.one (.int .i64),.one (.int .i64),.one (.ints .u32)] [] (λa r=>Ec (av a 0) (av a 1) (ek .u32 a 2)) (λX=>.dt [.agg (ao.ia (X.1) (.all 0)),.bool (X.2)]) (λX=>[⟨false,23,1,.ints .u32 (X.1).Mem⟩])
theorem Zkt:bj pG Zpq:=oT (.cons Zda (.cons Zkx (.nil))) Tryz.func51 Tryz.call51 [.row 23 1 (.ints .u32)] [] 2
def O4(m:ao):Tree Bool:=
.an (Qfc m) (.lv (AM m) λ(x0:Bool)=>.br (!x0) (.lf false) (.an (Qdg m) (.lv (nu m) λ(x1:ao)=>.an (Qot x1.A7 x1.Mem) (.lv (wU x1.A7 x1.Mem) λ(x2:bg×List Int×kY)=>.br (x2.2.2.C3==1) (.lf (x2.2.2.C7==2)) (.lf false)))))
def O3 m:=(O4 m).m
abbrev Q82 m:=(O4 m).p
def Qqx:bb:=mT 203 [] true [.agg ao.sig] [] (λa r=>O4 (ao.of (aC a 0))) (λX=>.bool X) (λX=>[])
theorem Qpc:bj pG Qqx:=oT (.cons Qp6 (.cons Qnm (.cons Z5g (.nil)))) Tryz.func203 Tryz.call203 [] [] 2
