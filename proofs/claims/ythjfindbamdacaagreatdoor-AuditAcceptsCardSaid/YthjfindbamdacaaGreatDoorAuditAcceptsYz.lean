import Derived.Test.YthjfindbamdacaaGreatDoorAuditAcceptsFh
import Derived.Test.YthjfindbamdacaaGreatDoorAuditAcceptsYx
open List renaming take->dB,drop->dC,length->dK,set->dG,getD->aK
open Int renaming toNat->dF,tmod->dE
open UInt8 renaming toNat->eW
open Nat renaming blt->bJ,beq->bT
set_option maxRecDepth 100000
set_option linter.all false
namespace Go.Proofs.YthjfindbamdacaaGreatDoor
open Go Go.GD Go.IntKind
noncomputable section
def Jk(m:av):Tree Bool:=
.an (Si m) (.lv (mX m) λ(x0:Bool)=>.br x0 (.br (!m.A6) (.an (YZ m) (.lv (LK m) λ(x1:Bool)=>.br (!x1) (.lf (decide (m.A1<1152921504606846976))) (.lf false))) (.lf false)) (.lf false))
def AT m:=(Jk m).m
abbrev Qg m:=(Jk m).p
def Z8j:bf:=mT 61 [] true [.agg av.sig] [] (λa r=>Jk (av.of (aC a 0))) (λX=>.bool X) (λX=>[])
theorem Qq6:bj pG Z8j:=oT (.cons Qkj (.cons Qp3 (.nil))) Tryz.func61 Tryz.call61 [] [] 2
def XN(m:av)(z:(Int)):Nat:=(5-z).toNat
def G7(m:av):Tree av:=
let E1:=({B0:=m.B0,Mem:=m.Mem,A3:=m.A3,A9:=m.A9,A7:=m.A7,C1:=m.C1,A2:=m.A2,A1:=m.A1,A4:=false,A6:=m.A6}:av);.br (bd u32 m.B0.B3.a0 (2:Int)==(0:Int)) (.lf (E1)) (.an (Qbn E1) (.lv (Mi E1) λ(x0:Int)=>.lp inferInstance (XN m 0+1) ((rZ/\rZ/\rE (x0:Int)/\rE (0:Int)/\True)/\(rE m.B0.X.a0/\rE m.B0.X.a1/\rE m.B0.X.a2/\rE m.B0.X.a3/\rE m.B0.X.a4/\rE m.B0.X.a5/\rE m.B0.X.a6/\rE m.B0.X.a7/\rE m.B0.X.a8/\rE m.B0.X.a9/\rE m.B0.X.kv/\rE m.B0.X.ky/\rE m.B0.X.a12/\rE m.B0.X.kz/\rE m.B0.X.kA/\rE m.B0.X.kB/\rE m.B0.Pc/\rE m.B0.B3.a0/\rE m.B0.B3.a1/\rE m.B0.B3.a2/\rE m.B0.B3.a3/\rE m.B0.B3.a4/\rE m.B0.B3.a5/\rE m.B0.B3.a6/\rE m.B0.B3.a7/\((ak.Nil (ak.ints u32 m.Mem)\/rE (1:Nat))/\rE m.Mem)/\rE m.A3.C9/\rE m.A9.D3/\rE m.A9.C3/\rE m.A9.D2/\rE m.A7.ag/\rE m.A7.C2/\rE m.A7.Frame/\rE m.A7.B8/\rE m.A7.D5/\rE m.A7.B6/\rE m.A7.B2/\rE m.A7.B7/\rE m.C1.Frame/\rE m.C1.D9/\rE m.C1.C5/\rE m.C1.B9/\rE m.C1.B5/\rE m.C1.F0/\rE m.A2.C7/\rE m.A2.C4/\rE m.A1/\rE (false:Bool)/\rE m.A6/\True)/\(mE zM True True)/\True) 0 λ(v0:Int)=>.br (decide (v0<5)) (.cn (decide (0<=v0)) (.br (bd u32 x0 (ek u32 1 v0) !=0) (.lv (rH m.B0 (wrap i64 (16+v0)) 0) λ(x1:bm)=>.lf (Sum.inr {B0:=x1,Mem:=m.Mem,A3:=m.A3,A9:=m.A9,A7:=m.A7,C1:=m.C1,A2:=m.A2,A1:=m.A1,A4:=false,A6:=m.A6})) (.nx ((rZ/\rZ/\rE (x0:Int)/\rE ((wrap i64 (v0+1)):Int)/\True)/\(rE m.B0.X.a0/\rE m.B0.X.a1/\rE m.B0.X.a2/\rE m.B0.X.a3/\rE m.B0.X.a4/\rE m.B0.X.a5/\rE m.B0.X.a6/\rE m.B0.X.a7/\rE m.B0.X.a8/\rE m.B0.X.a9/\rE m.B0.X.kv/\rE m.B0.X.ky/\rE m.B0.X.a12/\rE m.B0.X.kz/\rE m.B0.X.kA/\rE m.B0.X.kB/\rE m.B0.Pc/\rE m.B0.B3.a0/\rE m.B0.B3.a1/\rE m.B0.B3.a2/\rE m.B0.B3.a3/\rE m.B0.B3.a4/\rE m.B0.B3.a5/\rE m.B0.B3.a6/\rE m.B0.B3.a7/\((ak.Nil (ak.ints u32 m.Mem)\/rE (1:Nat))/\rE m.Mem)/\rE m.A3.C9/\rE m.A9.D3/\rE m.A9.C3/\rE m.A9.D2/\rE m.A7.ag/\rE m.A7.C2/\rE m.A7.Frame/\rE m.A7.B8/\rE m.A7.D5/\rE m.A7.B6/\rE m.A7.B2/\rE m.A7.B7/\rE m.C1.Frame/\rE m.C1.D9/\rE m.C1.C5/\rE m.C1.B9/\rE m.C1.B5/\rE m.C1.F0/\rE m.A2.C7/\rE m.A2.C4/\rE m.A1/\rE (false:Bool)/\rE m.A6/\True)/\(mE zM True True)/\True) (Sum.inl (wrap i64 (v0+1)))))) (.lf (Sum.inr E1))))
def nB m:=(G7 m).m
abbrev Qeh m:=(G7 m).p
def Z23:bn:={
 α:=(Int)
 F:=λst a=>([(1,.ptr 0 0 0),(2,.ptr 1 0 0),(3,(lk st 3)),(15,.int i64 a)],[⟨true,42,49,.gen [mB (cT st 1)]⟩,⟨true,42,49,.gen [mB (cT st 2)]⟩])
 a0:=λst=>(lk st 15).toInt
 iL:=λst=>[]++[(rX st 1 0),(rX st 2 1)]}
def Qxl:List (Nat×bn):=[(6,Z23)]
def Z5a:bf:=bf.fz<|mP 62 [] false [.agg av.sig] [] (λa r=>Qeh (av.of (aC a 0))) (λa r=>nB (av.of (aC a 0))) (λX=>.agg (av.cells X)) (λX=>[])
theorem Qoe:bj pG Z5a:=Nb<|ue drawn mQ (.cons Qk5 (.cons So (.nil))) Tryz.func62 Tryz.call62 (λa r=>G7 (av.of (aC a 0))) [.sl (.ints .u32) false] Qxl 3 (λ_ _ _=>by kernel_rfl) (λ_ _=>rfl) (λ_ _ h=>h) (λh=>by cases h)
def Je(c:iY)(port:Int):Tree (iY×Int):=
.br (port==0) (.br (decide (c.C9=[])) (.lf (c,4294967295)) (.cn (decide ((0:Int)<=(0:Int)/\0<(c.C9.length:Int))) (.cn (decide ((0:Int)<=(1:Int)/\1<=(c.C9.length:Int)/\(c.C9.length:Int)<=(c.C9.length:Int))) (.lf ({C9:=dB (dF (c.C9.length:Int)-dF 1) (dC (dF 1) c.C9)},wrap u32 (↑(eW (c.C9.getD (dF 0) (0:UInt8))):Int)))))) (.br (port==1) (.lf (c,wrap u32 (c.C9.length:Int))) (.lf (c,0)))
def Yl c port:=(Je c port).m
theorem Z94(c:iY)(port:Int):(Je c port).p:=by
 unfold Tree.p Je
 repeat'(first|exact trivial|refine aa (λ_=>?_) (λ_=>?_)|refine au ?_ ?_|refine cj ?_ ?_|refine aq (λ_ _=>?_)|refine ea ?_|refine dc ?_|refine And.intro ?_ ?_)
 all_goals(exact nY)
def Zit:bf:=mS 122 [] true [.agg iY.sig,.one (.int .i64)] [] (λa r=>Je (iY.of (aC a 0)) (ar a 1)) (λX=>.dt [.agg (iY.cells (X.1)),.int .u32 (X.2)]) (λX=>[])
theorem Zfy:bj pG Zit:=oS (.nil) Tryz.func122 Tryz.call122 [] [] 2 (λ_ _ _=>by kernel_rfl) (λa r=>Z94 (iY.of (aC a 0)) (ar a 1)) (λ_ X=>by kernel_rfl)
def TQ(t:iZ):Tree Int:=
.br t.D2 (.lf 1) (.lf 0)
def XH t:=(TQ t).m
def Zrq:bf:=mS 123 [] true [.agg iZ.sig] [] (λa r=>TQ (iZ.of (aC a 0))) (λX=>.int .u32 X) (λX=>[])
theorem Zla:bj pG Zrq:=oS (.nil) Tryz.func123 Tryz.call123 [] [] 2
def TR(d0:fv)(port:Int):Tree Int:=
.br (port==4) (.lf d0.C2) (.br (port==5) (.lf d0.Frame) (.br (port==6) (.lf (wrap u32 d0.B8)) (.lf 0)))
def OB d0 port:=(TR d0 port).m
def vE:bf:=mS 124 [] true [.agg fv.sig,.one (.int .i64)] [] (λa r=>TR (fv.of (aC a 0)) (ar a 1)) (λX=>.int .u32 X) (λX=>[])
theorem Zrf:bj pG vE:=oS (.nil) Tryz.func124 Tryz.call124 [] [] 2
def OC(n:ik)(port:Int):Tree Int:=
.br (port==7) (.lf n.Frame) (.br (port==8) (.lf n.F0) (.br (port==9) (.br n.C5 (.br n.B5 (.lf (wrap u32 (wrap u32 ((0:Int)+(1:Int))+2))) (.lf (wrap u32 ((0:Int)+(1:Int))))) (.br n.B5 (.lf (wrap u32 ((0:Int)+(2:Int)))) (.lf 0))) (.lf 0)))
def LG n port:=(OC n port).m
def yW:bf:=mS 125 [] true [.agg ik.sig,.one (.int .i64)] [] (λa r=>OC (ik.of (aC a 0)) (ar a 1)) (λX=>.int .u32 X) (λX=>[])
theorem qF:bj pG yW:=oS (.nil) Tryz.func125 Tryz.call125 [] [] 2
def LH(b:iu)(port:Int):Tree Int:=
.br (port==10) (.lf b.C7) (.br (port==11) (.an (Qe2 b) (.lv (Uq b) λ(x0:Int)=>.lf (wrap u32 x0))) (.lf 0))
def Yv b port:=(LH b port).m
abbrev Qso b port:=(LH b port).p
def Zko:bf:=mT 126 [] true [.agg iu.sig,.one (.int .i64)] [] (λa r=>LH (iu.of (aC a 0)) (ar a 1)) (λX=>.int .u32 X) (λX=>[])
theorem Zf7:bj pG Zko:=oT (.cons Qnx (.nil)) Tryz.func126 Tryz.call126 [] [] 2
def LF(m:av)(port clock:Int):Tree (av×Int):=
let T1:Tree ((av×Int)):=.lv (Yl m.A3 port) λ(x0:iY×Int)=>.lf ({B0:=m.B0,Mem:=m.Mem,A3:=x0.1,A9:=m.A9,A7:=m.A7,C1:=m.C1,A2:=m.A2,A1:=m.A1,A4:=m.A4,A6:=m.A6},x0.2);.br (port==0) T1 (.br (port==1) T1 (.br (port==2) (.lf (m,clock)) (.br (port==3) (.lv (XH m.A9) λ(x2:Int)=>.lf (m,x2)) (.br (port==4) (.lv (OB m.A7 port) λ(x3:Int)=>.lf (m,x3)) (.br (port==5) (.lv (OB m.A7 port) λ(x4:Int)=>.lf (m,x4)) (.br (port==6) (.lv (OB m.A7 port) λ(x5:Int)=>.lf (m,x5)) (.br (port==7) (.lv (LG m.C1 port) λ(x6:Int)=>.lf (m,x6)) (.br (port==8) (.lv (LG m.C1 port) λ(x7:Int)=>.lf (m,x7)) (.br (port==9) (.lv (LG m.C1 port) λ(x8:Int)=>.lf (m,x8)) (let T2:Tree ((av×Int)):=.an (Qso m.A2 port) (.lv (Yv m.A2 port) λ(x9:Int)=>.lf (m,x9));.br (port==10) T2 (.br (port==11) T2 (.lf (m,0)))))))))))))
def uS m port clock:=(LF m port clock).m
abbrev Qgm m port clock:=(LF m port clock).p
def Qv1:bf:=bf.fz<|mP 64 [] false [.agg av.sig,.one (.int .i64),.one (.int .u32)] [] (λa r=>Qgm (av.of (aC a 0)) (ar a 1) (ar a 2)) (λa r=>uS (av.of (aC a 0)) (ar a 1) (ar a 2)) (λX=>.dt [.agg (av.cells (X.1)),.int .u32 (X.2)]) (λX=>[])
theorem Qu7:bj pG Qv1:=Nb<|ue drawn mQ (.cons Zfy (.cons Zla (.cons Zrf (.cons qF (.cons Zf7 (.nil)))))) Tryz.func64 Tryz.call64 (λa r=>LF (av.of (aC a 0)) (ar a 1) (ar a 2)) [.sl (.ints .u32) false] [] 2 (λ_ _ _=>by kernel_rfl) (λ_ _=>rfl) (λ_ _ h=>h) (λh=>by cases h)
def TN(t:iZ)(deadline:Int):Tree iZ:=
.lf ({D3:=deadline !=0,C3:=deadline,D2:=false})
def Ox t deadline:=(TN t deadline).m
def Zmc:bf:=mS 127 [] true [.agg iZ.sig,.one (.int .u32)] [] (λa r=>TN (iZ.of (aC a 0)) (ar a 1)) (λX=>.agg (iZ.cells X)) (λX=>[])
theorem Zja:bj pG Zmc:=oS (.nil) Tryz.func127 Tryz.call127 [] [] 2
def On(m:List Int)(frame:Int):Tree Bool:=
.lv (me m) λ(x0:Int)=>.lf (decide (wrap u64 frame<wrap u64 x0))
def Ja m frame:=(On m frame).m
def Ze7:bf:=mS 134 [] true [.one (.ints .u32),.one (.int .u32)] [] (λa r=>On (eg .u32 a 0) (ar a 1)) (λX=>.bool X) (λX=>[])
theorem Qtl:bj pG Ze7:=oS (.cons Ij (.nil)) Tryz.func134 Tryz.call134 [] [] 2
def Oj(m:List Int)(frame:Int):Tree Bool:=
.br (decide (frame>=0)) (.lv (me m) λ(x0:Int)=>.lf (decide (frame<x0))) (.lf false)
def I9 m frame:=(Oj m frame).m
def Z1s:bf:=mS 60 [] true [.one (.ints .u32),.one (.int .i64)] [] (λa r=>Oj (eg .u32 a 0) (ar a 1)) (λX=>.bool X) (λX=>[])
theorem Qmg:bj pG Z1s:=oS (.cons Ij (.nil)) Tryz.func60 Tryz.call60 [] [] 2
def Qod(words:List Int)(z:(Int)×(List Int)):Prop:=0<=z.1/\z.1<=words.length/\(z.2.length:Int)=4*z.1
def Ok(words:List Int)(z:(Int)×(List Int)):Nat:=(words.length-z.1).toNat
def FE(words:List Int):Tree (List UInt8):=
.cn (bJ 0 1&&bT 1 1&&List.all [D.int u8 0] D.plain&&decide ((0:Int)<=(0:Int)/\0<=wrap i64 (4*(words.length:Int))/\wrap i64 (4*(words.length:Int))<=9223372036854775807/\(↑1:Int)*wrap i64 (4*(words.length:Int))<=140737488355328)) (.lp inferInstance (Ok words (0,[])+1) ((True/\((ak.Nil (ak.ints u32 words)\/rE (1:Nat))/\rE (words:List Int))/\rE ((words.length:Int):Int)/\rE (0:Int)/\True)/\rE ([]:List Int)/\True) (0,[]) λ(v0:Int×List Int)=>.br (decide (v0.1<(words.length:Int))) (.cn (bT 1 1&&bJ 0 1&&decide (0<=v0.1/\v0.1<(words.length:Int))) (.cn (decide (1*(v0.2.length+4)<=140737488355328)) (let E1:=words.getD v0.1.toNat 0;.nx ((True/\((ak.Nil (ak.ints u32 words)\/rE (1:Nat))/\rE (words:List Int))/\rE ((words.length:Int):Int)/\rE ((wrap i64 (v0.1+1)):Int)/\True)/\rE ((v0.2++[wrap u8 (words.getD v0.1.toNat 0),wrap u8 (bg u32 (words.getD v0.1.toNat 0) 8),wrap u8 (bg u32 (words.getD v0.1.toNat 0) 16),wrap u8 (bg u32 (words.getD v0.1.toNat 0) 24)]):List Int)/\True) (Sum.inl (wrap i64 (v0.1+1),v0.2++[wrap u8 E1,wrap u8 (bg u32 E1 8),wrap u8 (bg u32 E1 16),wrap u8 (bg u32 E1 24)]))))) (.lf (Sum.inr (bytesOf v0.2))))
def Z4j words:=(FE words).m
def V1(words:List Int):Prop:=
words.length<=1000000000000
theorem Z7a(words:List Int)(hw:V1 words):(FE words).p:=by
 simp only[V1]at hw
 unfold Tree.p FE
 repeat'(first|refine fi (inv:=Qod words) (μ:=Ok words) ?_ (Nat.lt_succ_self _) (λ_ _=>?_)|exact trivial|refine aa (λ_=>?_) (λ_=>?_)|refine au ?_ ?_|refine cj ?_ ?_|refine aq (λ_ _=>?_)|refine ea ?_|refine dc ?_|refine And.intro ?_ ?_)
 all_goals((try simp only[Qod,Ok]at*);exact nY)
def Z9i:bn:={
 α:=(Int)×(List Int)
 F:=λst a=>([(3,.all 0),(10,(lk st 10)),(11,(lk st 11)),(12,.int i64 a.1)],[⟨false,5,1,.ints u8 a.2⟩])
 a0:=λst=>((lk st 12).toInt,(mG st.rows (rN st 3)))
 iL:=λst=>[]++[(rX st 3 0)]}
def Z1f:List (Nat×bn):=[(3,Z9i)]
def Zct:bf:=mP 66 [] true [.one (.ints .u32)] [] (λa r=>V1 (eg .u32 a 0)) (λa r=>Z4j (eg .u32 a 0)) (λX=>.str X) (λX=>[])
theorem Z9g:bj pG Zct:=ue drawn mQ (.nil) Tryz.func66 Tryz.call66 (λa r=>FE (eg .u32 a 0)) [] Z1f 3 (hp:=λa r h=>Z7a (eg .u32 a 0) h)
def GY(m:List Int)(frame:Int):Tree ((List UInt8)×Bool):=
.lv (I9 m frame) λ(x0:Bool)=>.br (!x0) (.lf ([],false)) (.cn (bT 1 1&&bJ 0 1&&decide (0<=wrap i64 (frame*32)/\wrap i64 (frame*32)<=wrap i64 (wrap i64 (frame*32)+32)/\wrap i64 (wrap i64 (frame*32)+32)<=(m.length:Int))) (let E1:=dB (dF (wrap i64 (wrap i64 (frame*32)+32))-dF (wrap i64 (frame*32))) (dC (dF (wrap i64 (frame*32))) m);.an (V1 E1) (.lv (Z4j E1) λ(x1:List UInt8)=>.lf (x1,true))))
def Ev m frame:=(GY m frame).m
abbrev Qct m frame:=(GY m frame).p
def Zex:bf:=mT 23 [] true [.one (.ints .u32),.one (.int .i64)] [] (λa r=>GY (eg .u32 a 0) (ar a 1)) (λX=>.dt [.str (X.1),.bool (X.2)]) (λX=>[])
theorem Qks:bj pG Zex:=oT (.cons Qmg (.cons Z9g (.nil))) Tryz.func23 Tryz.call23 [] [] 2
def Qt9(d0:fv)(cr:Int):Tree (dk×Bool):=
.br (d0.B8 !=1) (.lf ({C0:=0,At:=0,C2:=0,D0:=[]},false)) (.br (d0.D5==1) (.lf ({C0:=3,At:=cr,C2:=d0.B6,D0:=[]},true)) (.br (d0.D5==2) (.lf ({C0:=4,At:=cr,C2:=d0.B6,D0:=d0.B7},true)) (.lf ({C0:=0,At:=0,C2:=0,D0:=[]},false))))
def Yn d0 cr:=(Qt9 d0 cr).m
def Z9s:bf:=mS 254 [] true [.agg fv.sig,.one (.int .u64)] [] (λa r=>Qt9 (fv.of (aC a 0)) (ar a 1)) (λX=>.dt [.agg (dk.cells (X.1)),.bool (X.2)]) (λX=>[])
theorem Z6e:bj pG Z9s:=oS (.nil) Tryz.func254 Tryz.call254 [] [] 2
def Lw(d0:fv)(m:List Int)(cmd cr:Int):Tree (fv×(List dk)):=
.br (d0.B8 !=0) (.lf (d0,[])) (let T1:Tree ((fv×(List dk))):=.lf ({ag:=d0.ag,C2:=d0.C2,Frame:=d0.Frame,B8:=3,D5:=d0.D5,B6:=d0.B6,B2:=d0.B2,B7:=d0.B7},[]);.br (decide (d0.C2>=d0.ag)) T1 (.lv (Ja m d0.Frame) λ(x0:Bool)=>.br (!x0) T1 (.br (cmd==2) (.an (Qct m (wrap i64 d0.Frame)) (.lv (Ev m (wrap i64 d0.Frame)) λ(x1:List UInt8×Bool)=>let E2:=({ag:=d0.ag,C2:=d0.C2,Frame:=d0.Frame,B8:=1,D5:=cmd,B6:=d0.C2,B2:=d0.Frame,B7:=x1.1}:fv);.lv (Yn E2 cr) λ(x2:dk×Bool)=>.lf (E2,[x2.1]))) (let E3:=({ag:=d0.ag,C2:=d0.C2,Frame:=d0.Frame,B8:=1,D5:=cmd,B6:=d0.C2,B2:=d0.Frame,B7:=[]}:fv);.lv (Yn E3 cr) λ(x3:dk×Bool)=>.lf (E3,[x3.1])))))
def Qym d0 m cmd cr:=(Lw d0 m cmd cr).m
abbrev Qsy d0 m cmd cr:=(Lw d0 m cmd cr).p
def Zk6:bf:=mT 192 [] true [.agg fv.sig,.one (.ints .u32),.one (.int .i64),.one (.int .u64)] [] (λa r=>Lw (fv.of (aC a 0)) (eg .u32 a 1) (ar a 2) (ar a 3)) (λX=>.dt [.agg (fv.cells (X.1)),.sl 4 (.ax .ay (X.2)) true]) (λX=>[])
theorem Zfj:bj pG Zk6:=oT (.cons Qtl (.cons Qks (.cons Z6e (.nil)))) Tryz.func192 Tryz.call192 [.sl (.ax .ay) true] [] 2
def Lx(d0:fv)(m:List Int)(port v cr:Int):Tree (fv×(List dk)):=
.br (port==4) (.lf ({ag:=d0.ag,C2:=v,Frame:=d0.Frame,B8:=d0.B8,D5:=d0.D5,B6:=d0.B6,B2:=d0.B2,B7:=d0.B7},[])) (.br (port==5) (.lf ({ag:=d0.ag,C2:=d0.C2,Frame:=v,B8:=d0.B8,D5:=d0.D5,B6:=d0.B6,B2:=d0.B2,B7:=d0.B7},[])) (.br (port==6) (let T1:Tree ((fv×(List dk))):=.an (Qsy d0 m (wrap i64 v) cr) (.lv (Qym d0 m (wrap i64 v) cr) λ(x0:fv×List dk)=>.lf (x0.1,x0.2));.br (v==1) T1 (.br (v==2) T1 (.br (v==0) (.lv (Ly d0) λ(x2:Bool)=>.br x2 (.lf ({ag:=d0.ag,C2:=d0.C2,Frame:=d0.Frame,B8:=0,D5:=d0.D5,B6:=d0.B6,B2:=d0.B2,B7:=d0.B7},[])) (.lf (d0,[]))) (.lf (d0,[]))))) (.lf (d0,[]))))
def Ym d0 m port v cr:=(Lx d0 m port v cr).m
abbrev Z0h d0 m port v cr:=(Lx d0 m port v cr).p
def Zrt:bf:=mT 128 [] true [.agg fv.sig,.one (.ints .u32),.one (.int .i64),.one (.int .u32),.one (.int .u64)] [] (λa r=>Lx (fv.of (aC a 0)) (eg .u32 a 1) (ar a 2) (ar a 3) (ar a 4)) (λX=>.dt [.agg (fv.cells (X.1)),.sl 4 (.ax .ay (X.2)) true]) (λX=>[])
theorem Zlc:bj pG Zrt:=oT (.cons Zfj (.cons Qp0 (.nil))) Tryz.func128 Tryz.call128 [.sl (.ax .ay) true] [] 2
def Oo(m:List Int)(frame:Int):Tree Bool:=
.lv (me m) λ(x0:Int)=>.lf (decide (wrap u64 frame<wrap u64 x0))
def G0 m frame:=(Oo m frame).m
def Zi2:bf:=mS 135 [] true [.one (.ints .u32),.one (.int .u32)] [] (λa r=>Oo (eg .u32 a 0) (ar a 1)) (λX=>.bool X) (λX=>[])
theorem Qmr:bj pG Zi2:=oS (.cons Ij (.nil)) Tryz.func135 Tryz.call135 [] [] 2
def Lz(n:ik)(m:List Int)(cr:Int):Tree (List dk):=
.br (decide (n.D9<1)) (.lf ([])) (.br (decide (n.D9>128)) (.lf ([])) (.lv (G0 m n.Frame) λ(x0:Bool)=>.br (!x0) (.lf ([])) (.an (Qct m (wrap i64 n.Frame)) (.lv (Ev m (wrap i64 n.Frame)) λ(x1:List UInt8×Bool)=>.cn (decide ((0:Int)<=(0:Int)/\0<=n.D9/\n.D9<=(x1.1.length:Int))) (.lf ([{C0:=2,At:=cr,C2:=0,D0:=dB (dF n.D9-dF 0) (dC (dF 0) x1.1)}]))))))
def Zet n m cr:=(Lz n m cr).m
abbrev Z0e n m cr:=(Lz n m cr).p
def Zr5:bf:=mT 193 [] true [.agg ik.sig,.one (.ints .u32),.one (.int .u64)] [] (λa r=>Lz (ik.of (aC a 0)) (eg .u32 a 1) (ar a 2)) (λX=>.sl 4 (.ax .ay X) true) (λX=>[])
theorem Znj:bj pG Zr5:=oT (.cons Qmr (.cons Qks (.nil))) Tryz.func193 Tryz.call193 [.sl (.ax .ay) true] [] 2
def LA(n:ik)(m:List Int)(port v cr:Int):Tree (ik×(List dk)):=
.br (port==7) (.lf ({Frame:=v,D9:=n.D9,C5:=n.C5,B9:=n.B9,B5:=n.B5,F0:=n.F0},[])) (.br (port==8) (.lf ({Frame:=n.Frame,D9:=v,C5:=n.C5,B9:=n.B9,B5:=n.B5,F0:=n.F0},[])) (.br (port==9) (.br (v==1) (.an (Z0e n m cr) (.lv (Zet n m cr) λ(x0:List dk)=>.lf (n,x0))) (.br (v==2) (.lv (G0 m n.Frame) λ(x1:Bool)=>.br x1 (.br (!n.C5) (.br (!n.B5) (.lf ({Frame:=n.Frame,D9:=n.D9,C5:=true,B9:=n.Frame,B5:=n.B5,F0:=n.F0},[])) (.lf (n,[]))) (.lf (n,[]))) (.lf (n,[]))) (.br (v==0) (.lf ({Frame:=n.Frame,D9:=n.D9,C5:=n.C5,B9:=n.B9,B5:=false,F0:=0},[])) (.lf (n,[]))))) (.lf (n,[]))))
def Yp n m port v cr:=(LA n m port v cr).m
abbrev Z3w n m port v cr:=(LA n m port v cr).p
def xF:bf:=mT 129 [] true [.agg ik.sig,.one (.ints .u32),.one (.int .i64),.one (.int .u32),.one (.int .u64)] [] (λa r=>LA (ik.of (aC a 0)) (eg .u32 a 1) (ar a 2) (ar a 3) (ar a 4)) (λX=>.dt [.agg (ik.cells (X.1)),.sl 4 (.ax .ay (X.2)) true]) (λX=>[])
theorem Zse:bj pG xF:=oT (.cons Znj (.cons Qmr (.nil))) Tryz.func129 Tryz.call129 [.sl (.ax .ay) true] [] 2
def XA(m:List Int)(frame:Int)(s:List UInt8)(z:(Int)×(List Int)):Nat:=(32-z.1).toNat
def GX(m:List Int)(frame:Int)(s:List UInt8):Tree ((List Int)×Bool):=
.an (mY m) (.lv (jH m) λ(x0:List Int)=>.lv (I9 m frame) λ(x1:Bool)=>.br (!x1) (.lf (x0,false)) (.br ((s.length:Int) !=(128:Int)) (.lf (x0,false)) (.lp inferInstance (XA m frame s (0,x0)+1) ((rE (s:List UInt8)/\True/\rE ((wrap i64 (frame*32)):Int)/\rE (0:Int)/\True)/\rE (x0:List Int)/\True) (0,x0) λ(v0:Int×List Int)=>.br (decide (v0.1<32)) (.cn (decide (0<=wrap i64 (4*v0.1)/\wrap i64 (4*v0.1)<=wrap i64 (wrap i64 (4*v0.1)+4)/\wrap i64 (wrap i64 (4*v0.1)+4)<=(s.length:Int))) (let E1:=dB (dF (wrap i64 (wrap i64 (4*v0.1)+4))-dF (wrap i64 (4*v0.1))) (dC (dF (wrap i64 (4*v0.1))) s);.cn (decide ((0:Int)<=(0:Int)/\0<(↑(dK E1):Int))) (.cn (decide ((0:Int)<=(1:Int)/\1<(↑(dK E1):Int))) (.cn (decide ((0:Int)<=(2:Int)/\2<(↑(dK E1):Int))) (.cn (decide ((0:Int)<=(3:Int)/\3<(↑(dK E1):Int))) (.cn (bT 1 1&&bJ 0 1&&decide (0<=wrap i64 (wrap i64 (frame*32)+v0.1)/\wrap i64 (wrap i64 (frame*32)+v0.1)<(v0.2.length:Int))) (.nx ((rE (s:List UInt8)/\True/\rE ((wrap i64 (frame*32)):Int)/\rE ((wrap i64 (v0.1+1)):Int)/\True)/\rE ((dG v0.2 (dF (wrap i64 (wrap i64 (frame*32)+v0.1))) (ij u32 (ij u32 (ij u32 (wrap u32 (↑(eW (aK (dB (dF (wrap i64 (wrap i64 (4*v0.1)+4))-dF (wrap i64 (4*v0.1))) (dC (dF (wrap i64 (4*v0.1))) s)) (dF 0) (0:UInt8))):Int)) (ek u32 (wrap u32 (↑(eW (aK (dB (dF (wrap i64 (wrap i64 (4*v0.1)+4))-dF (wrap i64 (4*v0.1))) (dC (dF (wrap i64 (4*v0.1))) s)) (dF 1) (0:UInt8))):Int)) 8)) (ek u32 (wrap u32 (↑(eW (aK (dB (dF (wrap i64 (wrap i64 (4*v0.1)+4))-dF (wrap i64 (4*v0.1))) (dC (dF (wrap i64 (4*v0.1))) s)) (dF 2) (0:UInt8))):Int)) 16)) (ek u32 (wrap u32 (↑(eW (aK (dB (dF (wrap i64 (wrap i64 (4*v0.1)+4))-dF (wrap i64 (4*v0.1))) (dC (dF (wrap i64 (4*v0.1))) s)) (dF 3) (0:UInt8))):Int)) 24))):List Int)/\True) (Sum.inl (wrap i64 (v0.1+1),dG v0.2 (dF (wrap i64 (wrap i64 (frame*32)+v0.1))) (ij u32 (ij u32 (ij u32 (wrap u32 (↑(eW (aK E1 (dF 0) (0:UInt8))):Int)) (ek u32 (wrap u32 (↑(eW (aK E1 (dF 1) (0:UInt8))):Int)) 8)) (ek u32 (wrap u32 (↑(eW (aK E1 (dF 2) (0:UInt8))):Int)) 16)) (ek u32 (wrap u32 (↑(eW (aK E1 (dF 3) (0:UInt8))):Int)) 24))))))))))) (.lf (Sum.inr (v0.2,true))))))
def Ew m frame s:=(GX m frame s).m
abbrev Q8s m frame s:=(GX m frame s).p
def Qz5:bn:={
 α:=(Int)×(List Int)
 F:=λst a=>([(2,(lk st 2)),(8,.all 0),(9,(lk st 9)),(26,.int i64 a.1)],[⟨false,23,1,.ints u32 a.2⟩])
 a0:=λst=>((lk st 26).toInt,(mG st.rows (rN st 8)))
 iL:=λst=>[]++[(rX st 8 0)]}
def Qu6:List (Nat×bn):=[(6,Qz5)]
def Z1w:bf:=mT 21 [] true [.one (.ints .u32),.one (.int .i64),.one (.str)] [] (λa r=>GX (eg .u32 a 0) (ar a 1) (gm a 2)) (λX=>.dt [.all 0,.bool (X.2)]) (λX=>[⟨false,23,1,.ints .u32 (X.1)⟩])
theorem Qdr:bj pG Z1w:=oT (.cons ET (.cons Qmg (.nil))) Tryz.func21 Tryz.call21 [.row 23 1 (.ints .u32)] Qu6 3
def strings_Repeat(s:List UInt8)(count:Int):(List UInt8):=
Lib.repeatL s count.toNat
def Qcj(s:List UInt8)(count:Int):Prop:=
0<=count/\count<=9223372036854775807/\s.length*count.toNat<=140737488355328
def Qip(s:List UInt8)(count:Int):List D:=[.str s,.int .i64 count]
def Qjo(s:List UInt8)(count:Int):List Row:=[]
def Qce(X:List UInt8):D:=.str X
def Qd(X:List UInt8):List Row:=[]
def Qk3:List PT:=[.one (.str),.one (.int .i64)]
def Qj5:List RT:=[]
def Qx5(args:List D)(rows:List Row):(List UInt8):=strings_Repeat (gm args 0) (ar args 1)
def Qwk(args:List D)(rows:List Row):Prop:=Qcj (gm args 0) (ar args 1)
def Z27:bf:=mP 194 [] true Qk3 Qj5 Qwk Qx5 Qce Qd
theorem Qsa(s:List UInt8)(count:Int)(hw:Qcj s count):kr pG 194 (Qip s count) (Qjo s count) (Qce (strings_Repeat s count)) (Qd (strings_Repeat s count)):=by
 exact xf Tryz.strings_Repeat hw.1 hw.2.1 hw.2.2
set_option maxRecDepth 100000 in
theorem Quo(args:List D)(rows:List Row):mw Qk3 args 0=Qip (gm args 0) (ar args 1):=by kernel_rfl
set_option maxRecDepth 100000 in
theorem Qsb(args:List D)(rows:List Row):lH Qj5 rows 0=Qjo (gm args 0) (ar args 1):=by kernel_rfl
set_option maxRecDepth 100000 in
theorem Qy6(X:List UInt8):(wA (Qce X)&&jO (Qd X))=true:=by kernel_rfl
theorem Qxx:bj pG Z27:=Nc Tryz.call194 (λargs rows hp=>by rw[Quo args rows,Qsb args rows];exact Qsa (gm args 0) (ar args 1) hp) (λ_ X=>Qy6 X)
def Eo(b:iu)(m:List Int)(port v:Int):Tree (iu×(List Int)):=
let T1:Tree ((iu×(List Int))):=.an (mY m) (.lv (jH m) λ(x0:List Int)=>.lf (b,x0));.br (decide (v>=32)) T1 (.cn (decide (0<=v)) (.br (port==10) (.lv (me m) λ(x1:Int)=>.br (decide (wrap i64 v<x1)) (.br (bd u32 b.C4 (ek u32 1 v)==0) (.an (Qcj [(0:UInt8)] 128) (.lv (strings_Repeat [(0:UInt8)] 128) λ(x2:List UInt8)=>.an (Q8s m (wrap i64 v) x2) (.lv (Ew m (wrap i64 v) x2) λ(x3:List Int×Bool)=>.lf ({C7:=b.C7,C4:=ij u32 b.C4 (ek u32 1 v)},x3.1)))) T1) T1) (.br (port==11) (.an (mY m) (.lv (jH m) λ(x6:List Int)=>.lf ({C7:=b.C7,C4:=oa u32 b.C4 (ek u32 1 v)},x6))) T1)))
def Hr b m port v:=(Eo b m port v).m
abbrev Qp5 b m port v:=(Eo b m port v).p
def Zfx:bf:=mT 130 [] true [.agg iu.sig,.one (.ints .u32),.one (.int .i64),.one (.int .u32)] [] (λa r=>Eo (iu.of (aC a 0)) (eg .u32 a 1) (ar a 2) (ar a 3)) (λX=>.dt [.agg (iu.cells (X.1)),.all 0]) (λX=>[⟨false,23,1,.ints .u32 (X.2)⟩])
theorem Z8b:bj pG Zfx:=oT (.cons ET (.cons Ij (.cons Qdr (.cons Qxx (.nil))))) Tryz.func130 Tryz.call130 [.row 23 1 (.ints .u32)] [] 2
def LD(m:av)(port v cr:Int):Tree (av×(List dk)):=
.br (port==0) (.lf (m,[{C0:=1,At:=cr,C2:=0,D0:=[(λ(n:Int)=>UInt8.ofNat n.toNat) (wrap u8 v)]}])) (.br (port==3) (.lv (Ox m.A9 v) λ(x0:iZ)=>.lf ({B0:=m.B0,Mem:=m.Mem,A3:=m.A3,A9:=x0,A7:=m.A7,C1:=m.C1,A2:=m.A2,A1:=m.A1,A4:=m.A4,A6:=m.A6},[])) (let T1:Tree ((av×(List dk))):=.an (Z0h m.A7 m.Mem port v cr) (.lv (Ym m.A7 m.Mem port v cr) λ(x1:fv×List dk)=>.lf ({B0:=m.B0,Mem:=m.Mem,A3:=m.A3,A9:=m.A9,A7:=x1.1,C1:=m.C1,A2:=m.A2,A1:=m.A1,A4:=m.A4,A6:=m.A6},x1.2));.br (port==4) T1 (.br (port==5) T1 (.br (port==6) T1 (let T2:Tree ((av×(List dk))):=.an (Z3w m.C1 m.Mem port v cr) (.lv (Yp m.C1 m.Mem port v cr) λ(x4:ik×List dk)=>.lf ({B0:=m.B0,Mem:=m.Mem,A3:=m.A3,A9:=m.A9,A7:=m.A7,C1:=x4.1,A2:=m.A2,A1:=m.A1,A4:=m.A4,A6:=m.A6},x4.2));.br (port==7) T2 (.br (port==8) T2 (.br (port==9) T2 (let T3:Tree ((av×(List dk))):=.an (Qp5 m.A2 m.Mem port v) (.lv (Hr m.A2 m.Mem port v) λ(x7:iu×List Int)=>.lf ({B0:=m.B0,Mem:=x7.2,A3:=m.A3,A9:=m.A9,A7:=m.A7,C1:=m.C1,A2:=x7.1,A1:=m.A1,A4:=m.A4,A6:=m.A6},[]));.br (port==10) T3 (.br (port==11) T3 (.lf (m,[])))))))))))
def FP m port v cr:=(LD m port v cr).m
abbrev Qfc m port v cr:=(LD m port v cr).p
def Qua:bf:=bf.fz<|mP 65 [] false [.agg av.sig,.one (.int .i64),.one (.int .u32),.one (.int .u64)] [] (λa r=>Qfc (av.of (aC a 0)) (ar a 1) (ar a 2) (ar a 3)) (λa r=>FP (av.of (aC a 0)) (ar a 1) (ar a 2) (ar a 3)) (λX=>.dt [.agg (av.cells (X.1)),.sl 4 (.ax .ay (X.2)) true]) (λX=>[])
theorem Qs2:bj pG Qua:=Nb<|ue drawn mQ (.cons Zja (.cons Zlc (.cons Zse (.cons Z8b (.nil))))) Tryz.func65 Tryz.call65 (λa r=>LD (av.of (aC a 0)) (ar a 1) (ar a 2) (ar a 3)) [.sl (.ints .u32) false,.sl (.ax .ay) true] [] 2 (λ_ _ _=>by kernel_rfl) (λ_ _=>rfl) (λ_ _ h=>h) (λh=>by cases h)
def G9(m:av)(clock:Int):Tree (av×(List dk)):=
.an (mY m.Mem) (.lv (jH m.Mem) λ(x0:List Int)=>let E1:=({B0:=m.B0,Mem:=x0,A3:=m.A3,A9:=m.A9,A7:=m.A7,C1:=m.C1,A2:=m.A2,A1:=m.A1,A4:=m.A4,A6:=m.A6}:av);.an (Qg E1) (.lv (AT E1) λ(x1:Bool)=>.br (!x1) (.lf (E1,[])) (.an (Qeh E1) (.lv (nB E1) λ(x2:av)=>.an (Qqa x2.B0 x2.Mem) (.lv (wY x2.B0 x2.Mem) λ(x3:bm×List Int×kT)=>let E2:=({B0:=x3.1,Mem:=x3.2.1,A3:=x2.A3,A9:=x2.A9,A7:=x2.A7,C1:=x2.C1,A2:=x2.A2,A1:=x2.A1,A4:=x2.A4,A6:=x2.A6}:av);.br (x3.2.2.C0==1) (.an (Qgm E2 x3.2.2.D1 clock) (.lv (uS E2 x3.2.2.D1 clock) λ(x4:av×Int)=>.br (x3.2.2.E0 !=0) (.cn (bJ 0 1&&decide (0<=x3.2.2.E0/\x3.2.2.E0<(↑16:Int))) (.lf ({B0:={X:=gn.of 0 (dG (gn.l x4.1.B0.X) x3.2.2.E0.toNat x4.2),Pc:=x4.1.B0.Pc,B3:=x4.1.B0.B3},Mem:=x4.1.Mem,A3:=x4.1.A3,A9:=x4.1.A9,A7:=x4.1.A7,C1:=x4.1.C1,A2:=x4.1.A2,A1:=wrap u64 (x4.1.A1+1),A4:=x4.1.A4,A6:=x4.1.A6},[]))) (.lf ({B0:=x4.1.B0,Mem:=x4.1.Mem,A3:=x4.1.A3,A9:=x4.1.A9,A7:=x4.1.A7,C1:=x4.1.C1,A2:=x4.1.A2,A1:=wrap u64 (x4.1.A1+1),A4:=x4.1.A4,A6:=x4.1.A6},[])))) (.br (x3.2.2.C0==2) (.an (Qfc E2 x3.2.2.D1 x3.2.2.Value m.A1) (.lv (FP E2 x3.2.2.D1 x3.2.2.Value m.A1) λ(x5:av×List dk)=>.lf ({B0:=x5.1.B0,Mem:=x5.1.Mem,A3:=x5.1.A3,A9:=x5.1.A9,A7:=x5.1.A7,C1:=x5.1.C1,A2:=x5.1.A2,A1:=wrap u64 (x5.1.A1+1),A4:=x5.1.A4,A6:=x5.1.A6},x5.2))) (.br (x3.2.2.C0==3) (.lf ({B0:=x3.1,Mem:=x3.2.1,A3:=x2.A3,A9:=x2.A9,A7:=x2.A7,C1:=x2.C1,A2:=x2.A2,A1:=wrap u64 (x2.A1+1),A4:=true,A6:=x2.A6},[])) (.br (x3.2.2.C0==4) (.lf ({B0:=x3.1,Mem:=x3.2.1,A3:=x2.A3,A9:=x2.A9,A7:=x2.A7,C1:=x2.C1,A2:=x2.A2,A1:=wrap u64 (x2.A1+1),A4:=x2.A4,A6:=true},[])) (.lf ({B0:=x3.1,Mem:=x3.2.1,A3:=x2.A3,A9:=x2.A9,A7:=x2.A7,C1:=x2.C1,A2:=x2.A2,A1:=wrap u64 (x2.A1+1),A4:=x2.A4,A6:=x2.A6},[]))))))))))
def Bb m clock:=(G9 m clock).m
abbrev Pe m clock:=(G9 m clock).p
def Z9e:bf:=bf.fz<|mP 22 [] false [.agg av.sig,.one (.int .u32)] [] (λa r=>Pe (av.of (aC a 0)) (ar a 1)) (λa r=>Bb (av.of (aC a 0)) (ar a 1)) (λX=>.dt [.agg (av.cells (X.1)),.sl 4 (.ax .ay (X.2)) false]) (λX=>[])
theorem Z60:bj pG Z9e:=Nb<|ue drawn mQ (.cons ET (.cons Qq6 (.cons Qoe (.cons Z49 (.cons Qu7 (.cons Qs2 (.nil))))))) Tryz.func22 Tryz.call22 (λa r=>G9 (av.of (aC a 0)) (ar a 1)) [.sl (.ints .u32) false,.sl (.ax .ay) false] [] 2 (λ_ _ _=>by kernel_rfl) (λ_ _=>rfl) (λ_ _ h=>h) (λh=>by cases h)
end
noncomputable section
def Z48(op:Int):Tree Int:=
let T1:Tree (Int):=.br (op==49) (.lf 3) (let T2:Tree (Int):=.br (op==24) (.lf 6) (.br (op==48) (.lf 7) (.br (op==58) (.lf 8) (.br (op==59) (.lf 8) (.br (op==60) (.lf 9) (.br (op==61) (.lf 9) (.br (op==56) (.lf 1) (.br (op==57) (.lf 1) (.br (decide (op>=62)) (.br (decide (op<=64)) (.lf 1) (.lf 0)) (.lf 0)))))))));.br (decide (op>=17)) (.br (decide (op<=19)) (.lf 4) (.br (decide (op>=20)) (.br (decide (op<=22)) (.lf 5) T2) T2)) (.br (decide (op>=20)) (.br (decide (op<=22)) (.lf 5) T2) T2));let T3:Tree (Int):=.br (op==16) (.lf 3) (.br (op==23) (.lf 3) (.br (decide (op>=32)) (.br (decide (op<=36)) (.lf 3) (.br (decide (op>=40)) (.br (decide (op<=45)) (.lf 3) T1) T1)) (.br (decide (op>=40)) (.br (decide (op<=45)) (.lf 3) T1) T1)));.br (decide (op>=1)) (.br (decide (op<=13)) (.lf 2) T3) T3
def o7 op:=(Z48 op).m
def Zne:bf:=mS 154 [] true [.one (.int .i64)] [] (λa r=>Z48 (ar a 0)) (λX=>.int .i64 X) (λX=>[])
theorem Ss:bj pG Zne:=oS (.nil) Tryz.func154 Tryz.call154 [] [] 2
def TY(r:Int):Tree Bool:=
.br (decide (r>=0)) (.lf (decide (r<=15))) (.lf false)
def LO r:=(TY r).m
def Z3u:bf:=mS 236 [] true [.one (.int .i64)] [] (λa r=>TY (ar a 0)) (λX=>.bool X) (λX=>[])
theorem Z2m:bj pG Z3u:=oS (.nil) Tryz.func236 Tryz.call236 [] [] 2
def XV(f:Int):Tree (Int×Int):=
.br (f==3) (.lf ((-32768),32767)) (.br (f==7) (.lf ((-32768),32767)) (.br (f==4) (.lf (0,65535)) (.br (f==6) (.lf (0,65535)) (.br (f==5) (.lf (0,31)) (.br (f==8) (.lf (0,7)) (.br (f==9) (.lf (0,11)) (.lf (0,0))))))))
def XU f:=(XV f).m
def Zd3:bf:=mS 155 [] true [.one (.int .i64)] [] (λa r=>XV (ar a 0)) (λX=>.dt [.int .i64 (X.1),.int .i64 (X.2)]) (λX=>[])
theorem Qsn:bj pG Zd3:=oS (.nil) Tryz.func155 Tryz.call155 [] [] 2
def OI(i:gw):Tree Bool:=
.lv (o7 i.Op) λ(x0:Int)=>.br (x0==0) (.lf false) (.lv (LO i.A) λ(x1:Bool)=>.br (!x1) (.lf false) (.lv (LO i.B) λ(x2:Bool)=>.br (!x2) (.lf false) (.lv (LO i.C) λ(x3:Bool)=>.br (!x3) (.lf false) (.lv (XU x0) λ(x4:Int×Int)=>.br (decide (wrap i64 i.bo<x4.1)) (.lf false) (.br (decide (wrap i64 i.bo>x4.2)) (.lf false) (let T1:Tree (Bool):=.br (x0==1) (.br (i.A !=0) (.lf false) (.br (i.B==0) (.lf true) (.br (decide (x0>=2)) (.lf (decide (x0<=5))) (.lf false)))) (.br (i.B==0) (.lf true) (.br (decide (x0>=2)) (.lf (decide (x0<=5))) (.lf false)));.br (x0 !=2) (.br (i.C !=0) (.lf false) T1) T1))))))
def Er i:=(OI i).m
def Zjb:bf:=mS 153 [] true [.agg gw.sig] [] (λa r=>OI (gw.of (aC a 0))) (λX=>.bool X) (λX=>[])
theorem Qva:bj pG Zjb:=oS (.cons Ss (.cons Z2m (.cons Qsn (.nil)))) Tryz.func153 Tryz.call153 [] [] 2
def Ts(i:gw):Tree (Int×Bool):=
.lv (Er i) λ(x0:Bool)=>.br (!x0) (.lf (0,false)) (.lf (ij u32 (ij u32 (ij u32 (ij u32 (ek u32 (wrap u32 i.Op) 24) (ek u32 (wrap u32 i.A) 20)) (ek u32 (wrap u32 i.B) 16)) (bd u32 (wrap u32 i.bo) 65535)) (wrap u32 i.C),true))
def o4 i:=(Ts i).m
def Zeq:bf:=mS 96 [] true [.agg gw.sig] [] (λa r=>Ts (gw.of (aC a 0))) (λX=>.dt [.int .u32 (X.1),.bool (X.2)]) (λX=>[])
theorem Qku:bj pG Zeq:=oS (.cons Qva (.nil)) Tryz.func96 Tryz.call96 [] [] 2
def Zca:Tree (List Int):=
.lf ([1,2,3,4,5,6,7,8,9,10,11,12,13,16,16,17,18,19,20,21,22,23,24,24,32,32,33,34,35,35,36,40,41,42,43,44,45,48,49,56,57,58,59,60,60,61,61,62,63,64])
def Zez:(List Int):=(Zca).m
def Zqz:bf:=mS 156 [] true [] [] (λa r=>Zca) (λX=>.sl 1 (.ints .i64 X) true) (λX=>[])
theorem Zna:bj pG Zqz:=oS (.nil) Tryz.func156 Tryz.call156 [.sl (.ints .i64) true] [] 2
def Z4x(DW:Int):Tree (Int×Int):=
let E1:=wrap u64 (nu u64 (wrap u64 (DW+11400714819323198485)) (bg u64 (wrap u64 (DW+11400714819323198485)) 30)*13787848793156543929);let E2:=wrap u64 (nu u64 E1 (bg u64 E1 27)*10723151780598845931);.lf (nu u64 E2 (bg u64 E2 31),wrap u64 (DW+11400714819323198485))
def Zjs DW:=(Z4x DW).m
def Znm:bf:=mS 116 [] true [.one (.int .u64)] [] (λa r=>Z4x (ar a 0)) (λX=>.dt [.int .u64 (X.1),.int .u64 (X.2)]) (λX=>[])
theorem Zjn:bj pG Znm:=oS (.nil) Tryz.func116 Tryz.call116 [] [] 2
def Zaz(n k:Int):Tree Int:=
.lv (Zjs (nu u64 (wrap u64 n) (wrap u64 (wrap u64 k*11400714819323198485)))) λ(x0:Int×Int)=>.lf (wrap i64 (bg u64 x0.1 1))
def Bd n k:=(Zaz n k).m
def Zqx:bf:=mS 58 [] true [.one (.int .i64),.one (.int .i64)] [] (λa r=>Zaz (ar a 0) (ar a 1)) (λX=>.int .i64 X) (λX=>[])
theorem V2:bj pG Zqx:=oS (.cons Zjn (.nil)) Tryz.func58 Tryz.call58 [] [] 2
def Qqs(n k:Int):Tree Int:=
.cn (decide (k≠0)) (.br (decide (dE n k<0)) (.lf (wrap i64 (dE n k+k))) (.lf (dE n k)))
def w7 n k:=(Qqs n k).m
abbrev Gt n k:=(Qqs n k).p
def Ziz:bf:=mT 15 [] true [.one (.int .i64),.one (.int .i64)] [] (λa r=>Qqs (ar a 0) (ar a 1)) (λX=>.int .i64 X) (λX=>[])
theorem Qh:bj pG Ziz:=oT (.nil) Tryz.func15 Tryz.call15 [] [] 2
def VU(n:Int):Tree gw:=
.lv Zez λ(x0:List Int)=>.lv (Bd n 1) λ(x1:Int)=>.an (Gt x1 (x0.length:Int)) (.lv (w7 x1 (x0.length:Int)) λ(x2:Int)=>.cn (bT 1 1&&bJ 0 1&&decide (0<=x2/\x2<(x0.length:Int))) (.an (Gt (bg i64 x1 8) 6) (.lv (w7 (bg i64 x1 8) 6) λ(x3:Int)=>.an (Gt (bg i64 x1 12) 6) (.lv (w7 (bg i64 x1 12) 6) λ(x4:Int)=>.an (Gt (bg i64 x1 16) 6) (.lv (w7 (bg i64 x1 16) 6) λ(x5:Int)=>.an (Gt (bg i64 x1 20) 24) (.lv (w7 (bg i64 x1 20) 24) λ(x6:Int)=>.br (decide (x0.getD x2.toNat (0:Int)<=(13:Int))) (.lf ({Op:=x0.getD x2.toNat 0,A:=x3,B:=x4,C:=x5,bo:=0})) (let E4:=({Op:=x0.getD x2.toNat 0,A:=x3,B:=x4,C:=0,bo:=wrap i32 (wrap i64 (wrap i64 (8*x6)-32))}:gw);let T1:Tree (gw):=.br (x0.getD x2.toNat (0:Int)==(49:Int)) (.lf (E4)) (.br (x0.getD x2.toNat (0:Int)==(24:Int)) (.lf ({Op:=x0.getD x2.toNat 0,A:=x3,B:=0,C:=0,bo:=wrap i32 (wrap i64 (x6*bd i64 (bg i64 x1 40) 1))})) (let T2:Tree (gw):=let E6:=({Op:=x0.getD x2.toNat 0,A:=x3,B:=0,C:=0,bo:=wrap i32 (dE x6 8)}:gw);.br (x0.getD x2.toNat (0:Int)==(58:Int)) (.lf (E6)) (.br (x0.getD x2.toNat (0:Int)==(59:Int)) (.lf (E6)) (let E5:=({Op:=x0.getD x2.toNat 0,A:=x3,B:=0,C:=0,bo:=wrap i32 (dE x6 12)}:gw);.br (x0.getD x2.toNat (0:Int)==(60:Int)) (.lf (E5)) (.br (x0.getD x2.toNat (0:Int)==(61:Int)) (.lf (E5)) (.lf ({Op:=x0.getD x2.toNat 0,A:=0,B:=0,C:=0,bo:=0})))));.br (decide (x0.getD x2.toNat (0:Int)>=(17:Int))) (.br (decide (x0.getD x2.toNat (0:Int)<=(22:Int))) (.lf ({Op:=x0.getD x2.toNat 0,A:=x3,B:=x4,C:=0,bo:=wrap i32 x6})) T2) T2));let T3:Tree (gw):=.br (x0.getD x2.toNat (0:Int)==(16:Int)) (.lf (E4)) (.br (x0.getD x2.toNat (0:Int)==(23:Int)) (.lf (E4)) (.br (decide (x0.getD x2.toNat (0:Int)>=(32:Int))) (.br (decide (x0.getD x2.toNat (0:Int)<=(36:Int))) (.lf (E4)) T1) T1));.br (decide (x0.getD x2.toNat (0:Int)>=(40:Int))) (.br (decide (x0.getD x2.toNat (0:Int)<=(48:Int))) (.br (x0.getD x2.toNat (0:Int)==(48:Int)) (.lf ({Op:=x0.getD x2.toNat 0,A:=x3,B:=0,C:=0,bo:=wrap i32 (wrap i64 (x6-12))})) (.lf ({Op:=x0.getD x2.toNat 0,A:=x3,B:=x4,C:=0,bo:=wrap i32 (wrap i64 (x6-12))}))) T3) T3)))))))
def Zj1 n:=(VU n).m
abbrev Qgy n:=(VU n).p
def Zmn:bf:=mT 98 [] true [.one (.int .i64)] [] (λa r=>VU (ar a 0)) (λX=>.agg (gw.cells X)) (λX=>[])
theorem Zjw:bj pG Zmn:=oT (.cons Zna (.cons V2 (.cons Qh (.nil)))) Tryz.func98 Tryz.call98 [] [] 2
def Qtk(l:List Int)(z:(Int)×(List Int)):Prop:=0<=z.1/\z.1<=l.length/\(z.2.length:Int)=z.1
def Tu(l:List Int)(z:(Int)×(List Int)):Nat:=(l.length-z.1).toNat
def N1(l:List Int):Tree (List Int):=
.lp inferInstance (Tu l (0,[])+1) ((((ak.Nil (ak.ints i64 l)\/rE (1:Nat))/\rE (l:List Int))/\True/\rE (0:Int)/\True)/\rE ([]:List Int)/\True) (0,[]) λ(v0:Int×List Int)=>.br (decide (v0.1<(l.length:Int))) (let E1:=bT 1 1&&bJ 0 1&&decide (0<=v0.1/\v0.1<(l.length:Int));.cn E1 (let E2:=decide (4*(v0.2.length+1)<=140737488355328);.br (dE (l.getD v0.1.toNat 0) (17:Int)==(0:Int)) (.cn E1 (.cn E2 (.nx ((((ak.Nil (ak.ints i64 l)\/rE (1:Nat))/\rE (l:List Int))/\True/\rE ((wrap i64 (v0.1+1)):Int)/\True)/\rE ((v0.2++[wrap u32 (bd i64 (l.getD v0.1.toNat 0) 4294967295)]):List Int)/\True) (Sum.inl (wrap i64 (v0.1+1),v0.2++[wrap u32 (bd i64 (l.getD v0.1.toNat 0) 4294967295)]))))) (.cn E1 (.an (Qgy (l.getD v0.1.toNat 0)) (.lv (Zj1 (l.getD v0.1.toNat 0)) λ(x0:gw)=>.lv (o4 x0) λ(x1:Int×Bool)=>.cn E2 (.nx ((((ak.Nil (ak.ints i64 l)\/rE (1:Nat))/\rE (l:List Int))/\True/\rE ((wrap i64 (v0.1+1)):Int)/\True)/\rE ((v0.2++[x1.1]):List Int)/\True) (Sum.inl (wrap i64 (v0.1+1),v0.2++[x1.1])))))))) (.lf (Sum.inr v0.2))
def My l:=(N1 l).m
abbrev Qn l:=(N1 l).p
def Zl5:bn:={
 α:=(Int)×(List Int)
 F:=λst a=>([(0,(lk st 0)),(3,.all 0),(4,.int i64 a.1)],[⟨false,23,1,.ints u32 a.2⟩])
 a0:=λst=>((lk st 4).toInt,(mG st.rows (rN st 3)))
 iL:=λst=>[]++[(rX st 3 0)]}
def Z87:List (Nat×bn):=[(3,Zl5)]
def Zo2:bf:=mT 50 [] true [.one (.ints .i64)] [] (λa r=>N1 (eg .i64 a 0)) (λX=>.all 0) (λX=>[⟨false,23,1,.ints .u32 X⟩])
theorem Zjy:bj pG Zo2:=oT (.cons Qku (.cons Zjw (.nil))) Tryz.func50 Tryz.call50 [.row 23 1 (.ints .u32)] Z87 3
def TG(pc:Int):Tree bm:=
.lf ({X:={a0:=0,a1:=0,a2:=0,a3:=0,a4:=0,a5:=0,a6:=0,a7:=0,a8:=0,a9:=0,kv:=0,ky:=0,a12:=0,kz:=0,kA:=0,kB:=0},Pc:=pc,B3:={a0:=1,a1:=0,a2:=0,a3:=0,a4:=0,a5:=0,a6:=0,a7:=0}})
def Xx pc:=(TG pc).m
def Zi1:bf:=mS 99 [] true [.one (.int .u32)] [] (λa r=>TG (ar a 0)) (λX=>.agg (bm.cells X)) (λX=>[])
theorem Zfc:bj pG Zi1:=oS (.nil) Tryz.func99 Tryz.call99 [] [] 2
def Sh(c8:Int):Tree (List Int):=
.br (decide (c8<1)) (.lf ([])) (.br (decide (c8>32)) (.lf ([])) (.cn (bJ 0 1&&bT 1 1&&List.all [D.int u32 0] D.plain&&decide (0<=wrap i64 (c8*32)/\wrap i64 (c8*32)<=wrap i64 (c8*32)/\wrap i64 (c8*32)<=9223372036854775807/\(↑4:Int)*wrap i64 (c8*32)<=140737488355328)) (.lf (List.replicate (dF (wrap i64 (c8*32))) 0))))
def TJ c8:=(Sh c8).m
abbrev Qjw c8:=(Sh c8).p
def Zrp:bf:=mT 100 [] true [.one (.int .i64)] [] (λa r=>Sh (ar a 0)) (λX=>.all 0) (λX=>[⟨false,23,1,.ints .u32 X⟩])
theorem Zn8:bj pG Zrp:=oT (.nil) Tryz.func100 Tryz.call100 [.row 23 1 (.ints .u32)] [] 2
def Ei(c8 blocks:Int)(image:List Int):Tree (av×Bool):=
let T1:Tree ((av×Bool)):=.lf ({B0:={X:={a0:=0,a1:=0,a2:=0,a3:=0,a4:=0,a5:=0,a6:=0,a7:=0,a8:=0,a9:=0,kv:=0,ky:=0,a12:=0,kz:=0,kA:=0,kB:=0},Pc:=0,B3:={a0:=0,a1:=0,a2:=0,a3:=0,a4:=0,a5:=0,a6:=0,a7:=0}},Mem:=[],A3:={C9:=[]},A9:={D3:=false,C3:=0,D2:=false},A7:={ag:=0,C2:=0,Frame:=0,B8:=0,D5:=0,B6:=0,B2:=0,B7:=[]},C1:={Frame:=0,D9:=0,C5:=false,B9:=0,B5:=false,F0:=0},A2:={C7:=0,C4:=0},A1:=0,A4:=false,A6:=false},false);.br (decide (c8<1)) T1 (.br (decide (c8>32)) T1 (.br (decide (blocks<0)) T1 (.br (decide (blocks>64)) T1 (.br (decide ((image.length:Int)>wrap i64 (c8*32))) T1 (.lv (Xx 0) λ(x0:bm)=>.an (Qjw c8) (.lv (TJ c8) λ(x1:List Int)=>.lf ({B0:=x0,Mem:=dB (Min.min (image.length) (x1.length)) image++dC (Min.min (image.length) (x1.length)) x1,A3:={C9:=[]},A9:={D3:=false,C3:=0,D2:=false},A7:={ag:=wrap u32 blocks,C2:=0,Frame:=0,B8:=0,D5:=0,B6:=0,B2:=0,B7:=[]},C1:={Frame:=0,D9:=0,C5:=false,B9:=0,B5:=false,F0:=0},A2:={C7:=0,C4:=0},A1:=0,A4:=false,A6:=false},true)))))))
def lz c8 blocks image:=(Ei c8 blocks image).m
abbrev V3 c8 blocks image:=(Ei c8 blocks image).p
def Zrm:bf:=mT 51 [] true [.one (.int .i64),.one (.int .i64),.one (.ints .u32)] [] (λa r=>Ei (ar a 0) (ar a 1) (eg .u32 a 2)) (λX=>.dt [.agg (av.ff (X.1) (.all 0)),.bool (X.2)]) (λX=>[⟨false,23,1,.ints .u32 (X.1).Mem⟩])
theorem Zmh:bj pG Zrm:=oT (.cons Zfc (.cons Zn8 (.nil))) Tryz.func51 Tryz.call51 [.row 23 1 (.ints .u32)] [] 2
def Pk(m:av):Tree Bool:=
.an (Qg m) (.lv (AT m) λ(x0:Bool)=>.br (!x0) (.lf false) (.an (Qeh m) (.lv (nB m) λ(x1:av)=>.an (Qqa x1.B0 x1.Mem) (.lv (wY x1.B0 x1.Mem) λ(x2:bm×List Int×kT)=>.br (x2.2.2.C0==1) (.lf (x2.2.2.D1==2)) (.lf false)))))
def Pj m:=(Pk m).m
abbrev Q8l m:=(Pk m).p
def Qs5:bf:=mT 203 [] true [.agg av.sig] [] (λa r=>Pk (av.of (aC a 0))) (λX=>.bool X) (λX=>[])
theorem Qph:bj pG Qs5:=oT (.cons Qq6 (.cons Qoe (.cons Z49 (.nil)))) Tryz.func203 Tryz.call203 [] [] 2
