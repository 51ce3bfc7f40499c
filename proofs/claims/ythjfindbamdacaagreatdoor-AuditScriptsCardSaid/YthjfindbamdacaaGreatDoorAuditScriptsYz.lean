import Derived.Test.YthjfindbamdacaaGreatDoorAuditScriptsFh
import Derived.Test.YthjfindbamdacaaGreatDoorAuditScriptsYx
open List renaming take->dB,drop->dC,length->dK,set->dG,getD->aK
open Int renaming toNat->dF,tmod->dE
open UInt8 renaming toNat->eW
open Nat renaming blt->bJ,beq->bT
set_option maxRecDepth 100000
set_option linter.all false
namespace Go.Proofs.YthjfindbamdacaaGreatDoor
open Go Go.GD Go.IntKind
noncomputable section
def I5(m:au):Tree Bool:=
.an (RU m) (.lv (nc m) λ(x0:Bool)=>.br x0 (.br (!m.A6) (.an (Yw m) (.lv (Ls m) λ(x1:Bool)=>.br (!x1) (.lf (decide (m.A1<1152921504606846976))) (.lf false))) (.lf false)) (.lf false))
def AI m:=(I5 m).m
abbrev Qfi m:=(I5 m).p
def Z74:bc:=mT 61 [] true [.agg au.sig] [] (λa r=>I5 (au.of (aC a 0))) (λX=>.bool X) (λX=>[])
theorem Qpk:bj pG Z74:=oT (.cons Qjy (.cons Qo1 (.nil))) Tryz.func61 Tryz.call61 [] [] 2
def Xm(m:au)(z:(Int)):Nat:=(5-z).toNat
def GN(m:au):Tree au:=
let E1:=({B1:=m.B1,Mem:=m.Mem,A3:=m.A3,A9:=m.A9,A7:=m.A7,C3:=m.C3,A2:=m.A2,A1:=m.A1,A4:=false,A6:=m.A6}:au);.br (bf u32 m.B1.B4.a0 (2:Int)==(0:Int)) (.lf (E1)) (.an (Qb4 E1) (.lv (LZ E1) λ(x0:Int)=>.lp inferInstance (Xm m 0+1) ((rZ/\rZ/\rE (x0:Int)/\rE (0:Int)/\True)/\(rE m.B1.X.a0/\rE m.B1.X.a1/\rE m.B1.X.a2/\rE m.B1.X.a3/\rE m.B1.X.a4/\rE m.B1.X.a5/\rE m.B1.X.a6/\rE m.B1.X.a7/\rE m.B1.X.a8/\rE m.B1.X.a9/\rE m.B1.X.kq/\rE m.B1.X.kr/\rE m.B1.X.a12/\rE m.B1.X.ku/\rE m.B1.X.kv/\rE m.B1.X.ky/\rE m.B1.Pc/\rE m.B1.B4.a0/\rE m.B1.B4.a1/\rE m.B1.B4.a2/\rE m.B1.B4.a3/\rE m.B1.B4.a4/\rE m.B1.B4.a5/\rE m.B1.B4.a6/\rE m.B1.B4.a7/\((ao.Nil (ao.ints u32 m.Mem)\/rE (1:Nat))/\rE m.Mem)/\rE m.A3.D1/\rE m.A9.D3/\rE m.A9.C4/\rE m.A9.D2/\rE m.A7.ae/\rE m.A7.C1/\rE m.A7.Frame/\rE m.A7.B7/\rE m.A7.D6/\rE m.A7.B6/\rE m.A7.B2/\rE m.A7.B8/\rE m.C3.Frame/\rE m.C3.E0/\rE m.C3.C5/\rE m.C3.C0/\rE m.C3.B5/\rE m.C3.F1/\rE m.A2.C7/\rE m.A2.C2/\rE m.A1/\rE (false:Bool)/\rE m.A6/\True)/\(mE zM True True)/\True) 0 λ(v0:Int)=>.br (decide (v0<5)) (.cn (decide (0<=v0)) (.br (bf u32 x0 (eg u32 1 v0) !=0) (.lv (rl m.B1 (wrap i64 (16+v0)) 0) λ(x1:bh)=>.lf (Sum.inr {B1:=x1,Mem:=m.Mem,A3:=m.A3,A9:=m.A9,A7:=m.A7,C3:=m.C3,A2:=m.A2,A1:=m.A1,A4:=false,A6:=m.A6})) (.nx ((rZ/\rZ/\rE (x0:Int)/\rE ((wrap i64 (v0+1)):Int)/\True)/\(rE m.B1.X.a0/\rE m.B1.X.a1/\rE m.B1.X.a2/\rE m.B1.X.a3/\rE m.B1.X.a4/\rE m.B1.X.a5/\rE m.B1.X.a6/\rE m.B1.X.a7/\rE m.B1.X.a8/\rE m.B1.X.a9/\rE m.B1.X.kq/\rE m.B1.X.kr/\rE m.B1.X.a12/\rE m.B1.X.ku/\rE m.B1.X.kv/\rE m.B1.X.ky/\rE m.B1.Pc/\rE m.B1.B4.a0/\rE m.B1.B4.a1/\rE m.B1.B4.a2/\rE m.B1.B4.a3/\rE m.B1.B4.a4/\rE m.B1.B4.a5/\rE m.B1.B4.a6/\rE m.B1.B4.a7/\((ao.Nil (ao.ints u32 m.Mem)\/rE (1:Nat))/\rE m.Mem)/\rE m.A3.D1/\rE m.A9.D3/\rE m.A9.C4/\rE m.A9.D2/\rE m.A7.ae/\rE m.A7.C1/\rE m.A7.Frame/\rE m.A7.B7/\rE m.A7.D6/\rE m.A7.B6/\rE m.A7.B2/\rE m.A7.B8/\rE m.C3.Frame/\rE m.C3.E0/\rE m.C3.C5/\rE m.C3.C0/\rE m.C3.B5/\rE m.C3.F1/\rE m.A2.C7/\rE m.A2.C2/\rE m.A1/\rE (false:Bool)/\rE m.A6/\True)/\(mE zM True True)/\True) (Sum.inl (wrap i64 (v0+1)))))) (.lf (Sum.inr E1))))
def nu m:=(GN m).m
abbrev Qdf m:=(GN m).p
def Z0q:bu:={
 α:=(Int)
 F:=λst a=>([(1,.ptr 0 0 0),(2,.ptr 1 0 0),(3,(lk st 3)),(15,.int i64 a)],[⟨true,42,49,.gen [mB (cT st 1)]⟩,⟨true,42,49,.gen [mB (cT st 2)]⟩])
 a0:=λst=>(lk st 15).toInt
 jn:=λst=>[]++[(rX st 1 0),(rX st 2 1)]}
def Qvi:List (Nat×bu):=[(6,Z0q)]
def Z1y:bc:=bc.fz<|mP 62 [] false [.agg au.sig] [] (λa r=>Qdf (au.of (aC a 0))) (λa r=>nu (au.of (aC a 0))) (λX=>.agg (au.cells X)) (λX=>[])
theorem Qn:bj pG Z1y:=MQ<|wc drawn mQ (.cons Qjf (.cons R3 (.nil))) Tryz.func62 Tryz.call62 (λa r=>GN (au.of (aC a 0))) [.sl (.ints .u32) false] Qvi 3 (λ_ _ _=>by kernel_rfl) (λ_ _=>rfl) (λ_ _ h=>h) (λh=>by cases h)
def IZ(c:iV)(port:Int):Tree (iV×Int):=
.br (port==0) (.br (decide (c.D1=[])) (.lf (c,4294967295)) (.cn (decide ((0:Int)<=(0:Int)/\0<(c.D1.length:Int))) (.cn (decide ((0:Int)<=(1:Int)/\1<=(c.D1.length:Int)/\(c.D1.length:Int)<=(c.D1.length:Int))) (.lf ({D1:=dB (dF (c.D1.length:Int)-dF 1) (dC (dF 1) c.D1)},wrap u32 (↑(eW (c.D1.getD (dF 0) (0:UInt8))):Int)))))) (.br (port==1) (.lf (c,wrap u32 (c.D1.length:Int))) (.lf (c,0)))
def XV c port:=(IZ c port).m
theorem Z76(c:iV)(port:Int):(IZ c port).p:=by
 unfold Tree.p IZ
 repeat'(first|exact trivial|refine aa (λ_=>?_) (λ_=>?_)|refine ba ?_ ?_|refine cz ?_ ?_|refine ar (λ_ _=>?_)|refine fh ?_|refine ez ?_|refine And.intro ?_ ?_)
 all_goals(exact oI)
def Zgq:bc:=mS 122 [] true [.agg iV.sig,.one (.int .i64)] [] (λa r=>IZ (iV.of (aC a 0)) (aq a 1)) (λX=>.dt [.agg (iV.cells (X.1)),.int .u32 (X.2)]) (λX=>[])
theorem Zdv:bj pG Zgq:=oS (.nil) Tryz.func122 Tryz.call122 [] [] 2 (λ_ _ _=>by kernel_rfl) (λa r=>Z76 (iV.of (aC a 0)) (aq a 1)) (λ_ X=>by kernel_rfl)
def Qq(t:iW):Tree Int:=
.br t.D2 (.lf 1) (.lf 0)
def Xh t:=(Qq t).m
def Zpk:bc:=mS 123 [] true [.agg iW.sig] [] (λa r=>Qq (iW.of (aC a 0))) (λX=>.int .u32 X) (λX=>[])
theorem Zj9:bj pG Zpk:=oS (.nil) Tryz.func123 Tryz.call123 [] [] 2
def Tp(d0:fp)(port:Int):Tree Int:=
.br (port==4) (.lf d0.C1) (.br (port==5) (.lf d0.Frame) (.br (port==6) (.lf (wrap u32 d0.B7)) (.lf 0)))
def Ol d0 port:=(Tp d0 port).m
def yD:bc:=mS 124 [] true [.agg fp.sig,.one (.int .i64)] [] (λa r=>Tp (fp.of (aC a 0)) (aq a 1)) (λX=>.int .u32 X) (λX=>[])
theorem Zq4:bj pG yD:=oS (.nil) Tryz.func124 Tryz.call124 [] [] 2
def Om(n:ia)(port:Int):Tree Int:=
.br (port==7) (.lf n.Frame) (.br (port==8) (.lf n.F1) (.br (port==9) (.br n.C5 (.br n.B5 (.lf (wrap u32 (wrap u32 ((0:Int)+(1:Int))+2))) (.lf (wrap u32 ((0:Int)+(1:Int))))) (.br n.B5 (.lf (wrap u32 ((0:Int)+(2:Int)))) (.lf 0))) (.lf 0)))
def Lo n port:=(Om n port).m
def vV:bc:=mS 125 [] true [.agg ia.sig,.one (.int .i64)] [] (λa r=>Om (ia.of (aC a 0)) (aq a 1)) (λX=>.int .u32 X) (λX=>[])
theorem vD:bj pG vV:=oS (.nil) Tryz.func125 Tryz.call125 [] [] 2
def Lp(b:gv)(port:Int):Tree Int:=
.br (port==10) (.lf b.C7) (.br (port==11) (.an (Qe3 b) (.lv (TW b) λ(x0:Int)=>.lf (wrap u32 x0))) (.lf 0))
def X4 b port:=(Lp b port).m
abbrev Qro b port:=(Lp b port).p
def Zfy:bc:=mT 126 [] true [.agg gv.sig,.one (.int .i64)] [] (λa r=>Lp (gv.of (aC a 0)) (aq a 1)) (λX=>.int .u32 X) (λX=>[])
theorem Zbd:bj pG Zfy:=oT (.cons Qmy (.nil)) Tryz.func126 Tryz.call126 [] [] 2
def Ln(m:au)(port clock:Int):Tree (au×Int):=
let T1:Tree ((au×Int)):=.lv (XV m.A3 port) λ(x0:iV×Int)=>.lf ({B1:=m.B1,Mem:=m.Mem,A3:=x0.1,A9:=m.A9,A7:=m.A7,C3:=m.C3,A2:=m.A2,A1:=m.A1,A4:=m.A4,A6:=m.A6},x0.2);.br (port==0) T1 (.br (port==1) T1 (.br (port==2) (.lf (m,clock)) (.br (port==3) (.lv (Xh m.A9) λ(x2:Int)=>.lf (m,x2)) (.br (port==4) (.lv (Ol m.A7 port) λ(x3:Int)=>.lf (m,x3)) (.br (port==5) (.lv (Ol m.A7 port) λ(x4:Int)=>.lf (m,x4)) (.br (port==6) (.lv (Ol m.A7 port) λ(x5:Int)=>.lf (m,x5)) (.br (port==7) (.lv (Lo m.C3 port) λ(x6:Int)=>.lf (m,x6)) (.br (port==8) (.lv (Lo m.C3 port) λ(x7:Int)=>.lf (m,x7)) (.br (port==9) (.lv (Lo m.C3 port) λ(x8:Int)=>.lf (m,x8)) (let T2:Tree ((au×Int)):=.an (Qro m.A2 port) (.lv (X4 m.A2 port) λ(x9:Int)=>.lf (m,x9));.br (port==10) T2 (.br (port==11) T2 (.lf (m,0)))))))))))))
def uB m port clock:=(Ln m port clock).m
abbrev Qfw m port clock:=(Ln m port clock).p
def Qtp:bc:=bc.fz<|mP 64 [] false [.agg au.sig,.one (.int .i64),.one (.int .u32)] [] (λa r=>Qfw (au.of (aC a 0)) (aq a 1) (aq a 2)) (λa r=>uB (au.of (aC a 0)) (aq a 1) (aq a 2)) (λX=>.dt [.agg (au.cells (X.1)),.int .u32 (X.2)]) (λX=>[])
theorem Qsk:bj pG Qtp:=MQ<|wc drawn mQ (.cons Zdv (.cons Zj9 (.cons Zq4 (.cons vD (.cons Zbd (.nil)))))) Tryz.func64 Tryz.call64 (λa r=>Ln (au.of (aC a 0)) (aq a 1) (aq a 2)) [.sl (.ints .u32) false] [] 2 (λ_ _ _=>by kernel_rfl) (λ_ _=>rfl) (λ_ _ h=>h) (λh=>by cases h)
def Tm(t:iW)(deadline:Int):Tree iW:=
.lf ({D3:=deadline !=0,C4:=deadline,D2:=false})
def Oh t deadline:=(Tm t deadline).m
def Zjc:bc:=mS 127 [] true [.agg iW.sig,.one (.int .u32)] [] (λa r=>Tm (iW.of (aC a 0)) (aq a 1)) (λX=>.agg (iW.cells X)) (λX=>[])
theorem Zgn:bj pG Zjc:=oS (.nil) Tryz.func127 Tryz.call127 [] [] 2
def Oa(m:List Int)(frame:Int):Tree Bool:=
.lv (lT m) λ(x0:Int)=>.lf (decide (wrap u64 frame<wrap u64 x0))
def IV m frame:=(Oa m frame).m
def Zbj:bc:=mS 134 [] true [.one (.ints .u32),.one (.int .u32)] [] (λa r=>Oa (eh .u32 a 0) (aq a 1)) (λX=>.bool X) (λX=>[])
theorem Qs5:bj pG Zbj:=oS (.cons H3 (.nil)) Tryz.func134 Tryz.call134 [] [] 2
def N6(m:List Int)(frame:Int):Tree Bool:=
.br (decide (frame>=0)) (.lv (lT m) λ(x0:Int)=>.lf (decide (frame<x0))) (.lf false)
def IU m frame:=(N6 m frame).m
def Z05:bc:=mS 60 [] true [.one (.ints .u32),.one (.int .i64)] [] (λa r=>N6 (eh .u32 a 0) (aq a 1)) (λX=>.bool X) (λX=>[])
theorem Ql7:bj pG Z05:=oS (.cons H3 (.nil)) Tryz.func60 Tryz.call60 [] [] 2
def Qn1(words:List Int)(z:(Int)×(List Int)):Prop:=0<=z.1/\z.1<=words.length/\(z.2.length:Int)=4*z.1
def N7(words:List Int)(z:(Int)×(List Int)):Nat:=(words.length-z.1).toNat
def Fh(words:List Int):Tree (List UInt8):=
.cn (bJ 0 1&&bT 1 1&&List.all [D.int u8 0] D.plain&&decide ((0:Int)<=(0:Int)/\0<=wrap i64 (4*(words.length:Int))/\wrap i64 (4*(words.length:Int))<=9223372036854775807/\(↑1:Int)*wrap i64 (4*(words.length:Int))<=140737488355328)) (.lp inferInstance (N7 words (0,[])+1) ((True/\((ao.Nil (ao.ints u32 words)\/rE (1:Nat))/\rE (words:List Int))/\rE ((words.length:Int):Int)/\rE (0:Int)/\True)/\rE ([]:List Int)/\True) (0,[]) λ(v0:Int×List Int)=>.br (decide (v0.1<(words.length:Int))) (.cn (bT 1 1&&bJ 0 1&&decide (0<=v0.1/\v0.1<(words.length:Int))) (.cn (decide (1*(v0.2.length+4)<=140737488355328)) (let E1:=words.getD v0.1.toNat 0;.nx ((True/\((ao.Nil (ao.ints u32 words)\/rE (1:Nat))/\rE (words:List Int))/\rE ((words.length:Int):Int)/\rE ((wrap i64 (v0.1+1)):Int)/\True)/\rE ((v0.2++[wrap u8 (words.getD v0.1.toNat 0),wrap u8 (bg u32 (words.getD v0.1.toNat 0) 8),wrap u8 (bg u32 (words.getD v0.1.toNat 0) 16),wrap u8 (bg u32 (words.getD v0.1.toNat 0) 24)]):List Int)/\True) (Sum.inl (wrap i64 (v0.1+1),v0.2++[wrap u8 E1,wrap u8 (bg u32 E1 8),wrap u8 (bg u32 E1 16),wrap u8 (bg u32 E1 24)]))))) (.lf (Sum.inr (bytesOf v0.2))))
def Z3l words:=(Fh words).m
def VH(words:List Int):Prop:=
words.length<=1000000000000
theorem Z54(words:List Int)(hw:VH words):(Fh words).p:=by
 simp only[VH]at hw
 unfold Tree.p Fh
 repeat'(first|refine ga (inv:=Qn1 words) (μ:=N7 words) ?_ (Nat.lt_succ_self _) (λ_ _=>?_)|exact trivial|refine aa (λ_=>?_) (λ_=>?_)|refine ba ?_ ?_|refine cz ?_ ?_|refine ar (λ_ _=>?_)|refine fh ?_|refine ez ?_|refine And.intro ?_ ?_)
 all_goals((try simp only[Qn1,N7]at*);exact oI)
def Z6e:bu:={
 α:=(Int)×(List Int)
 F:=λst a=>([(3,.all 0),(10,(lk st 10)),(11,(lk st 11)),(12,.int i64 a.1)],[⟨false,5,1,.ints u8 a.2⟩])
 a0:=λst=>((lk st 12).toInt,(oP st.rows (rN st 3)))
 jn:=λst=>[]++[(rX st 3 0)]}
def Z0i:List (Nat×bu):=[(3,Z6e)]
def Zd6:bc:=mP 66 [] true [.one (.ints .u32)] [] (λa r=>VH (eh .u32 a 0)) (λa r=>Z3l (eh .u32 a 0)) (λX=>.str X) (λX=>[])
theorem Z5x:bj pG Zd6:=wc drawn mQ (.nil) Tryz.func66 Tryz.call66 (λa r=>Fh (eh .u32 a 0)) [] Z0i 3 (hp:=λa r h=>Z54 (eh .u32 a 0) h)
def GC(m:List Int)(frame:Int):Tree ((List UInt8)×Bool):=
.lv (IU m frame) λ(x0:Bool)=>.br (!x0) (.lf ([],false)) (.cn (bT 1 1&&bJ 0 1&&decide (0<=wrap i64 (frame*32)/\wrap i64 (frame*32)<=wrap i64 (wrap i64 (frame*32)+32)/\wrap i64 (wrap i64 (frame*32)+32)<=(m.length:Int))) (let E1:=dB (dF (wrap i64 (wrap i64 (frame*32)+32))-dF (wrap i64 (frame*32))) (dC (dF (wrap i64 (frame*32))) m);.an (VH E1) (.lv (Z3l E1) λ(x1:List UInt8)=>.lf (x1,true))))
def Eb m frame:=(GC m frame).m
abbrev Qcp m frame:=(GC m frame).p
def Zbs:bc:=mT 23 [] true [.one (.ints .u32),.one (.int .i64)] [] (λa r=>GC (eh .u32 a 0) (aq a 1)) (λX=>.dt [.str (X.1),.bool (X.2)]) (λX=>[])
theorem Qk7:bj pG Zbs:=oT (.cons Ql7 (.cons Z5x (.nil))) Tryz.func23 Tryz.call23 [] [] 2
def Qs(d0:fp)(dh:Int):Tree (dx×Bool):=
.br (d0.B7 !=1) (.lf ({B9:=0,At:=0,C1:=0,C9:=[]},false)) (.br (d0.D6==1) (.lf ({B9:=3,At:=dh,C1:=d0.B6,C9:=[]},true)) (.br (d0.D6==2) (.lf ({B9:=4,At:=dh,C1:=d0.B6,C9:=d0.B8},true)) (.lf ({B9:=0,At:=0,C1:=0,C9:=[]},false))))
def XX d0 dh:=(Qs d0 dh).m
def Z6i:bc:=mS 254 [] true [.agg fp.sig,.one (.int .u64)] [] (λa r=>Qs (fp.of (aC a 0)) (aq a 1)) (λX=>.dt [.agg (dx.cells (X.1)),.bool (X.2)]) (λX=>[])
theorem Z40:bj pG Z6i:=oS (.nil) Tryz.func254 Tryz.call254 [] [] 2
def Lf(d0:fp)(m:List Int)(cmd dh:Int):Tree (fp×(List dx)):=
.br (d0.B7 !=0) (.lf (d0,[])) (let T1:Tree ((fp×(List dx))):=.lf ({ae:=d0.ae,C1:=d0.C1,Frame:=d0.Frame,B7:=3,D6:=d0.D6,B6:=d0.B6,B2:=d0.B2,B8:=d0.B8},[]);.br (decide (d0.C1>=d0.ae)) T1 (.lv (IV m d0.Frame) λ(x0:Bool)=>.br (!x0) T1 (.br (cmd==2) (.an (Qcp m (wrap i64 d0.Frame)) (.lv (Eb m (wrap i64 d0.Frame)) λ(x1:List UInt8×Bool)=>let E2:=({ae:=d0.ae,C1:=d0.C1,Frame:=d0.Frame,B7:=1,D6:=cmd,B6:=d0.C1,B2:=d0.Frame,B8:=x1.1}:fp);.lv (XX E2 dh) λ(x2:dx×Bool)=>.lf (E2,[x2.1]))) (let E3:=({ae:=d0.ae,C1:=d0.C1,Frame:=d0.Frame,B7:=1,D6:=cmd,B6:=d0.C1,B2:=d0.Frame,B8:=[]}:fp);.lv (XX E3 dh) λ(x3:dx×Bool)=>.lf (E3,[x3.1])))))
def Qw9 d0 m cmd dh:=(Lf d0 m cmd dh).m
abbrev Qrf d0 m cmd dh:=(Lf d0 m cmd dh).p
def Zgk:bc:=mT 192 [] true [.agg fp.sig,.one (.ints .u32),.one (.int .i64),.one (.int .u64)] [] (λa r=>Lf (fp.of (aC a 0)) (eh .u32 a 1) (aq a 2) (aq a 3)) (λX=>.dt [.agg (fp.cells (X.1)),.sl 4 (.av .ay (X.2)) true]) (λX=>[])
theorem Zcq:bj pG Zgk:=oT (.cons Qs5 (.cons Qk7 (.cons Z40 (.nil)))) Tryz.func192 Tryz.call192 [.sl (.av .ay) true] [] 2
def Lg(d0:fp)(m:List Int)(port v dh:Int):Tree (fp×(List dx)):=
.br (port==4) (.lf ({ae:=d0.ae,C1:=v,Frame:=d0.Frame,B7:=d0.B7,D6:=d0.D6,B6:=d0.B6,B2:=d0.B2,B8:=d0.B8},[])) (.br (port==5) (.lf ({ae:=d0.ae,C1:=d0.C1,Frame:=v,B7:=d0.B7,D6:=d0.D6,B6:=d0.B6,B2:=d0.B2,B8:=d0.B8},[])) (.br (port==6) (let T1:Tree ((fp×(List dx))):=.an (Qrf d0 m (wrap i64 v) dh) (.lv (Qw9 d0 m (wrap i64 v) dh) λ(x0:fp×List dx)=>.lf (x0.1,x0.2));.br (v==1) T1 (.br (v==2) T1 (.br (v==0) (.lv (Lh d0) λ(x2:Bool)=>.br x2 (.lf ({ae:=d0.ae,C1:=d0.C1,Frame:=d0.Frame,B7:=0,D6:=d0.D6,B6:=d0.B6,B2:=d0.B2,B8:=d0.B8},[])) (.lf (d0,[]))) (.lf (d0,[]))))) (.lf (d0,[]))))
def XW d0 m port v dh:=(Lg d0 m port v dh).m
abbrev Qz3 d0 m port v dh:=(Lg d0 m port v dh).p
def Zpw:bc:=mT 128 [] true [.agg fp.sig,.one (.ints .u32),.one (.int .i64),.one (.int .u32),.one (.int .u64)] [] (λa r=>Lg (fp.of (aC a 0)) (eh .u32 a 1) (aq a 2) (aq a 3) (aq a 4)) (λX=>.dt [.agg (fp.cells (X.1)),.sl 4 (.av .ay (X.2)) true]) (λX=>[])
theorem Zj5:bj pG Zpw:=oT (.cons Zcq (.cons Qnz (.nil))) Tryz.func128 Tryz.call128 [.sl (.av .ay) true] [] 2
def Ob(m:List Int)(frame:Int):Tree Bool:=
.lv (lT m) λ(x0:Int)=>.lf (decide (wrap u64 frame<wrap u64 x0))
def GG m frame:=(Ob m frame).m
def Zi7:bc:=mS 135 [] true [.one (.ints .u32),.one (.int .u32)] [] (λa r=>Ob (eh .u32 a 0) (aq a 1)) (λX=>.bool X) (λX=>[])
theorem Qlt:bj pG Zi7:=oS (.cons H3 (.nil)) Tryz.func135 Tryz.call135 [] [] 2
def Li(n:ia)(m:List Int)(dh:Int):Tree (List dx):=
.br (decide (n.E0<1)) (.lf ([])) (.br (decide (n.E0>128)) (.lf ([])) (.lv (GG m n.Frame) λ(x0:Bool)=>.br (!x0) (.lf ([])) (.an (Qcp m (wrap i64 n.Frame)) (.lv (Eb m (wrap i64 n.Frame)) λ(x1:List UInt8×Bool)=>.cn (decide ((0:Int)<=(0:Int)/\0<=n.E0/\n.E0<=(x1.1.length:Int))) (.lf ([{B9:=2,At:=dh,C1:=0,C9:=dB (dF n.E0-dF 0) (dC (dF 0) x1.1)}]))))))
def Zc0 n m dh:=(Li n m dh).m
abbrev Qza n m dh:=(Li n m dh).p
def Zqk:bc:=mT 193 [] true [.agg ia.sig,.one (.ints .u32),.one (.int .u64)] [] (λa r=>Li (ia.of (aC a 0)) (eh .u32 a 1) (aq a 2)) (λX=>.sl 4 (.av .ay X) true) (λX=>[])
theorem Zjs:bj pG Zqk:=oT (.cons Qlt (.cons Qk7 (.nil))) Tryz.func193 Tryz.call193 [.sl (.av .ay) true] [] 2
def Lj(n:ia)(m:List Int)(port v dh:Int):Tree (ia×(List dx)):=
.br (port==7) (.lf ({Frame:=v,E0:=n.E0,C5:=n.C5,C0:=n.C0,B5:=n.B5,F1:=n.F1},[])) (.br (port==8) (.lf ({Frame:=n.Frame,E0:=v,C5:=n.C5,C0:=n.C0,B5:=n.B5,F1:=n.F1},[])) (.br (port==9) (.br (v==1) (.an (Qza n m dh) (.lv (Zc0 n m dh) λ(x0:List dx)=>.lf (n,x0))) (.br (v==2) (.lv (GG m n.Frame) λ(x1:Bool)=>.br x1 (.br (!n.C5) (.br (!n.B5) (.lf ({Frame:=n.Frame,E0:=n.E0,C5:=true,C0:=n.Frame,B5:=n.B5,F1:=n.F1},[])) (.lf (n,[]))) (.lf (n,[]))) (.lf (n,[]))) (.br (v==0) (.lf ({Frame:=n.Frame,E0:=n.E0,C5:=n.C5,C0:=n.C0,B5:=false,F1:=0},[])) (.lf (n,[]))))) (.lf (n,[]))))
def XZ n m port v dh:=(Lj n m port v dh).m
abbrev Z3 n m port v dh:=(Lj n m port v dh).p
def qE:bc:=mT 129 [] true [.agg ia.sig,.one (.ints .u32),.one (.int .i64),.one (.int .u32),.one (.int .u64)] [] (λa r=>Lj (ia.of (aC a 0)) (eh .u32 a 1) (aq a 2) (aq a 3) (aq a 4)) (λX=>.dt [.agg (ia.cells (X.1)),.sl 4 (.av .ay (X.2)) true]) (λX=>[])
theorem Zo6:bj pG qE:=oT (.cons Zjs (.cons Qlt (.nil))) Tryz.func129 Tryz.call129 [.sl (.av .ay) true] [] 2
def Xa(m:List Int)(frame:Int)(s:List UInt8)(z:(Int)×(List Int)):Nat:=(32-z.1).toNat
def GB(m:List Int)(frame:Int)(s:List UInt8):Tree ((List Int)×Bool):=
.an (mL m) (.lv (jD m) λ(x0:List Int)=>.lv (IU m frame) λ(x1:Bool)=>.br (!x1) (.lf (x0,false)) (.br ((s.length:Int) !=(128:Int)) (.lf (x0,false)) (.lp inferInstance (Xa m frame s (0,x0)+1) ((rE (s:List UInt8)/\True/\rE ((wrap i64 (frame*32)):Int)/\rE (0:Int)/\True)/\rE (x0:List Int)/\True) (0,x0) λ(v0:Int×List Int)=>.br (decide (v0.1<32)) (.cn (decide (0<=wrap i64 (4*v0.1)/\wrap i64 (4*v0.1)<=wrap i64 (wrap i64 (4*v0.1)+4)/\wrap i64 (wrap i64 (4*v0.1)+4)<=(s.length:Int))) (let E1:=dB (dF (wrap i64 (wrap i64 (4*v0.1)+4))-dF (wrap i64 (4*v0.1))) (dC (dF (wrap i64 (4*v0.1))) s);.cn (decide ((0:Int)<=(0:Int)/\0<(↑(dK E1):Int))) (.cn (decide ((0:Int)<=(1:Int)/\1<(↑(dK E1):Int))) (.cn (decide ((0:Int)<=(2:Int)/\2<(↑(dK E1):Int))) (.cn (decide ((0:Int)<=(3:Int)/\3<(↑(dK E1):Int))) (.cn (bT 1 1&&bJ 0 1&&decide (0<=wrap i64 (wrap i64 (frame*32)+v0.1)/\wrap i64 (wrap i64 (frame*32)+v0.1)<(v0.2.length:Int))) (.nx ((rE (s:List UInt8)/\True/\rE ((wrap i64 (frame*32)):Int)/\rE ((wrap i64 (v0.1+1)):Int)/\True)/\rE ((dG v0.2 (dF (wrap i64 (wrap i64 (frame*32)+v0.1))) (ir u32 (ir u32 (ir u32 (wrap u32 (↑(eW (aK (dB (dF (wrap i64 (wrap i64 (4*v0.1)+4))-dF (wrap i64 (4*v0.1))) (dC (dF (wrap i64 (4*v0.1))) s)) (dF 0) (0:UInt8))):Int)) (eg u32 (wrap u32 (↑(eW (aK (dB (dF (wrap i64 (wrap i64 (4*v0.1)+4))-dF (wrap i64 (4*v0.1))) (dC (dF (wrap i64 (4*v0.1))) s)) (dF 1) (0:UInt8))):Int)) 8)) (eg u32 (wrap u32 (↑(eW (aK (dB (dF (wrap i64 (wrap i64 (4*v0.1)+4))-dF (wrap i64 (4*v0.1))) (dC (dF (wrap i64 (4*v0.1))) s)) (dF 2) (0:UInt8))):Int)) 16)) (eg u32 (wrap u32 (↑(eW (aK (dB (dF (wrap i64 (wrap i64 (4*v0.1)+4))-dF (wrap i64 (4*v0.1))) (dC (dF (wrap i64 (4*v0.1))) s)) (dF 3) (0:UInt8))):Int)) 24))):List Int)/\True) (Sum.inl (wrap i64 (v0.1+1),dG v0.2 (dF (wrap i64 (wrap i64 (frame*32)+v0.1))) (ir u32 (ir u32 (ir u32 (wrap u32 (↑(eW (aK E1 (dF 0) (0:UInt8))):Int)) (eg u32 (wrap u32 (↑(eW (aK E1 (dF 1) (0:UInt8))):Int)) 8)) (eg u32 (wrap u32 (↑(eW (aK E1 (dF 2) (0:UInt8))):Int)) 16)) (eg u32 (wrap u32 (↑(eW (aK E1 (dF 3) (0:UInt8))):Int)) 24))))))))))) (.lf (Sum.inr (v0.2,true))))))
def Ec m frame s:=(GB m frame s).m
abbrev Q8k m frame s:=(GB m frame s).p
def Qwr:bu:={
 α:=(Int)×(List Int)
 F:=λst a=>([(2,(lk st 2)),(8,.all 0),(9,(lk st 9)),(26,.int i64 a.1)],[⟨false,23,1,.ints u32 a.2⟩])
 a0:=λst=>((lk st 26).toInt,(oP st.rows (rN st 8)))
 jn:=λst=>[]++[(rX st 8 0)]}
def Qt6:List (Nat×bu):=[(6,Qwr)]
def Z0l:bc:=mT 21 [] true [.one (.ints .u32),.one (.int .i64),.one (.str)] [] (λa r=>GB (eh .u32 a 0) (aq a 1) (iq a 2)) (λX=>.dt [.all 0,.bool (X.2)]) (λX=>[⟨false,23,1,.ints .u32 (X.1)⟩])
theorem Qdt:bj pG Z0l:=oT (.cons Ew (.cons Ql7 (.nil))) Tryz.func21 Tryz.call21 [.row 23 1 (.ints .u32)] Qt6 3
def strings_Repeat(s:List UInt8)(count:Int):(List UInt8):=
Lib.repeatL s count.toNat
def Qcl(s:List UInt8)(count:Int):Prop:=
0<=count/\count<=9223372036854775807/\s.length*count.toNat<=140737488355328
def Qhu(s:List UInt8)(count:Int):List D:=[.str s,.int .i64 count]
def Qhq(s:List UInt8)(count:Int):List Row:=[]
def Qcy(X:List UInt8):D:=.str X
def Qc4(X:List UInt8):List Row:=[]
def Qjd:List PT:=[.one (.str),.one (.int .i64)]
def Qj:List RT:=[]
def Qvp(args:List D)(rows:List Row):(List UInt8):=strings_Repeat (iq args 0) (aq args 1)
def Quw(args:List D)(rows:List Row):Prop:=Qcl (iq args 0) (aq args 1)
def Qzx:bc:=mP 194 [] true Qjd Qj Quw Qvp Qcy Qc4
theorem Qr3(s:List UInt8)(count:Int)(hw:Qcl s count):j9 pG 194 (Qhu s count) (Qhq s count) (Qcy (strings_Repeat s count)) (Qc4 (strings_Repeat s count)):=by
 exact xf Tryz.strings_Repeat hw.1 hw.2.1 hw.2.2
set_option maxRecDepth 100000 in
theorem Qt7(args:List D)(rows:List Row):Qe Qjd args 0=Qhu (iq args 0) (aq args 1):=by kernel_rfl
set_option maxRecDepth 100000 in
theorem Qqx(args:List D)(rows:List Row):lr Qj rows 0=Qhq (iq args 0) (aq args 1):=by kernel_rfl
set_option maxRecDepth 100000 in
theorem Qy6(X:List UInt8):(wa (Qcy X)&&jI (Qc4 X))=true:=by kernel_rfl
theorem Qwk:bj pG Qzx:=MR Tryz.call194 (λargs rows hp=>by rw[Qt7 args rows,Qqx args rows];exact Qr3 (iq args 0) (aq args 1) hp) (λ_ X=>Qy6 X)
def DV(b:gv)(m:List Int)(port v:Int):Tree (gv×(List Int)):=
let T1:Tree ((gv×(List Int))):=.an (mL m) (.lv (jD m) λ(x0:List Int)=>.lf (b,x0));.br (decide (v>=32)) T1 (.cn (decide (0<=v)) (.br (port==10) (.lv (lT m) λ(x1:Int)=>.br (decide (wrap i64 v<x1)) (.br (bf u32 b.C2 (eg u32 1 v)==0) (.an (Qcl [(0:UInt8)] 128) (.lv (strings_Repeat [(0:UInt8)] 128) λ(x2:List UInt8)=>.an (Q8k m (wrap i64 v) x2) (.lv (Ec m (wrap i64 v) x2) λ(x3:List Int×Bool)=>.lf ({C7:=b.C7,C2:=ir u32 b.C2 (eg u32 1 v)},x3.1)))) T1) T1) (.br (port==11) (.an (mL m) (.lv (jD m) λ(x6:List Int)=>.lf ({C7:=b.C7,C2:=nS u32 b.C2 (eg u32 1 v)},x6))) T1)))
def G7 b m port v:=(DV b m port v).m
abbrev Qov b m port v:=(DV b m port v).p
def Zcm:bc:=mT 130 [] true [.agg gv.sig,.one (.ints .u32),.one (.int .i64),.one (.int .u32)] [] (λa r=>DV (gv.of (aC a 0)) (eh .u32 a 1) (aq a 2) (aq a 3)) (λX=>.dt [.agg (gv.cells (X.1)),.all 0]) (λX=>[⟨false,23,1,.ints .u32 (X.2)⟩])
theorem Z66:bj pG Zcm:=oT (.cons Ew (.cons H3 (.cons Qdt (.cons Qwk (.nil))))) Tryz.func130 Tryz.call130 [.row 23 1 (.ints .u32)] [] 2
def Lm(m:au)(port v dh:Int):Tree (au×(List dx)):=
.br (port==0) (.lf (m,[{B9:=1,At:=dh,C1:=0,C9:=[(λ(n:Int)=>UInt8.ofNat n.toNat) (wrap u8 v)]}])) (.br (port==3) (.lv (Oh m.A9 v) λ(x0:iW)=>.lf ({B1:=m.B1,Mem:=m.Mem,A3:=m.A3,A9:=x0,A7:=m.A7,C3:=m.C3,A2:=m.A2,A1:=m.A1,A4:=m.A4,A6:=m.A6},[])) (let T1:Tree ((au×(List dx))):=.an (Qz3 m.A7 m.Mem port v dh) (.lv (XW m.A7 m.Mem port v dh) λ(x1:fp×List dx)=>.lf ({B1:=m.B1,Mem:=m.Mem,A3:=m.A3,A9:=m.A9,A7:=x1.1,C3:=m.C3,A2:=m.A2,A1:=m.A1,A4:=m.A4,A6:=m.A6},x1.2));.br (port==4) T1 (.br (port==5) T1 (.br (port==6) T1 (let T2:Tree ((au×(List dx))):=.an (Z3 m.C3 m.Mem port v dh) (.lv (XZ m.C3 m.Mem port v dh) λ(x4:ia×List dx)=>.lf ({B1:=m.B1,Mem:=m.Mem,A3:=m.A3,A9:=m.A9,A7:=m.A7,C3:=x4.1,A2:=m.A2,A1:=m.A1,A4:=m.A4,A6:=m.A6},x4.2));.br (port==7) T2 (.br (port==8) T2 (.br (port==9) T2 (let T3:Tree ((au×(List dx))):=.an (Qov m.A2 m.Mem port v) (.lv (G7 m.A2 m.Mem port v) λ(x7:gv×List Int)=>.lf ({B1:=m.B1,Mem:=x7.2,A3:=m.A3,A9:=m.A9,A7:=m.A7,C3:=m.C3,A2:=x7.1,A1:=m.A1,A4:=m.A4,A6:=m.A6},[]));.br (port==10) T3 (.br (port==11) T3 (.lf (m,[])))))))))))
def Fu m port v dh:=(Lm m port v dh).m
abbrev Qf4 m port v dh:=(Lm m port v dh).p
def Qs8:bc:=bc.fz<|mP 65 [] false [.agg au.sig,.one (.int .i64),.one (.int .u32),.one (.int .u64)] [] (λa r=>Qf4 (au.of (aC a 0)) (aq a 1) (aq a 2) (aq a 3)) (λa r=>Fu (au.of (aC a 0)) (aq a 1) (aq a 2) (aq a 3)) (λX=>.dt [.agg (au.cells (X.1)),.sl 4 (.av .ay (X.2)) true]) (λX=>[])
theorem Qqy:bj pG Qs8:=MQ<|wc drawn mQ (.cons Zgn (.cons Zj5 (.cons Zo6 (.cons Z66 (.nil))))) Tryz.func65 Tryz.call65 (λa r=>Lm (au.of (aC a 0)) (aq a 1) (aq a 2) (aq a 3)) [.sl (.ints .u32) false,.sl (.av .ay) true] [] 2 (λ_ _ _=>by kernel_rfl) (λ_ _=>rfl) (λ_ _ h=>h) (λh=>by cases h)
def GP(m:au)(clock:Int):Tree (au×(List dx)):=
.an (mL m.Mem) (.lv (jD m.Mem) λ(x0:List Int)=>let E1:=({B1:=m.B1,Mem:=x0,A3:=m.A3,A9:=m.A9,A7:=m.A7,C3:=m.C3,A2:=m.A2,A1:=m.A1,A4:=m.A4,A6:=m.A6}:au);.an (Qfi E1) (.lv (AI E1) λ(x1:Bool)=>.br (!x1) (.lf (E1,[])) (.an (Qdf E1) (.lv (nu E1) λ(x2:au)=>.an (Qo5 x2.B1 x2.Mem) (.lv (wJ x2.B1 x2.Mem) λ(x3:bh×List Int×kJ)=>let E2:=({B1:=x3.1,Mem:=x3.2.1,A3:=x2.A3,A9:=x2.A9,A7:=x2.A7,C3:=x2.C3,A2:=x2.A2,A1:=x2.A1,A4:=x2.A4,A6:=x2.A6}:au);.br (x3.2.2.B9==1) (.an (Qfw E2 x3.2.2.D0 clock) (.lv (uB E2 x3.2.2.D0 clock) λ(x4:au×Int)=>.br (x3.2.2.D9 !=0) (.cn (bJ 0 1&&decide (0<=x3.2.2.D9/\x3.2.2.D9<(↑16:Int))) (.lf ({B1:={X:=iU.of 0 (dG (iU.l x4.1.B1.X) x3.2.2.D9.toNat x4.2),Pc:=x4.1.B1.Pc,B4:=x4.1.B1.B4},Mem:=x4.1.Mem,A3:=x4.1.A3,A9:=x4.1.A9,A7:=x4.1.A7,C3:=x4.1.C3,A2:=x4.1.A2,A1:=wrap u64 (x4.1.A1+1),A4:=x4.1.A4,A6:=x4.1.A6},[]))) (.lf ({B1:=x4.1.B1,Mem:=x4.1.Mem,A3:=x4.1.A3,A9:=x4.1.A9,A7:=x4.1.A7,C3:=x4.1.C3,A2:=x4.1.A2,A1:=wrap u64 (x4.1.A1+1),A4:=x4.1.A4,A6:=x4.1.A6},[])))) (.br (x3.2.2.B9==2) (.an (Qf4 E2 x3.2.2.D0 x3.2.2.Value m.A1) (.lv (Fu E2 x3.2.2.D0 x3.2.2.Value m.A1) λ(x5:au×List dx)=>.lf ({B1:=x5.1.B1,Mem:=x5.1.Mem,A3:=x5.1.A3,A9:=x5.1.A9,A7:=x5.1.A7,C3:=x5.1.C3,A2:=x5.1.A2,A1:=wrap u64 (x5.1.A1+1),A4:=x5.1.A4,A6:=x5.1.A6},x5.2))) (.br (x3.2.2.B9==3) (.lf ({B1:=x3.1,Mem:=x3.2.1,A3:=x2.A3,A9:=x2.A9,A7:=x2.A7,C3:=x2.C3,A2:=x2.A2,A1:=wrap u64 (x2.A1+1),A4:=true,A6:=x2.A6},[])) (.br (x3.2.2.B9==4) (.lf ({B1:=x3.1,Mem:=x3.2.1,A3:=x2.A3,A9:=x2.A9,A7:=x2.A7,C3:=x2.C3,A2:=x2.A2,A1:=wrap u64 (x2.A1+1),A4:=x2.A4,A6:=true},[])) (.lf ({B1:=x3.1,Mem:=x3.2.1,A3:=x2.A3,A9:=x2.A9,A7:=x2.A7,C3:=x2.C3,A2:=x2.A2,A1:=wrap u64 (x2.A1+1),A4:=x2.A4,A6:=x2.A6},[]))))))))))
def AQ m clock:=(GP m clock).m
abbrev O0 m clock:=(GP m clock).p
def Z6n:bc:=bc.fz<|mP 22 [] false [.agg au.sig,.one (.int .u32)] [] (λa r=>O0 (au.of (aC a 0)) (aq a 1)) (λa r=>AQ (au.of (aC a 0)) (aq a 1)) (λX=>.dt [.agg (au.cells (X.1)),.sl 4 (.av .ay (X.2)) false]) (λX=>[])
theorem Z4s:bj pG Z6n:=MQ<|wc drawn mQ (.cons Ew (.cons Qpk (.cons Qn (.cons Z1x (.cons Qsk (.cons Qqy (.nil))))))) Tryz.func22 Tryz.call22 (λa r=>GP (au.of (aC a 0)) (aq a 1)) [.sl (.ints .u32) false,.sl (.av .ay) false] [] 2 (λ_ _ _=>by kernel_rfl) (λ_ _=>rfl) (λ_ _ h=>h) (λh=>by cases h)
end
noncomputable section
def Z21(op:Int):Tree Int:=
let T1:Tree (Int):=.br (op==49) (.lf 3) (let T2:Tree (Int):=.br (op==24) (.lf 6) (.br (op==48) (.lf 7) (.br (op==58) (.lf 8) (.br (op==59) (.lf 8) (.br (op==60) (.lf 9) (.br (op==61) (.lf 9) (.br (op==56) (.lf 1) (.br (op==57) (.lf 1) (.br (decide (op>=62)) (.br (decide (op<=64)) (.lf 1) (.lf 0)) (.lf 0)))))))));.br (decide (op>=17)) (.br (decide (op<=19)) (.lf 4) (.br (decide (op>=20)) (.br (decide (op<=22)) (.lf 5) T2) T2)) (.br (decide (op>=20)) (.br (decide (op<=22)) (.lf 5) T2) T2));let T3:Tree (Int):=.br (op==16) (.lf 3) (.br (op==23) (.lf 3) (.br (decide (op>=32)) (.br (decide (op<=36)) (.lf 3) (.br (decide (op>=40)) (.br (decide (op<=45)) (.lf 3) T1) T1)) (.br (decide (op>=40)) (.br (decide (op<=45)) (.lf 3) T1) T1)));.br (decide (op>=1)) (.br (decide (op<=13)) (.lf 2) T3) T3
def oR op:=(Z21 op).m
def Zjv:bc:=mS 154 [] true [.one (.int .i64)] [] (λa r=>Z21 (aq a 0)) (λX=>.int .i64 X) (λX=>[])
theorem R7:bj pG Zjv:=oS (.nil) Tryz.func154 Tryz.call154 [] [] 2
def Tx(r:Int):Tree Bool:=
.br (decide (r>=0)) (.lf (decide (r<=15))) (.lf false)
def Lv r:=(Tx r).m
def Z32:bc:=mS 236 [] true [.one (.int .i64)] [] (λa r=>Tx (aq a 0)) (λX=>.bool X) (λX=>[])
theorem Z06:bj pG Z32:=oS (.nil) Tryz.func236 Tryz.call236 [] [] 2
def Xu(f:Int):Tree (Int×Int):=
.br (f==3) (.lf ((-32768),32767)) (.br (f==7) (.lf ((-32768),32767)) (.br (f==4) (.lf (0,65535)) (.br (f==6) (.lf (0,65535)) (.br (f==5) (.lf (0,31)) (.br (f==8) (.lf (0,7)) (.br (f==9) (.lf (0,11)) (.lf (0,0))))))))
def Xt f:=(Xu f).m
def Zbx:bc:=mS 155 [] true [.one (.int .i64)] [] (λa r=>Xu (aq a 0)) (λX=>.dt [.int .i64 (X.1),.int .i64 (X.2)]) (λX=>[])
theorem Qrr:bj pG Zbx:=oS (.nil) Tryz.func155 Tryz.call155 [] [] 2
def Ov(i:gu):Tree Bool:=
.lv (oR i.Op) λ(x0:Int)=>.br (x0==0) (.lf false) (.lv (Lv i.A) λ(x1:Bool)=>.br (!x1) (.lf false) (.lv (Lv i.B) λ(x2:Bool)=>.br (!x2) (.lf false) (.lv (Lv i.C) λ(x3:Bool)=>.br (!x3) (.lf false) (.lv (Xt x0) λ(x4:Int×Int)=>.br (decide (wrap i64 i.bn<x4.1)) (.lf false) (.br (decide (wrap i64 i.bn>x4.2)) (.lf false) (let T1:Tree (Bool):=.br (x0==1) (.br (i.A !=0) (.lf false) (.br (i.B==0) (.lf true) (.br (decide (x0>=2)) (.lf (decide (x0<=5))) (.lf false)))) (.br (i.B==0) (.lf true) (.br (decide (x0>=2)) (.lf (decide (x0<=5))) (.lf false)));.br (x0 !=2) (.br (i.C !=0) (.lf false) T1) T1))))))
def DX i:=(Ov i).m
def Zek:bc:=mS 153 [] true [.agg gu.sig] [] (λa r=>Ov (gu.of (aC a 0))) (λX=>.bool X) (λX=>[])
theorem Qvn:bj pG Zek:=oS (.cons R7 (.cons Z06 (.cons Qrr (.nil)))) Tryz.func153 Tryz.call153 [] [] 2
def S6(i:gu):Tree (Int×Bool):=
.lv (DX i) λ(x0:Bool)=>.br (!x0) (.lf (0,false)) (.lf (ir u32 (ir u32 (ir u32 (ir u32 (eg u32 (wrap u32 i.Op) 24) (eg u32 (wrap u32 i.A) 20)) (eg u32 (wrap u32 i.B) 16)) (bf u32 (wrap u32 i.bn) 65535)) (wrap u32 i.C),true))
def oQ i:=(S6 i).m
def Zd4:bc:=mS 96 [] true [.agg gu.sig] [] (λa r=>S6 (gu.of (aC a 0))) (λX=>.dt [.int .u32 (X.1),.bool (X.2)]) (λX=>[])
theorem Qk3:bj pG Zd4:=oS (.cons Qvn (.nil)) Tryz.func96 Tryz.call96 [] [] 2
def Z9o:Tree (List Int):=
.lf ([1,2,3,4,5,6,7,8,9,10,11,12,13,16,16,17,18,19,20,21,22,23,24,24,32,32,33,34,35,35,36,40,41,42,43,44,45,48,49,56,57,58,59,60,60,61,61,62,63,64])
def Zds:(List Int):=(Z9o).m
def Zq6:bc:=mS 156 [] true [] [] (λa r=>Z9o) (λX=>.sl 1 (.ints .i64 X) true) (λX=>[])
theorem Zk6:bj pG Zq6:=oS (.nil) Tryz.func156 Tryz.call156 [.sl (.ints .i64) true] [] 2
def Z4i(DD:Int):Tree (Int×Int):=
let E1:=wrap u64 (nj u64 (wrap u64 (DD+11400714819323198485)) (bg u64 (wrap u64 (DD+11400714819323198485)) 30)*13787848793156543929);let E2:=wrap u64 (nj u64 E1 (bg u64 E1 27)*10723151780598845931);.lf (nj u64 E2 (bg u64 E2 31),wrap u64 (DD+11400714819323198485))
def Zhi DD:=(Z4i DD).m
def Zj1:bc:=mS 116 [] true [.one (.int .u64)] [] (λa r=>Z4i (aq a 0)) (λX=>.dt [.int .u64 (X.1),.int .u64 (X.2)]) (λX=>[])
theorem Zhe:bj pG Zj1:=oS (.nil) Tryz.func116 Tryz.call116 [] [] 2
def Z96(n k:Int):Tree Int:=
.lv (Zhi (nj u64 (wrap u64 n) (wrap u64 (wrap u64 k*11400714819323198485)))) λ(x0:Int×Int)=>.lf (wrap i64 (bg u64 x0.1 1))
def AS n k:=(Z96 n k).m
def Zpz:bc:=mS 58 [] true [.one (.int .i64),.one (.int .i64)] [] (λa r=>Z96 (aq a 0) (aq a 1)) (λX=>.int .i64 X) (λX=>[])
theorem VI:bj pG Zpz:=oS (.cons Zhe (.nil)) Tryz.func58 Tryz.call58 [] [] 2
def Qop(n k:Int):Tree Int:=
.cn (decide (k≠0)) (.br (decide (dE n k<0)) (.lf (wrap i64 (dE n k+k))) (.lf (dE n k)))
def tM n k:=(Qop n k).m
abbrev Ev n k:=(Qop n k).p
def Zhm:bc:=mT 15 [] true [.one (.int .i64),.one (.int .i64)] [] (λa r=>Qop (aq a 0) (aq a 1)) (λX=>.int .i64 X) (λX=>[])
theorem R8:bj pG Zhm:=oT (.nil) Tryz.func15 Tryz.call15 [] [] 2
def VA(n:Int):Tree gu:=
.lv Zds λ(x0:List Int)=>.lv (AS n 1) λ(x1:Int)=>.an (Ev x1 (x0.length:Int)) (.lv (tM x1 (x0.length:Int)) λ(x2:Int)=>.cn (bT 1 1&&bJ 0 1&&decide (0<=x2/\x2<(x0.length:Int))) (.an (Ev (bg i64 x1 8) 6) (.lv (tM (bg i64 x1 8) 6) λ(x3:Int)=>.an (Ev (bg i64 x1 12) 6) (.lv (tM (bg i64 x1 12) 6) λ(x4:Int)=>.an (Ev (bg i64 x1 16) 6) (.lv (tM (bg i64 x1 16) 6) λ(x5:Int)=>.an (Ev (bg i64 x1 20) 24) (.lv (tM (bg i64 x1 20) 24) λ(x6:Int)=>.br (decide (x0.getD x2.toNat (0:Int)<=(13:Int))) (.lf ({Op:=x0.getD x2.toNat 0,A:=x3,B:=x4,C:=x5,bn:=0})) (let E4:=({Op:=x0.getD x2.toNat 0,A:=x3,B:=x4,C:=0,bn:=wrap i32 (wrap i64 (wrap i64 (8*x6)-32))}:gu);let T1:Tree (gu):=.br (x0.getD x2.toNat (0:Int)==(49:Int)) (.lf (E4)) (.br (x0.getD x2.toNat (0:Int)==(24:Int)) (.lf ({Op:=x0.getD x2.toNat 0,A:=x3,B:=0,C:=0,bn:=wrap i32 (wrap i64 (x6*bf i64 (bg i64 x1 40) 1))})) (let T2:Tree (gu):=let E6:=({Op:=x0.getD x2.toNat 0,A:=x3,B:=0,C:=0,bn:=wrap i32 (dE x6 8)}:gu);.br (x0.getD x2.toNat (0:Int)==(58:Int)) (.lf (E6)) (.br (x0.getD x2.toNat (0:Int)==(59:Int)) (.lf (E6)) (let E5:=({Op:=x0.getD x2.toNat 0,A:=x3,B:=0,C:=0,bn:=wrap i32 (dE x6 12)}:gu);.br (x0.getD x2.toNat (0:Int)==(60:Int)) (.lf (E5)) (.br (x0.getD x2.toNat (0:Int)==(61:Int)) (.lf (E5)) (.lf ({Op:=x0.getD x2.toNat 0,A:=0,B:=0,C:=0,bn:=0})))));.br (decide (x0.getD x2.toNat (0:Int)>=(17:Int))) (.br (decide (x0.getD x2.toNat (0:Int)<=(22:Int))) (.lf ({Op:=x0.getD x2.toNat 0,A:=x3,B:=x4,C:=0,bn:=wrap i32 x6})) T2) T2));let T3:Tree (gu):=.br (x0.getD x2.toNat (0:Int)==(16:Int)) (.lf (E4)) (.br (x0.getD x2.toNat (0:Int)==(23:Int)) (.lf (E4)) (.br (decide (x0.getD x2.toNat (0:Int)>=(32:Int))) (.br (decide (x0.getD x2.toNat (0:Int)<=(36:Int))) (.lf (E4)) T1) T1));.br (decide (x0.getD x2.toNat (0:Int)>=(40:Int))) (.br (decide (x0.getD x2.toNat (0:Int)<=(48:Int))) (.br (x0.getD x2.toNat (0:Int)==(48:Int)) (.lf ({Op:=x0.getD x2.toNat 0,A:=x3,B:=0,C:=0,bn:=wrap i32 (wrap i64 (x6-12))})) (.lf ({Op:=x0.getD x2.toNat 0,A:=x3,B:=x4,C:=0,bn:=wrap i32 (wrap i64 (x6-12))}))) T3) T3)))))))
def Zf3 n:=(VA n).m
abbrev Qge n:=(VA n).p
def Zj8:bc:=mT 98 [] true [.one (.int .i64)] [] (λa r=>VA (aq a 0)) (λX=>.agg (gu.cells X)) (λX=>[])
theorem Zes:bj pG Zj8:=oT (.cons Zk6 (.cons VI (.cons R8 (.nil)))) Tryz.func98 Tryz.call98 [] [] 2
def Qrv(l:List Int)(z:(Int)×(List Int)):Prop:=0<=z.1/\z.1<=l.length/\(z.2.length:Int)=z.1
def S8(l:List Int)(z:(Int)×(List Int)):Nat:=(l.length-z.1).toNat
def NL(l:List Int):Tree (List Int):=
.lp inferInstance (S8 l (0,[])+1) ((((ao.Nil (ao.ints i64 l)\/rE (1:Nat))/\rE (l:List Int))/\True/\rE (0:Int)/\True)/\rE ([]:List Int)/\True) (0,[]) λ(v0:Int×List Int)=>.br (decide (v0.1<(l.length:Int))) (let E1:=bT 1 1&&bJ 0 1&&decide (0<=v0.1/\v0.1<(l.length:Int));.cn E1 (let E2:=decide (4*(v0.2.length+1)<=140737488355328);.br (dE (l.getD v0.1.toNat 0) (17:Int)==(0:Int)) (.cn E1 (.cn E2 (.nx ((((ao.Nil (ao.ints i64 l)\/rE (1:Nat))/\rE (l:List Int))/\True/\rE ((wrap i64 (v0.1+1)):Int)/\True)/\rE ((v0.2++[wrap u32 (bf i64 (l.getD v0.1.toNat 0) 4294967295)]):List Int)/\True) (Sum.inl (wrap i64 (v0.1+1),v0.2++[wrap u32 (bf i64 (l.getD v0.1.toNat 0) 4294967295)]))))) (.cn E1 (.an (Qge (l.getD v0.1.toNat 0)) (.lv (Zf3 (l.getD v0.1.toNat 0)) λ(x0:gu)=>.lv (oQ x0) λ(x1:Int×Bool)=>.cn E2 (.nx ((((ao.Nil (ao.ints i64 l)\/rE (1:Nat))/\rE (l:List Int))/\True/\rE ((wrap i64 (v0.1+1)):Int)/\True)/\rE ((v0.2++[x1.1]):List Int)/\True) (Sum.inl (wrap i64 (v0.1+1),v0.2++[x1.1])))))))) (.lf (Sum.inr v0.2))
def Mg l:=(NL l).m
abbrev Qll l:=(NL l).p
def Zg5:bu:={
 α:=(Int)×(List Int)
 F:=λst a=>([(0,(lk st 0)),(3,.all 0),(4,.int i64 a.1)],[⟨false,23,1,.ints u32 a.2⟩])
 a0:=λst=>((lk st 4).toInt,(oP st.rows (rN st 3)))
 jn:=λst=>[]++[(rX st 3 0)]}
def Z5z:List (Nat×bu):=[(3,Zg5)]
def Zkt:bc:=mT 50 [] true [.one (.ints .i64)] [] (λa r=>NL (eh .i64 a 0)) (λX=>.all 0) (λX=>[⟨false,23,1,.ints .u32 X⟩])
theorem Zfj:bj pG Zkt:=oT (.cons Qk3 (.cons Zes (.nil))) Tryz.func50 Tryz.call50 [.row 23 1 (.ints .u32)] Z5z 3
def Th(pc:Int):Tree bh:=
.lf ({X:={a0:=0,a1:=0,a2:=0,a3:=0,a4:=0,a5:=0,a6:=0,a7:=0,a8:=0,a9:=0,kq:=0,kr:=0,a12:=0,ku:=0,kv:=0,ky:=0},Pc:=pc,B4:={a0:=1,a1:=0,a2:=0,a3:=0,a4:=0,a5:=0,a6:=0,a7:=0}})
def W7 pc:=(Th pc).m
def Zg4:bc:=mS 99 [] true [.one (.int .u32)] [] (λa r=>Th (aq a 0)) (λX=>.agg (bh.cells X)) (λX=>[])
theorem Zcu:bj pG Zg4:=oS (.nil) Tryz.func99 Tryz.call99 [] [] 2
def RS(c7:Int):Tree (List Int):=
.br (decide (c7<1)) (.lf ([])) (.br (decide (c7>32)) (.lf ([])) (.cn (bJ 0 1&&bT 1 1&&List.all [D.int u32 0] D.plain&&decide (0<=wrap i64 (c7*32)/\wrap i64 (c7*32)<=wrap i64 (c7*32)/\wrap i64 (c7*32)<=9223372036854775807/\(↑4:Int)*wrap i64 (c7*32)<=140737488355328)) (.lf (List.replicate (dF (wrap i64 (c7*32))) 0))))
def Tj c7:=(RS c7).m
abbrev Qje c7:=(RS c7).p
def Zoe:bc:=mT 100 [] true [.one (.int .i64)] [] (λa r=>RS (aq a 0)) (λX=>.all 0) (λX=>[⟨false,23,1,.ints .u32 X⟩])
theorem Zk5:bj pG Zoe:=oT (.nil) Tryz.func100 Tryz.call100 [.row 23 1 (.ints .u32)] [] 2
def DP(c7 blocks:Int)(image:List Int):Tree (au×Bool):=
let T1:Tree ((au×Bool)):=.lf ({B1:={X:={a0:=0,a1:=0,a2:=0,a3:=0,a4:=0,a5:=0,a6:=0,a7:=0,a8:=0,a9:=0,kq:=0,kr:=0,a12:=0,ku:=0,kv:=0,ky:=0},Pc:=0,B4:={a0:=0,a1:=0,a2:=0,a3:=0,a4:=0,a5:=0,a6:=0,a7:=0}},Mem:=[],A3:={D1:=[]},A9:={D3:=false,C4:=0,D2:=false},A7:={ae:=0,C1:=0,Frame:=0,B7:=0,D6:=0,B6:=0,B2:=0,B8:=[]},C3:={Frame:=0,E0:=0,C5:=false,C0:=0,B5:=false,F1:=0},A2:={C7:=0,C2:=0},A1:=0,A4:=false,A6:=false},false);.br (decide (c7<1)) T1 (.br (decide (c7>32)) T1 (.br (decide (blocks<0)) T1 (.br (decide (blocks>64)) T1 (.br (decide ((image.length:Int)>wrap i64 (c7*32))) T1 (.lv (W7 0) λ(x0:bh)=>.an (Qje c7) (.lv (Tj c7) λ(x1:List Int)=>.lf ({B1:=x0,Mem:=dB (Min.min (image.length) (x1.length)) image++dC (Min.min (image.length) (x1.length)) x1,A3:={D1:=[]},A9:={D3:=false,C4:=0,D2:=false},A7:={ae:=wrap u32 blocks,C1:=0,Frame:=0,B7:=0,D6:=0,B6:=0,B2:=0,B8:=[]},C3:={Frame:=0,E0:=0,C5:=false,C0:=0,B5:=false,F1:=0},A2:={C7:=0,C2:=0},A1:=0,A4:=false,A6:=false},true)))))))
def k9 c7 blocks image:=(DP c7 blocks image).m
abbrev VJ c7 blocks image:=(DP c7 blocks image).p
def Zqc:bc:=mT 51 [] true [.one (.int .i64),.one (.int .i64),.one (.ints .u32)] [] (λa r=>DP (aq a 0) (aq a 1) (eh .u32 a 2)) (λX=>.dt [.agg (au.fe (X.1) (.all 0)),.bool (X.2)]) (λX=>[⟨false,23,1,.ints .u32 (X.1).Mem⟩])
theorem Zl3:bj pG Zqc:=oT (.cons Zcu (.cons Zk5 (.nil))) Tryz.func51 Tryz.call51 [.row 23 1 (.ints .u32)] [] 2
def O6(m:au):Tree Bool:=
.an (Qfi m) (.lv (AI m) λ(x0:Bool)=>.br (!x0) (.lf false) (.an (Qdf m) (.lv (nu m) λ(x1:au)=>.an (Qo5 x1.B1 x1.Mem) (.lv (wJ x1.B1 x1.Mem) λ(x2:bh×List Int×kJ)=>.br (x2.2.2.B9==1) (.lf (x2.2.2.D0==2)) (.lf false)))))
def O5 m:=(O6 m).m
abbrev Q8c m:=(O6 m).p
def Qqs:bc:=mT 203 [] true [.agg au.sig] [] (λa r=>O6 (au.of (aC a 0))) (λX=>.bool X) (λX=>[])
theorem Qpc:bj pG Qqs:=oT (.cons Qpk (.cons Qn (.cons Z1x (.nil)))) Tryz.func203 Tryz.call203 [] [] 2
