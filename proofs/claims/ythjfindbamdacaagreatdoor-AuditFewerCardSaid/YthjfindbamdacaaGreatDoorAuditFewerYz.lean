import Derived.Test.YthjfindbamdacaaGreatDoorAuditFewerFh
import Derived.Test.YthjfindbamdacaaGreatDoorAuditFewerYx
open List renaming take->dB,drop->dC,length->dK,set->dG,getD->aK
open Int renaming toNat->dF,tmod->dE
open UInt8 renaming toNat->eW
open Nat renaming blt->bJ,beq->bT
set_option maxRecDepth 100000
set_option linter.all false
namespace Go.Proofs.YthjfindbamdacaaGreatDoor
open Go Go.GD Go.IntKind
noncomputable section
def Jk(m:au):Tree Bool:=
.an (R8 m) (.lv (nj m) λ(x0:Bool)=>.br x0 (.br (!m.B0) (.an (YO m) (.lv (LC m) λ(x1:Bool)=>.br (!x1) (.lf (decide (m.A4<1152921504606846976))) (.lf false))) (.lf false)) (.lf false))
def AL m:=(Jk m).m
abbrev Qft m:=(Jk m).p
def Z66:bc:=mT 61 [] true [.agg au.sig] [] (λa r=>Jk (au.of (aC a 0))) (λX=>.bool X) (λX=>[])
theorem Qos:bn pG Z66:=oT (.cons Qk5 (.cons Qnx (.nil))) Tryz.func61 Tryz.call61 [] [] 2
def XC(m:au)(z:(Int)):Nat:=(5-z).toNat
def G4(m:au):Tree au:=
let E1:=({B4:=m.B4,Mem:=m.Mem,A7:=m.A7,B2:=m.B2,B1:=m.B1,C6:=m.C6,A6:=m.A6,A4:=m.A4,A9:=false,B0:=m.B0}:au);.br (bg u32 m.B4.B7.a0 (2:Int)==(0:Int)) (.lf (E1)) (.an (Qba E1) (.lv (L9 E1) λ(x0:Int)=>.lp inferInstance (XC m 0+1) ((rZ/\rZ/\rE (x0:Int)/\rE (0:Int)/\True)/\(rE m.B4.X.a0/\rE m.B4.X.a1/\rE m.B4.X.a2/\rE m.B4.X.a3/\rE m.B4.X.a4/\rE m.B4.X.a5/\rE m.B4.X.a6/\rE m.B4.X.a7/\rE m.B4.X.a8/\rE m.B4.X.a9/\rE m.B4.X.kz/\rE m.B4.X.kA/\rE m.B4.X.a12/\rE m.B4.X.kB/\rE m.B4.X.kC/\rE m.B4.X.kD/\rE m.B4.Pc/\rE m.B4.B7.a0/\rE m.B4.B7.a1/\rE m.B4.B7.a2/\rE m.B4.B7.a3/\rE m.B4.B7.a4/\rE m.B4.B7.a5/\rE m.B4.B7.a6/\rE m.B4.B7.a7/\((ao.Nil (ao.ints u32 m.Mem)\/rE (1:Nat))/\rE m.Mem)/\rE m.A7.D5/\rE m.B2.D7/\rE m.B2.C7/\rE m.B2.D6/\rE m.B1.ag/\rE m.B1.C4/\rE m.B1.Frame/\rE m.B1.C0/\rE m.B1.D8/\rE m.B1.B9/\rE m.B1.B5/\rE m.B1.C1/\rE m.C6.Frame/\rE m.C6.F1/\rE m.C6.C8/\rE m.C6.C2/\rE m.C6.B8/\rE m.C6.F4/\rE m.A6.C9/\rE m.A6.C5/\rE m.A4/\rE (false:Bool)/\rE m.B0/\True)/\(mE zM True True)/\True) 0 λ(v0:Int)=>.br (decide (v0<5)) (.cn (decide (0<=v0)) (.br (bg u32 x0 (eh u32 1 v0) !=0) (.lv (rC m.B4 (wrap i64 (16+v0)) 0) λ(x1:bj)=>.lf (Sum.inr {B4:=x1,Mem:=m.Mem,A7:=m.A7,B2:=m.B2,B1:=m.B1,C6:=m.C6,A6:=m.A6,A4:=m.A4,A9:=false,B0:=m.B0})) (.nx ((rZ/\rZ/\rE (x0:Int)/\rE ((wrap i64 (v0+1)):Int)/\True)/\(rE m.B4.X.a0/\rE m.B4.X.a1/\rE m.B4.X.a2/\rE m.B4.X.a3/\rE m.B4.X.a4/\rE m.B4.X.a5/\rE m.B4.X.a6/\rE m.B4.X.a7/\rE m.B4.X.a8/\rE m.B4.X.a9/\rE m.B4.X.kz/\rE m.B4.X.kA/\rE m.B4.X.a12/\rE m.B4.X.kB/\rE m.B4.X.kC/\rE m.B4.X.kD/\rE m.B4.Pc/\rE m.B4.B7.a0/\rE m.B4.B7.a1/\rE m.B4.B7.a2/\rE m.B4.B7.a3/\rE m.B4.B7.a4/\rE m.B4.B7.a5/\rE m.B4.B7.a6/\rE m.B4.B7.a7/\((ao.Nil (ao.ints u32 m.Mem)\/rE (1:Nat))/\rE m.Mem)/\rE m.A7.D5/\rE m.B2.D7/\rE m.B2.C7/\rE m.B2.D6/\rE m.B1.ag/\rE m.B1.C4/\rE m.B1.Frame/\rE m.B1.C0/\rE m.B1.D8/\rE m.B1.B9/\rE m.B1.B5/\rE m.B1.C1/\rE m.C6.Frame/\rE m.C6.F1/\rE m.C6.C8/\rE m.C6.C2/\rE m.C6.B8/\rE m.C6.F4/\rE m.A6.C9/\rE m.A6.C5/\rE m.A4/\rE (false:Bool)/\rE m.B0/\True)/\(mE zM True True)/\True) (Sum.inl (wrap i64 (v0+1)))))) (.lf (Sum.inr E1))))
def nC m:=(G4 m).m
abbrev Qdq m:=(G4 m).p
def Z0b:bw:={
 α:=(Int)
 F:=λst a=>([(1,.ptr 0 0 0),(2,.ptr 1 0 0),(3,(lk st 3)),(15,.int i64 a)],[⟨true,42,49,.gen [mB (cT st 1)]⟩,⟨true,42,49,.gen [mB (cT st 2)]⟩])
 a0:=λst=>(lk st 15).toInt
 jo:=λst=>[]++[(rX st 1 0),(rX st 2 1)]}
def Qu9:List (Nat×bw):=[(6,Z0b)]
def Z3u:bc:=bc.fz<|mW 62 [] false [.agg au.sig] [] (λa r=>Qdq (au.of (aC a 0))) (λa r=>nC (au.of (aC a 0))) (λX=>.agg (au.cells X)) (λX=>[])
theorem Qn5:bn pG Z3u:=M3<|wo drawn mX (.cons Qjt (.cons Se (.nil))) Tryz.func62 Tryz.call62 (λa r=>G4 (au.of (aC a 0))) [.sl (.ints .u32) false] Qu9 3 (λ_ _ _=>by kernel_rfl) (λ_ _=>rfl) (λ_ _ h=>h) (λh=>by cases h)
def Je(c:iW)(port:Int):Tree (iW×Int):=
.br (port==0) (.br (decide (c.D5=[])) (.lf (c,4294967295)) (.cn (decide ((0:Int)<=(0:Int)/\0<(c.D5.length:Int))) (.cn (decide ((0:Int)<=(1:Int)/\1<=(c.D5.length:Int)/\(c.D5.length:Int)<=(c.D5.length:Int))) (.lf ({D5:=dB (dF (c.D5.length:Int)-dF 1) (dC (dF 1) c.D5)},wrap u32 (↑(eW (c.D5.getD (dF 0) (0:UInt8))):Int)))))) (.br (port==1) (.lf (c,wrap u32 (c.D5.length:Int))) (.lf (c,0)))
def Yb c port:=(Je c port).m
theorem Z82(c:iW)(port:Int):(Je c port).p:=by
 unfold Tree.p Je
 repeat'(first|exact trivial|refine aa (λ_=>?_) (λ_=>?_)|refine ay ?_ ?_|refine cz ?_ ?_|refine ar (λ_ _=>?_)|refine ff ?_|refine fe ?_|refine And.intro ?_ ?_)
 all_goals(exact oR)
def Zhf:bc:=mS 122 [] true [.agg iW.sig,.one (.int .i64)] [] (λa r=>Je (iW.of (aC a 0)) (aq a 1)) (λX=>.du [.agg (iW.cells (X.1)),.int .u32 (X.2)]) (λX=>[])
theorem Ze5:bn pG Zhf:=oS (.nil) Tryz.func122 Tryz.call122 [] [] 2 (λ_ _ _=>by kernel_rfl) (λa r=>Z82 (iW.of (aC a 0)) (aq a 1)) (λ_ X=>by kernel_rfl)
def TC(t:iX):Tree Int:=
.br t.D6 (.lf 1) (.lf 0)
def Xx t:=(TC t).m
def Zqn:bc:=mS 123 [] true [.agg iX.sig] [] (λa r=>TC (iX.of (aC a 0))) (λX=>.int .u32 X) (λX=>[])
theorem Zkt:bn pG Zqn:=oS (.nil) Tryz.func123 Tryz.call123 [] [] 2
def TE(d0:fp)(port:Int):Tree Int:=
.br (port==4) (.lf d0.C4) (.br (port==5) (.lf d0.Frame) (.br (port==6) (.lf (wrap u32 d0.C0)) (.lf 0)))
def Oy d0 port:=(TE d0 port).m
def zD:bc:=mS 124 [] true [.agg fp.sig,.one (.int .i64)] [] (λa r=>TE (fp.of (aC a 0)) (aq a 1)) (λX=>.int .u32 X) (λX=>[])
theorem Zp7:bn pG zD:=oS (.nil) Tryz.func124 Tryz.call124 [] [] 2
def Oz(n:ia)(port:Int):Tree Int:=
.br (port==7) (.lf n.Frame) (.br (port==8) (.lf n.F4) (.br (port==9) (.br n.C8 (.br n.B8 (.lf (wrap u32 (wrap u32 ((0:Int)+(1:Int))+2))) (.lf (wrap u32 ((0:Int)+(1:Int))))) (.br n.B8 (.lf (wrap u32 ((0:Int)+(2:Int)))) (.lf 0))) (.lf 0)))
def Lx n port:=(Oz n port).m
def qW:bc:=mS 125 [] true [.agg ia.sig,.one (.int .i64)] [] (λa r=>Oz (ia.of (aC a 0)) (aq a 1)) (λX=>.int .u32 X) (λX=>[])
theorem yD:bn pG qW:=oS (.nil) Tryz.func125 Tryz.call125 [] [] 2
def Ly(b:gv)(port:Int):Tree Int:=
.br (port==10) (.lf b.C9) (.br (port==11) (.an (Qdp b) (.lv (Uf b) λ(x0:Int)=>.lf (wrap u32 x0))) (.lf 0))
def Yl b port:=(Ly b port).m
abbrev Qrv b port:=(Ly b port).p
def Zfh:bc:=mT 126 [] true [.agg gv.sig,.one (.int .i64)] [] (λa r=>Ly (gv.of (aC a 0)) (aq a 1)) (λX=>.int .u32 X) (λX=>[])
theorem Zaz:bn pG Zfh:=oT (.cons Qmz (.nil)) Tryz.func126 Tryz.call126 [] [] 2
def Lw(m:au)(port clock:Int):Tree (au×Int):=
let T1:Tree ((au×Int)):=.lv (Yb m.A7 port) λ(x0:iW×Int)=>.lf ({B4:=m.B4,Mem:=m.Mem,A7:=x0.1,B2:=m.B2,B1:=m.B1,C6:=m.C6,A6:=m.A6,A4:=m.A4,A9:=m.A9,B0:=m.B0},x0.2);.br (port==0) T1 (.br (port==1) T1 (.br (port==2) (.lf (m,clock)) (.br (port==3) (.lv (Xx m.B2) λ(x2:Int)=>.lf (m,x2)) (.br (port==4) (.lv (Oy m.B1 port) λ(x3:Int)=>.lf (m,x3)) (.br (port==5) (.lv (Oy m.B1 port) λ(x4:Int)=>.lf (m,x4)) (.br (port==6) (.lv (Oy m.B1 port) λ(x5:Int)=>.lf (m,x5)) (.br (port==7) (.lv (Lx m.C6 port) λ(x6:Int)=>.lf (m,x6)) (.br (port==8) (.lv (Lx m.C6 port) λ(x7:Int)=>.lf (m,x7)) (.br (port==9) (.lv (Lx m.C6 port) λ(x8:Int)=>.lf (m,x8)) (let T2:Tree ((au×Int)):=.an (Qrv m.A6 port) (.lv (Yl m.A6 port) λ(x9:Int)=>.lf (m,x9));.br (port==10) T2 (.br (port==11) T2 (.lf (m,0)))))))))))))
def uK m port clock:=(Lw m port clock).m
abbrev Qfx m port clock:=(Lw m port clock).p
def Qu4:bc:=bc.fz<|mW 64 [] false [.agg au.sig,.one (.int .i64),.one (.int .u32)] [] (λa r=>Qfx (au.of (aC a 0)) (aq a 1) (aq a 2)) (λa r=>uK (au.of (aC a 0)) (aq a 1) (aq a 2)) (λX=>.du [.agg (au.cells (X.1)),.int .u32 (X.2)]) (λX=>[])
theorem Qse:bn pG Qu4:=M3<|wo drawn mX (.cons Ze5 (.cons Zkt (.cons Zp7 (.cons yD (.cons Zaz (.nil)))))) Tryz.func64 Tryz.call64 (λa r=>Lw (au.of (aC a 0)) (aq a 1) (aq a 2)) [.sl (.ints .u32) false] [] 2 (λ_ _ _=>by kernel_rfl) (λ_ _=>rfl) (λ_ _ h=>h) (λh=>by cases h)
def Tz(t:iX)(deadline:Int):Tree iX:=
.lf ({D7:=deadline !=0,C7:=deadline,D6:=false})
def Ou t deadline:=(Tz t deadline).m
def Zjr:bc:=mS 127 [] true [.agg iX.sig,.one (.int .u32)] [] (λa r=>Tz (iX.of (aC a 0)) (aq a 1)) (λX=>.agg (iX.cells X)) (λX=>[])
theorem Zhv:bn pG Zjr:=oS (.nil) Tryz.func127 Tryz.call127 [] [] 2
def Ok(m:List Int)(frame:Int):Tree Bool:=
.lv (mb m) λ(x0:Int)=>.lf (decide (wrap u64 frame<wrap u64 x0))
def Q9 m frame:=(Ok m frame).m
def Zby:bc:=mS 134 [] true [.one (.ints .u32),.one (.int .u32)] [] (λa r=>Ok (ei .u32 a 0) (aq a 1)) (λX=>.bool X) (λX=>[])
theorem Qrb:bn pG Zby:=oS (.cons Ik (.nil)) Tryz.func134 Tryz.call134 [] [] 2
def Og(m:List Int)(frame:Int):Tree Bool:=
.br (decide (frame>=0)) (.lv (mb m) λ(x0:Int)=>.lf (decide (frame<x0))) (.lf false)
def Ja m frame:=(Og m frame).m
def Z03:bc:=mS 60 [] true [.one (.ints .u32),.one (.int .i64)] [] (λa r=>Og (ei .u32 a 0) (aq a 1)) (λX=>.bool X) (λX=>[])
theorem Qky:bn pG Z03:=oS (.cons Ik (.nil)) Tryz.func60 Tryz.call60 [] [] 2
def Qn2(words:List Int)(z:(Int)×(List Int)):Prop:=0<=z.1/\z.1<=words.length/\(z.2.length:Int)=4*z.1
def Oh(words:List Int)(z:(Int)×(List Int)):Nat:=(words.length-z.1).toNat
def Fv(words:List Int):Tree (List UInt8):=
.cn (bJ 0 1&&bT 1 1&&List.all [D.int u8 0] D.plain&&decide ((0:Int)<=(0:Int)/\0<=wrap i64 (4*(words.length:Int))/\wrap i64 (4*(words.length:Int))<=9223372036854775807/\(↑1:Int)*wrap i64 (4*(words.length:Int))<=140737488355328)) (.lp inferInstance (Oh words (0,[])+1) ((True/\((ao.Nil (ao.ints u32 words)\/rE (1:Nat))/\rE (words:List Int))/\rE ((words.length:Int):Int)/\rE (0:Int)/\True)/\rE ([]:List Int)/\True) (0,[]) λ(v0:Int×List Int)=>.br (decide (v0.1<(words.length:Int))) (.cn (bT 1 1&&bJ 0 1&&decide (0<=v0.1/\v0.1<(words.length:Int))) (.cn (decide (1*(v0.2.length+4)<=140737488355328)) (let E1:=words.getD v0.1.toNat 0;.nx ((True/\((ao.Nil (ao.ints u32 words)\/rE (1:Nat))/\rE (words:List Int))/\rE ((words.length:Int):Int)/\rE ((wrap i64 (v0.1+1)):Int)/\True)/\rE ((v0.2++[wrap u8 (words.getD v0.1.toNat 0),wrap u8 (bh u32 (words.getD v0.1.toNat 0) 8),wrap u8 (bh u32 (words.getD v0.1.toNat 0) 16),wrap u8 (bh u32 (words.getD v0.1.toNat 0) 24)]):List Int)/\True) (Sum.inl (wrap i64 (v0.1+1),v0.2++[wrap u8 E1,wrap u8 (bh u32 E1 8),wrap u8 (bh u32 E1 16),wrap u8 (bh u32 E1 24)]))))) (.lf (Sum.inr (bytesOf v0.2))))
def Z5q words:=(Fv words).m
def VW(words:List Int):Prop:=
words.length<=1000000000000
theorem Z42(words:List Int)(hw:VW words):(Fv words).p:=by
 simp only[VW]at hw
 unfold Tree.p Fv
 repeat'(first|refine fy (inv:=Qn2 words) (μ:=Oh words) ?_ (Nat.lt_succ_self _) (λ_ _=>?_)|exact trivial|refine aa (λ_=>?_) (λ_=>?_)|refine ay ?_ ?_|refine cz ?_ ?_|refine ar (λ_ _=>?_)|refine ff ?_|refine fe ?_|refine And.intro ?_ ?_)
 all_goals((try simp only[Qn2,Oh]at*);exact oR)
def Z7r:bw:={
 α:=(Int)×(List Int)
 F:=λst a=>([(3,.all 0),(10,(lk st 10)),(11,(lk st 11)),(12,.int i64 a.1)],[⟨false,5,1,.ints u8 a.2⟩])
 a0:=λst=>((lk st 12).toInt,(o4 st.rows (rN st 3)))
 jo:=λst=>[]++[(rX st 3 0)]}
def Qzz:List (Nat×bw):=[(3,Z7r)]
def Zbe:bc:=mW 66 [] true [.one (.ints .u32)] [] (λa r=>VW (ei .u32 a 0)) (λa r=>Z5q (ei .u32 a 0)) (λX=>.str X) (λX=>[])
theorem Z6c:bn pG Zbe:=wo drawn mX (.nil) Tryz.func66 Tryz.call66 (λa r=>Fv (ei .u32 a 0)) [] Qzz 3 (hp:=λa r h=>Z42 (ei .u32 a 0) h)
def GV(m:List Int)(frame:Int):Tree ((List UInt8)×Bool):=
.lv (Ja m frame) λ(x0:Bool)=>.br (!x0) (.lf ([],false)) (.cn (bT 1 1&&bJ 0 1&&decide (0<=wrap i64 (frame*32)/\wrap i64 (frame*32)<=wrap i64 (wrap i64 (frame*32)+32)/\wrap i64 (wrap i64 (frame*32)+32)<=(m.length:Int))) (let E1:=dB (dF (wrap i64 (wrap i64 (frame*32)+32))-dF (wrap i64 (frame*32))) (dC (dF (wrap i64 (frame*32))) m);.an (VW E1) (.lv (Z5q E1) λ(x1:List UInt8)=>.lf (x1,true))))
def El m frame:=(GV m frame).m
abbrev Qcb m frame:=(GV m frame).p
def Ze4:bc:=mT 23 [] true [.one (.ints .u32),.one (.int .i64)] [] (λa r=>GV (ei .u32 a 0) (aq a 1)) (λX=>.du [.str (X.1),.bool (X.2)]) (λX=>[])
theorem Qjv:bn pG Ze4:=oT (.cons Qky (.cons Z6c (.nil))) Tryz.func23 Tryz.call23 [] [] 2
def Qrw(d0:fp)(dj:Int):Tree (dw×Bool):=
.br (d0.C0 !=1) (.lf ({C3:=0,At:=0,C4:=0,D2:=[]},false)) (.br (d0.D8==1) (.lf ({C3:=3,At:=dj,C4:=d0.B9,D2:=[]},true)) (.br (d0.D8==2) (.lf ({C3:=4,At:=dj,C4:=d0.B9,D2:=d0.C1},true)) (.lf ({C3:=0,At:=0,C4:=0,D2:=[]},false))))
def Yd d0 dj:=(Qrw d0 dj).m
def Z7p:bc:=mS 254 [] true [.agg fp.sig,.one (.int .u64)] [] (λa r=>Qrw (fp.of (aC a 0)) (aq a 1)) (λX=>.du [.agg (dw.cells (X.1)),.bool (X.2)]) (λX=>[])
theorem Z48:bn pG Z7p:=oS (.nil) Tryz.func254 Tryz.call254 [] [] 2
def Lo(d0:fp)(m:List Int)(cmd dj:Int):Tree (fp×(List dw)):=
.br (d0.C0 !=0) (.lf (d0,[])) (let T1:Tree ((fp×(List dw))):=.lf ({ag:=d0.ag,C4:=d0.C4,Frame:=d0.Frame,C0:=3,D8:=d0.D8,B9:=d0.B9,B5:=d0.B5,C1:=d0.C1},[]);.br (decide (d0.C4>=d0.ag)) T1 (.lv (Q9 m d0.Frame) λ(x0:Bool)=>.br (!x0) T1 (.br (cmd==2) (.an (Qcb m (wrap i64 d0.Frame)) (.lv (El m (wrap i64 d0.Frame)) λ(x1:List UInt8×Bool)=>let E2:=({ag:=d0.ag,C4:=d0.C4,Frame:=d0.Frame,C0:=1,D8:=cmd,B9:=d0.C4,B5:=d0.Frame,C1:=x1.1}:fp);.lv (Yd E2 dj) λ(x2:dw×Bool)=>.lf (E2,[x2.1]))) (let E3:=({ag:=d0.ag,C4:=d0.C4,Frame:=d0.Frame,C0:=1,D8:=cmd,B9:=d0.C4,B5:=d0.Frame,C1:=[]}:fp);.lv (Yd E3 dj) λ(x3:dw×Bool)=>.lf (E3,[x3.1])))))
def Qx9 d0 m cmd dj:=(Lo d0 m cmd dj).m
abbrev Qs4 d0 m cmd dj:=(Lo d0 m cmd dj).p
def Zi9:bc:=mT 192 [] true [.agg fp.sig,.one (.ints .u32),.one (.int .i64),.one (.int .u64)] [] (λa r=>Lo (fp.of (aC a 0)) (ei .u32 a 1) (aq a 2) (aq a 3)) (λX=>.du [.agg (fp.cells (X.1)),.sl 4 (.av .ba (X.2)) true]) (λX=>[])
theorem Zbm:bn pG Zi9:=oT (.cons Qrb (.cons Qjv (.cons Z48 (.nil)))) Tryz.func192 Tryz.call192 [.sl (.av .ba) true] [] 2
def Lp(d0:fp)(m:List Int)(port v dj:Int):Tree (fp×(List dw)):=
.br (port==4) (.lf ({ag:=d0.ag,C4:=v,Frame:=d0.Frame,C0:=d0.C0,D8:=d0.D8,B9:=d0.B9,B5:=d0.B5,C1:=d0.C1},[])) (.br (port==5) (.lf ({ag:=d0.ag,C4:=d0.C4,Frame:=v,C0:=d0.C0,D8:=d0.D8,B9:=d0.B9,B5:=d0.B5,C1:=d0.C1},[])) (.br (port==6) (let T1:Tree ((fp×(List dw))):=.an (Qs4 d0 m (wrap i64 v) dj) (.lv (Qx9 d0 m (wrap i64 v) dj) λ(x0:fp×List dw)=>.lf (x0.1,x0.2));.br (v==1) T1 (.br (v==2) T1 (.br (v==0) (.lv (Lq d0) λ(x2:Bool)=>.br x2 (.lf ({ag:=d0.ag,C4:=d0.C4,Frame:=d0.Frame,C0:=0,D8:=d0.D8,B9:=d0.B9,B5:=d0.B5,C1:=d0.C1},[])) (.lf (d0,[]))) (.lf (d0,[]))))) (.lf (d0,[]))))
def Yc d0 m port v dj:=(Lp d0 m port v dj).m
abbrev Qyr d0 m port v dj:=(Lp d0 m port v dj).p
def Zop:bc:=mT 128 [] true [.agg fp.sig,.one (.ints .u32),.one (.int .i64),.one (.int .u32),.one (.int .u64)] [] (λa r=>Lp (fp.of (aC a 0)) (ei .u32 a 1) (aq a 2) (aq a 3) (aq a 4)) (λX=>.du [.agg (fp.cells (X.1)),.sl 4 (.av .ba (X.2)) true]) (λX=>[])
theorem Zka:bn pG Zop:=oT (.cons Zbm (.cons Qot (.nil))) Tryz.func128 Tryz.call128 [.sl (.av .ba) true] [] 2
def Ol(m:List Int)(frame:Int):Tree Bool:=
.lv (mb m) λ(x0:Int)=>.lf (decide (wrap u64 frame<wrap u64 x0))
def GX m frame:=(Ol m frame).m
def Zil:bc:=mS 135 [] true [.one (.ints .u32),.one (.int .u32)] [] (λa r=>Ol (ei .u32 a 0) (aq a 1)) (λX=>.bool X) (λX=>[])
theorem Qlt:bn pG Zil:=oS (.cons Ik (.nil)) Tryz.func135 Tryz.call135 [] [] 2
def Lr(n:ia)(m:List Int)(dj:Int):Tree (List dw):=
.br (decide (n.F1<1)) (.lf ([])) (.br (decide (n.F1>128)) (.lf ([])) (.lv (GX m n.Frame) λ(x0:Bool)=>.br (!x0) (.lf ([])) (.an (Qcb m (wrap i64 n.Frame)) (.lv (El m (wrap i64 n.Frame)) λ(x1:List UInt8×Bool)=>.cn (decide ((0:Int)<=(0:Int)/\0<=n.F1/\n.F1<=(x1.1.length:Int))) (.lf ([{C3:=2,At:=dj,C4:=0,D2:=dB (dF n.F1-dF 0) (dC (dF 0) x1.1)}]))))))
def Zb4 n m dj:=(Lr n m dj).m
abbrev Qz9 n m dj:=(Lr n m dj).p
def Zqd:bc:=mT 193 [] true [.agg ia.sig,.one (.ints .u32),.one (.int .u64)] [] (λa r=>Lr (ia.of (aC a 0)) (ei .u32 a 1) (aq a 2)) (λX=>.sl 4 (.av .ba X) true) (λX=>[])
theorem Zjl:bn pG Zqd:=oT (.cons Qlt (.cons Qjv (.nil))) Tryz.func193 Tryz.call193 [.sl (.av .ba) true] [] 2
def Ls(n:ia)(m:List Int)(port v dj:Int):Tree (ia×(List dw)):=
.br (port==7) (.lf ({Frame:=v,F1:=n.F1,C8:=n.C8,C2:=n.C2,B8:=n.B8,F4:=n.F4},[])) (.br (port==8) (.lf ({Frame:=n.Frame,F1:=v,C8:=n.C8,C2:=n.C2,B8:=n.B8,F4:=n.F4},[])) (.br (port==9) (.br (v==1) (.an (Qz9 n m dj) (.lv (Zb4 n m dj) λ(x0:List dw)=>.lf (n,x0))) (.br (v==2) (.lv (GX m n.Frame) λ(x1:Bool)=>.br x1 (.br (!n.C8) (.br (!n.B8) (.lf ({Frame:=n.Frame,F1:=n.F1,C8:=true,C2:=n.Frame,B8:=n.B8,F4:=n.F4},[])) (.lf (n,[]))) (.lf (n,[]))) (.lf (n,[]))) (.br (v==0) (.lf ({Frame:=n.Frame,F1:=n.F1,C8:=n.C8,C2:=n.C2,B8:=false,F4:=0},[])) (.lf (n,[]))))) (.lf (n,[]))))
def Yf n m port v dj:=(Ls n m port v dj).m
abbrev Z3e n m port v dj:=(Ls n m port v dj).p
def vD:bc:=mT 129 [] true [.agg ia.sig,.one (.ints .u32),.one (.int .i64),.one (.int .u32),.one (.int .u64)] [] (λa r=>Ls (ia.of (aC a 0)) (ei .u32 a 1) (aq a 2) (aq a 3) (aq a 4)) (λX=>.du [.agg (ia.cells (X.1)),.sl 4 (.av .ba (X.2)) true]) (λX=>[])
theorem Zpi:bn pG vD:=oT (.cons Zjl (.cons Qlt (.nil))) Tryz.func129 Tryz.call129 [.sl (.av .ba) true] [] 2
def Xq(m:List Int)(frame:Int)(s:List UInt8)(z:(Int)×(List Int)):Nat:=(32-z.1).toNat
def GU(m:List Int)(frame:Int)(s:List UInt8):Tree ((List Int)×Bool):=
.an (mQ m) (.lv (jF m) λ(x0:List Int)=>.lv (Ja m frame) λ(x1:Bool)=>.br (!x1) (.lf (x0,false)) (.br ((s.length:Int) !=(128:Int)) (.lf (x0,false)) (.lp inferInstance (Xq m frame s (0,x0)+1) ((rE (s:List UInt8)/\True/\rE ((wrap i64 (frame*32)):Int)/\rE (0:Int)/\True)/\rE (x0:List Int)/\True) (0,x0) λ(v0:Int×List Int)=>.br (decide (v0.1<32)) (.cn (decide (0<=wrap i64 (4*v0.1)/\wrap i64 (4*v0.1)<=wrap i64 (wrap i64 (4*v0.1)+4)/\wrap i64 (wrap i64 (4*v0.1)+4)<=(s.length:Int))) (let E1:=dB (dF (wrap i64 (wrap i64 (4*v0.1)+4))-dF (wrap i64 (4*v0.1))) (dC (dF (wrap i64 (4*v0.1))) s);.cn (decide ((0:Int)<=(0:Int)/\0<(↑(dK E1):Int))) (.cn (decide ((0:Int)<=(1:Int)/\1<(↑(dK E1):Int))) (.cn (decide ((0:Int)<=(2:Int)/\2<(↑(dK E1):Int))) (.cn (decide ((0:Int)<=(3:Int)/\3<(↑(dK E1):Int))) (.cn (bT 1 1&&bJ 0 1&&decide (0<=wrap i64 (wrap i64 (frame*32)+v0.1)/\wrap i64 (wrap i64 (frame*32)+v0.1)<(v0.2.length:Int))) (.nx ((rE (s:List UInt8)/\True/\rE ((wrap i64 (frame*32)):Int)/\rE ((wrap i64 (v0.1+1)):Int)/\True)/\rE ((dG v0.2 (dF (wrap i64 (wrap i64 (frame*32)+v0.1))) (ir u32 (ir u32 (ir u32 (wrap u32 (↑(eW (aK (dB (dF (wrap i64 (wrap i64 (4*v0.1)+4))-dF (wrap i64 (4*v0.1))) (dC (dF (wrap i64 (4*v0.1))) s)) (dF 0) (0:UInt8))):Int)) (eh u32 (wrap u32 (↑(eW (aK (dB (dF (wrap i64 (wrap i64 (4*v0.1)+4))-dF (wrap i64 (4*v0.1))) (dC (dF (wrap i64 (4*v0.1))) s)) (dF 1) (0:UInt8))):Int)) 8)) (eh u32 (wrap u32 (↑(eW (aK (dB (dF (wrap i64 (wrap i64 (4*v0.1)+4))-dF (wrap i64 (4*v0.1))) (dC (dF (wrap i64 (4*v0.1))) s)) (dF 2) (0:UInt8))):Int)) 16)) (eh u32 (wrap u32 (↑(eW (aK (dB (dF (wrap i64 (wrap i64 (4*v0.1)+4))-dF (wrap i64 (4*v0.1))) (dC (dF (wrap i64 (4*v0.1))) s)) (dF 3) (0:UInt8))):Int)) 24))):List Int)/\True) (Sum.inl (wrap i64 (v0.1+1),dG v0.2 (dF (wrap i64 (wrap i64 (frame*32)+v0.1))) (ir u32 (ir u32 (ir u32 (wrap u32 (↑(eW (aK E1 (dF 0) (0:UInt8))):Int)) (eh u32 (wrap u32 (↑(eW (aK E1 (dF 1) (0:UInt8))):Int)) 8)) (eh u32 (wrap u32 (↑(eW (aK E1 (dF 2) (0:UInt8))):Int)) 16)) (eh u32 (wrap u32 (↑(eW (aK E1 (dF 3) (0:UInt8))):Int)) 24))))))))))) (.lf (Sum.inr (v0.2,true))))))
def Em m frame s:=(GU m frame s).m
abbrev Q8k m frame s:=(GU m frame s).p
def Qw7:bw:={
 α:=(Int)×(List Int)
 F:=λst a=>([(2,(lk st 2)),(8,.all 0),(9,(lk st 9)),(26,.int i64 a.1)],[⟨false,23,1,.ints u32 a.2⟩])
 a0:=λst=>((lk st 26).toInt,(o4 st.rows (rN st 8)))
 jo:=λst=>[]++[(rX st 8 0)]}
def Qtg:List (Nat×bw):=[(6,Qw7)]
def Qzv:bc:=mT 21 [] true [.one (.ints .u32),.one (.int .i64),.one (.str)] [] (λa r=>GU (ei .u32 a 0) (aq a 1) (iq a 2)) (λX=>.du [.all 0,.bool (X.2)]) (λX=>[⟨false,23,1,.ints .u32 (X.1)⟩])
theorem Qdl:bn pG Qzv:=oT (.cons EH (.cons Qky (.nil))) Tryz.func21 Tryz.call21 [.row 23 1 (.ints .u32)] Qtg 3
def strings_Repeat(s:List UInt8)(count:Int):(List UInt8):=
Lib.repeatL s count.toNat
def Qc3(s:List UInt8)(count:Int):Prop:=
0<=count/\count<=9223372036854775807/\s.length*count.toNat<=140737488355328
def Qh0(s:List UInt8)(count:Int):List D:=[.str s,.int .i64 count]
def Qhw(s:List UInt8)(count:Int):List Row:=[]
def Qcc(X:List UInt8):D:=.str X
def Qcp(X:List UInt8):List Row:=[]
def Qjj:List PT:=[.one (.str),.one (.int .i64)]
def Qhv:List RT:=[]
def Qu(args:List D)(rows:List Row):(List UInt8):=strings_Repeat (iq args 0) (aq args 1)
def Qw3(args:List D)(rows:List Row):Prop:=Qc3 (iq args 0) (aq args 1)
def Z0f:bc:=mW 194 [] true Qjj Qhv Qw3 Qu Qcc Qcp
theorem Qqv(s:List UInt8)(count:Int)(hw:Qc3 s count):kj pG 194 (Qh0 s count) (Qhw s count) (Qcc (strings_Repeat s count)) (Qcp (strings_Repeat s count)):=by
 exact zf Tryz.strings_Repeat hw.1 hw.2.1 hw.2.2
set_option maxRecDepth 100000 in
theorem Qst(args:List D)(rows:List Row):mr Qjj args 0=Qh0 (iq args 0) (aq args 1):=by kernel_rfl
set_option maxRecDepth 100000 in
theorem Qr8(args:List D)(rows:List Row):lG Qhv rows 0=Qhw (iq args 0) (aq args 1):=by kernel_rfl
set_option maxRecDepth 100000 in
theorem Qwb(X:List UInt8):(wm (Qcc X)&&jK (Qcp X))=true:=by kernel_rfl
theorem Qwv:bn pG Z0f:=M4 Tryz.call194 (λargs rows hp=>by rw[Qst args rows,Qr8 args rows];exact Qqv (iq args 0) (aq args 1) hp) (λ_ X=>Qwb X)
def Ef(b:gv)(m:List Int)(port v:Int):Tree (gv×(List Int)):=
let T1:Tree ((gv×(List Int))):=.an (mQ m) (.lv (jF m) λ(x0:List Int)=>.lf (b,x0));.br (decide (v>=32)) T1 (.cn (decide (0<=v)) (.br (port==10) (.lv (mb m) λ(x1:Int)=>.br (decide (wrap i64 v<x1)) (.br (bg u32 b.C5 (eh u32 1 v)==0) (.an (Qc3 [(0:UInt8)] 128) (.lv (strings_Repeat [(0:UInt8)] 128) λ(x2:List UInt8)=>.an (Q8k m (wrap i64 v) x2) (.lv (Em m (wrap i64 v) x2) λ(x3:List Int×Bool)=>.lf ({C9:=b.C9,C5:=ir u32 b.C5 (eh u32 1 v)},x3.1)))) T1) T1) (.br (port==11) (.an (mQ m) (.lv (jF m) λ(x6:List Int)=>.lf ({C9:=b.C9,C5:=nY u32 b.C5 (eh u32 1 v)},x6))) T1)))
def Ho b m port v:=(Ef b m port v).m
abbrev Qo1 b m port v:=(Ef b m port v).p
def Zch:bc:=mT 130 [] true [.agg gv.sig,.one (.ints .u32),.one (.int .i64),.one (.int .u32)] [] (λa r=>Ef (gv.of (aC a 0)) (ei .u32 a 1) (aq a 2) (aq a 3)) (λX=>.du [.agg (gv.cells (X.1)),.all 0]) (λX=>[⟨false,23,1,.ints .u32 (X.2)⟩])
theorem Z6t:bn pG Zch:=oT (.cons EH (.cons Ik (.cons Qdl (.cons Qwv (.nil))))) Tryz.func130 Tryz.call130 [.row 23 1 (.ints .u32)] [] 2
def Lv(m:au)(port v dj:Int):Tree (au×(List dw)):=
.br (port==0) (.lf (m,[{C3:=1,At:=dj,C4:=0,D2:=[(λ(n:Int)=>UInt8.ofNat n.toNat) (wrap u8 v)]}])) (.br (port==3) (.lv (Ou m.B2 v) λ(x0:iX)=>.lf ({B4:=m.B4,Mem:=m.Mem,A7:=m.A7,B2:=x0,B1:=m.B1,C6:=m.C6,A6:=m.A6,A4:=m.A4,A9:=m.A9,B0:=m.B0},[])) (let T1:Tree ((au×(List dw))):=.an (Qyr m.B1 m.Mem port v dj) (.lv (Yc m.B1 m.Mem port v dj) λ(x1:fp×List dw)=>.lf ({B4:=m.B4,Mem:=m.Mem,A7:=m.A7,B2:=m.B2,B1:=x1.1,C6:=m.C6,A6:=m.A6,A4:=m.A4,A9:=m.A9,B0:=m.B0},x1.2));.br (port==4) T1 (.br (port==5) T1 (.br (port==6) T1 (let T2:Tree ((au×(List dw))):=.an (Z3e m.C6 m.Mem port v dj) (.lv (Yf m.C6 m.Mem port v dj) λ(x4:ia×List dw)=>.lf ({B4:=m.B4,Mem:=m.Mem,A7:=m.A7,B2:=m.B2,B1:=m.B1,C6:=x4.1,A6:=m.A6,A4:=m.A4,A9:=m.A9,B0:=m.B0},x4.2));.br (port==7) T2 (.br (port==8) T2 (.br (port==9) T2 (let T3:Tree ((au×(List dw))):=.an (Qo1 m.A6 m.Mem port v) (.lv (Ho m.A6 m.Mem port v) λ(x7:gv×List Int)=>.lf ({B4:=m.B4,Mem:=x7.2,A7:=m.A7,B2:=m.B2,B1:=m.B1,C6:=m.C6,A6:=x7.1,A4:=m.A4,A9:=m.A9,B0:=m.B0},[]));.br (port==10) T3 (.br (port==11) T3 (.lf (m,[])))))))))))
def FG m port v dj:=(Lv m port v dj).m
abbrev Qeh m port v dj:=(Lv m port v dj).p
def Qte:bc:=bc.fz<|mW 65 [] false [.agg au.sig,.one (.int .i64),.one (.int .u32),.one (.int .u64)] [] (λa r=>Qeh (au.of (aC a 0)) (aq a 1) (aq a 2) (aq a 3)) (λa r=>FG (au.of (aC a 0)) (aq a 1) (aq a 2) (aq a 3)) (λX=>.du [.agg (au.cells (X.1)),.sl 4 (.av .ba (X.2)) true]) (λX=>[])
theorem Qr:bn pG Qte:=M3<|wo drawn mX (.cons Zhv (.cons Zka (.cons Zpi (.cons Z6t (.nil))))) Tryz.func65 Tryz.call65 (λa r=>Lv (au.of (aC a 0)) (aq a 1) (aq a 2) (aq a 3)) [.sl (.ints .u32) false,.sl (.av .ba) true] [] 2 (λ_ _ _=>by kernel_rfl) (λ_ _=>rfl) (λ_ _ h=>h) (λh=>by cases h)
def G6(m:au)(clock:Int):Tree (au×(List dw)):=
.an (mQ m.Mem) (.lv (jF m.Mem) λ(x0:List Int)=>let E1:=({B4:=m.B4,Mem:=x0,A7:=m.A7,B2:=m.B2,B1:=m.B1,C6:=m.C6,A6:=m.A6,A4:=m.A4,A9:=m.A9,B0:=m.B0}:au);.an (Qft E1) (.lv (AL E1) λ(x1:Bool)=>.br (!x1) (.lf (E1,[])) (.an (Qdq E1) (.lv (nC E1) λ(x2:au)=>.an (Qo0 x2.B4 x2.Mem) (.lv (wR x2.B4 x2.Mem) λ(x3:bj×List Int×kN)=>let E2:=({B4:=x3.1,Mem:=x3.2.1,A7:=x2.A7,B2:=x2.B2,B1:=x2.B1,C6:=x2.C6,A6:=x2.A6,A4:=x2.A4,A9:=x2.A9,B0:=x2.B0}:au);.br (x3.2.2.C3==1) (.an (Qfx E2 x3.2.2.D4 clock) (.lv (uK E2 x3.2.2.D4 clock) λ(x4:au×Int)=>.br (x3.2.2.F3 !=0) (.cn (bJ 0 1&&decide (0<=x3.2.2.F3/\x3.2.2.F3<(↑16:Int))) (.lf ({B4:={X:=iV.of 0 (dG (iV.l x4.1.B4.X) x3.2.2.F3.toNat x4.2),Pc:=x4.1.B4.Pc,B7:=x4.1.B4.B7},Mem:=x4.1.Mem,A7:=x4.1.A7,B2:=x4.1.B2,B1:=x4.1.B1,C6:=x4.1.C6,A6:=x4.1.A6,A4:=wrap u64 (x4.1.A4+1),A9:=x4.1.A9,B0:=x4.1.B0},[]))) (.lf ({B4:=x4.1.B4,Mem:=x4.1.Mem,A7:=x4.1.A7,B2:=x4.1.B2,B1:=x4.1.B1,C6:=x4.1.C6,A6:=x4.1.A6,A4:=wrap u64 (x4.1.A4+1),A9:=x4.1.A9,B0:=x4.1.B0},[])))) (.br (x3.2.2.C3==2) (.an (Qeh E2 x3.2.2.D4 x3.2.2.Value m.A4) (.lv (FG E2 x3.2.2.D4 x3.2.2.Value m.A4) λ(x5:au×List dw)=>.lf ({B4:=x5.1.B4,Mem:=x5.1.Mem,A7:=x5.1.A7,B2:=x5.1.B2,B1:=x5.1.B1,C6:=x5.1.C6,A6:=x5.1.A6,A4:=wrap u64 (x5.1.A4+1),A9:=x5.1.A9,B0:=x5.1.B0},x5.2))) (.br (x3.2.2.C3==3) (.lf ({B4:=x3.1,Mem:=x3.2.1,A7:=x2.A7,B2:=x2.B2,B1:=x2.B1,C6:=x2.C6,A6:=x2.A6,A4:=wrap u64 (x2.A4+1),A9:=true,B0:=x2.B0},[])) (.br (x3.2.2.C3==4) (.lf ({B4:=x3.1,Mem:=x3.2.1,A7:=x2.A7,B2:=x2.B2,B1:=x2.B1,C6:=x2.C6,A6:=x2.A6,A4:=wrap u64 (x2.A4+1),A9:=x2.A9,B0:=true},[])) (.lf ({B4:=x3.1,Mem:=x3.2.1,A7:=x2.A7,B2:=x2.B2,B1:=x2.B1,C6:=x2.C6,A6:=x2.A6,A4:=wrap u64 (x2.A4+1),A9:=x2.A9,B0:=x2.B0},[]))))))))))
def AT m clock:=(G6 m clock).m
abbrev O9 m clock:=(G6 m clock).p
def Z7m:bc:=bc.fz<|mW 22 [] false [.agg au.sig,.one (.int .u32)] [] (λa r=>O9 (au.of (aC a 0)) (aq a 1)) (λa r=>AT (au.of (aC a 0)) (aq a 1)) (λX=>.du [.agg (au.cells (X.1)),.sl 4 (.av .ba (X.2)) false]) (λX=>[])
theorem Z5i:bn pG Z7m:=M3<|wo drawn mX (.cons EH (.cons Qos (.cons Qn5 (.cons Z3f (.cons Qse (.cons Qr (.nil))))))) Tryz.func22 Tryz.call22 (λa r=>G6 (au.of (aC a 0)) (aq a 1)) [.sl (.ints .u32) false,.sl (.av .ba) false] [] 2 (λ_ _ _=>by kernel_rfl) (λ_ _=>rfl) (λ_ _ h=>h) (λh=>by cases h)
end
noncomputable section
def Z5u(op:Int):Tree Int:=
let T1:Tree (Int):=.br (op==49) (.lf 3) (let T2:Tree (Int):=.br (op==24) (.lf 6) (.br (op==48) (.lf 7) (.br (op==58) (.lf 8) (.br (op==59) (.lf 8) (.br (op==60) (.lf 9) (.br (op==61) (.lf 9) (.br (op==56) (.lf 1) (.br (op==57) (.lf 1) (.br (decide (op>=62)) (.br (decide (op<=64)) (.lf 1) (.lf 0)) (.lf 0)))))))));.br (decide (op>=17)) (.br (decide (op<=19)) (.lf 4) (.br (decide (op>=20)) (.br (decide (op<=22)) (.lf 5) T2) T2)) (.br (decide (op>=20)) (.br (decide (op<=22)) (.lf 5) T2) T2));let T3:Tree (Int):=.br (op==16) (.lf 3) (.br (op==23) (.lf 3) (.br (decide (op>=32)) (.br (decide (op<=36)) (.lf 3) (.br (decide (op>=40)) (.br (decide (op<=45)) (.lf 3) T1) T1)) (.br (decide (op>=40)) (.br (decide (op<=45)) (.lf 3) T1) T1)));.br (decide (op>=1)) (.br (decide (op<=13)) (.lf 2) T3) T3
def o8 op:=(Z5u op).m
def Zjx:bc:=mS 154 [] true [.one (.int .i64)] [] (λa r=>Z5u (aq a 0)) (λX=>.int .i64 X) (λX=>[])
theorem Si:bn pG Zjx:=oS (.nil) Tryz.func154 Tryz.call154 [] [] 2
def TN(r:Int):Tree Bool:=
.br (decide (r>=0)) (.lf (decide (r<=15))) (.lf false)
def LF r:=(TN r).m
def Z5:bc:=mS 236 [] true [.one (.int .i64)] [] (λa r=>TN (aq a 0)) (λX=>.bool X) (λX=>[])
theorem Z1:bn pG Z5:=oS (.nil) Tryz.func236 Tryz.call236 [] [] 2
def XK(f:Int):Tree (Int×Int):=
.br (f==3) (.lf ((-32768),32767)) (.br (f==7) (.lf ((-32768),32767)) (.br (f==4) (.lf (0,65535)) (.br (f==6) (.lf (0,65535)) (.br (f==5) (.lf (0,31)) (.br (f==8) (.lf (0,7)) (.br (f==9) (.lf (0,11)) (.lf (0,0))))))))
def XJ f:=(XK f).m
def Zam:bc:=mS 155 [] true [.one (.int .i64)] [] (λa r=>XK (aq a 0)) (λX=>.du [.int .i64 (X.1),.int .i64 (X.2)]) (λX=>[])
theorem Qsb:bn pG Zam:=oS (.nil) Tryz.func155 Tryz.call155 [] [] 2
def OE(i:gu):Tree Bool:=
.lv (o8 i.Op) λ(x0:Int)=>.br (x0==0) (.lf false) (.lv (LF i.A) λ(x1:Bool)=>.br (!x1) (.lf false) (.lv (LF i.B) λ(x2:Bool)=>.br (!x2) (.lf false) (.lv (LF i.C) λ(x3:Bool)=>.br (!x3) (.lf false) (.lv (XJ x0) λ(x4:Int×Int)=>.br (decide (wrap i64 i.bq<x4.1)) (.lf false) (.br (decide (wrap i64 i.bq>x4.2)) (.lf false) (let T1:Tree (Bool):=.br (x0==1) (.br (i.A !=0) (.lf false) (.br (i.B==0) (.lf true) (.br (decide (x0>=2)) (.lf (decide (x0<=5))) (.lf false)))) (.br (i.B==0) (.lf true) (.br (decide (x0>=2)) (.lf (decide (x0<=5))) (.lf false)));.br (x0 !=2) (.br (i.C !=0) (.lf false) T1) T1))))))
def Eh i:=(OE i).m
def Zg6:bc:=mS 153 [] true [.agg gu.sig] [] (λa r=>OE (gu.of (aC a 0))) (λX=>.bool X) (λX=>[])
theorem Qu2:bn pG Zg6:=oS (.cons Si (.cons Z1 (.cons Qsb (.nil)))) Tryz.func153 Tryz.call153 [] [] 2
def Th(i:gu):Tree (Int×Bool):=
.lv (Eh i) λ(x0:Bool)=>.br (!x0) (.lf (0,false)) (.lf (ir u32 (ir u32 (ir u32 (ir u32 (eh u32 (wrap u32 i.Op) 24) (eh u32 (wrap u32 i.A) 20)) (eh u32 (wrap u32 i.B) 16)) (bg u32 (wrap u32 i.bq) 65535)) (wrap u32 i.C),true))
def o7 i:=(Th i).m
def Zds:bc:=mS 96 [] true [.agg gu.sig] [] (λa r=>Th (gu.of (aC a 0))) (λX=>.du [.int .u32 (X.1),.bool (X.2)]) (λX=>[])
theorem Qjz:bn pG Zds:=oS (.cons Qu2 (.nil)) Tryz.func96 Tryz.call96 [] [] 2
def Z8k:Tree (List Int):=
.lf ([1,2,3,4,5,6,7,8,9,10,11,12,13,16,16,17,18,19,20,21,22,23,24,24,32,32,33,34,35,35,36,40,41,42,43,44,45,48,49,56,57,58,59,60,60,61,61,62,63,64])
def Zbr:(List Int):=(Z8k).m
def Zp9:bc:=mS 156 [] true [] [] (λa r=>Z8k) (λX=>.sl 1 (.ints .i64 X) true) (λX=>[])
theorem Zkw:bn pG Zp9:=oS (.nil) Tryz.func156 Tryz.call156 [.sl (.ints .i64) true] [] 2
def Z46(DN:Int):Tree (Int×Int):=
let E1:=wrap u64 (nu u64 (wrap u64 (DN+11400714819323198485)) (bh u64 (wrap u64 (DN+11400714819323198485)) 30)*13787848793156543929);let E2:=wrap u64 (nu u64 E1 (bh u64 E1 27)*10723151780598845931);.lf (nu u64 E2 (bh u64 E2 31),wrap u64 (DN+11400714819323198485))
def Zfr DN:=(Z46 DN).m
def Zlg:bc:=mS 116 [] true [.one (.int .u64)] [] (λa r=>Z46 (aq a 0)) (λX=>.du [.int .u64 (X.1),.int .u64 (X.2)]) (λX=>[])
theorem Zgw:bn pG Zlg:=oS (.nil) Tryz.func116 Tryz.call116 [] [] 2
def Z8u(n k:Int):Tree Int:=
.lv (Zfr (nu u64 (wrap u64 n) (wrap u64 (wrap u64 k*11400714819323198485)))) λ(x0:Int×Int)=>.lf (wrap i64 (bh u64 x0.1 1))
def AW n k:=(Z8u n k).m
def Zow:bc:=mS 58 [] true [.one (.int .i64),.one (.int .i64)] [] (λa r=>Z8u (aq a 0) (aq a 1)) (λX=>.int .i64 X) (λX=>[])
theorem VX:bn pG Zow:=oS (.cons Zgw (.nil)) Tryz.func58 Tryz.call58 [] [] 2
def Qo(n k:Int):Tree Int:=
.cn (decide (k≠0)) (.br (decide (dE n k<0)) (.lf (wrap i64 (dE n k+k))) (.lf (dE n k)))
def tS n k:=(Qo n k).m
abbrev EG n k:=(Qo n k).p
def Zfl:bc:=mT 15 [] true [.one (.int .i64),.one (.int .i64)] [] (λa r=>Qo (aq a 0) (aq a 1)) (λX=>.int .i64 X) (λX=>[])
theorem Sj:bn pG Zfl:=oT (.nil) Tryz.func15 Tryz.call15 [] [] 2
def VP(n:Int):Tree gu:=
.lv Zbr λ(x0:List Int)=>.lv (AW n 1) λ(x1:Int)=>.an (EG x1 (x0.length:Int)) (.lv (tS x1 (x0.length:Int)) λ(x2:Int)=>.cn (bT 1 1&&bJ 0 1&&decide (0<=x2/\x2<(x0.length:Int))) (.an (EG (bh i64 x1 8) 6) (.lv (tS (bh i64 x1 8) 6) λ(x3:Int)=>.an (EG (bh i64 x1 12) 6) (.lv (tS (bh i64 x1 12) 6) λ(x4:Int)=>.an (EG (bh i64 x1 16) 6) (.lv (tS (bh i64 x1 16) 6) λ(x5:Int)=>.an (EG (bh i64 x1 20) 24) (.lv (tS (bh i64 x1 20) 24) λ(x6:Int)=>.br (decide (x0.getD x2.toNat (0:Int)<=(13:Int))) (.lf ({Op:=x0.getD x2.toNat 0,A:=x3,B:=x4,C:=x5,bq:=0})) (let E4:=({Op:=x0.getD x2.toNat 0,A:=x3,B:=x4,C:=0,bq:=wrap i32 (wrap i64 (wrap i64 (8*x6)-32))}:gu);let T1:Tree (gu):=.br (x0.getD x2.toNat (0:Int)==(49:Int)) (.lf (E4)) (.br (x0.getD x2.toNat (0:Int)==(24:Int)) (.lf ({Op:=x0.getD x2.toNat 0,A:=x3,B:=0,C:=0,bq:=wrap i32 (wrap i64 (x6*bg i64 (bh i64 x1 40) 1))})) (let T2:Tree (gu):=let E6:=({Op:=x0.getD x2.toNat 0,A:=x3,B:=0,C:=0,bq:=wrap i32 (dE x6 8)}:gu);.br (x0.getD x2.toNat (0:Int)==(58:Int)) (.lf (E6)) (.br (x0.getD x2.toNat (0:Int)==(59:Int)) (.lf (E6)) (let E5:=({Op:=x0.getD x2.toNat 0,A:=x3,B:=0,C:=0,bq:=wrap i32 (dE x6 12)}:gu);.br (x0.getD x2.toNat (0:Int)==(60:Int)) (.lf (E5)) (.br (x0.getD x2.toNat (0:Int)==(61:Int)) (.lf (E5)) (.lf ({Op:=x0.getD x2.toNat 0,A:=0,B:=0,C:=0,bq:=0})))));.br (decide (x0.getD x2.toNat (0:Int)>=(17:Int))) (.br (decide (x0.getD x2.toNat (0:Int)<=(22:Int))) (.lf ({Op:=x0.getD x2.toNat 0,A:=x3,B:=x4,C:=0,bq:=wrap i32 x6})) T2) T2));let T3:Tree (gu):=.br (x0.getD x2.toNat (0:Int)==(16:Int)) (.lf (E4)) (.br (x0.getD x2.toNat (0:Int)==(23:Int)) (.lf (E4)) (.br (decide (x0.getD x2.toNat (0:Int)>=(32:Int))) (.br (decide (x0.getD x2.toNat (0:Int)<=(36:Int))) (.lf (E4)) T1) T1));.br (decide (x0.getD x2.toNat (0:Int)>=(40:Int))) (.br (decide (x0.getD x2.toNat (0:Int)<=(48:Int))) (.br (x0.getD x2.toNat (0:Int)==(48:Int)) (.lf ({Op:=x0.getD x2.toNat 0,A:=x3,B:=0,C:=0,bq:=wrap i32 (wrap i64 (x6-12))})) (.lf ({Op:=x0.getD x2.toNat 0,A:=x3,B:=x4,C:=0,bq:=wrap i32 (wrap i64 (x6-12))}))) T3) T3)))))))
def Zhj n:=(VP n).m
abbrev Qgd n:=(VP n).p
def Zkl:bc:=mT 98 [] true [.one (.int .i64)] [] (λa r=>VP (aq a 0)) (λX=>.agg (gu.cells X)) (λX=>[])
theorem Zhz:bn pG Zkl:=oT (.cons Zkw (.cons VX (.cons Sj (.nil)))) Tryz.func98 Tryz.call98 [] [] 2
def Qrk(l:List Int)(z:(Int)×(List Int)):Prop:=0<=z.1/\z.1<=l.length/\(z.2.length:Int)=z.1
def Tj(l:List Int)(z:(Int)×(List Int)):Nat:=(l.length-z.1).toNat
def NV(l:List Int):Tree (List Int):=
.lp inferInstance (Tj l (0,[])+1) ((((ao.Nil (ao.ints i64 l)\/rE (1:Nat))/\rE (l:List Int))/\True/\rE (0:Int)/\True)/\rE ([]:List Int)/\True) (0,[]) λ(v0:Int×List Int)=>.br (decide (v0.1<(l.length:Int))) (let E1:=bT 1 1&&bJ 0 1&&decide (0<=v0.1/\v0.1<(l.length:Int));.cn E1 (let E2:=decide (4*(v0.2.length+1)<=140737488355328);.br (dE (l.getD v0.1.toNat 0) (17:Int)==(0:Int)) (.cn E1 (.cn E2 (.nx ((((ao.Nil (ao.ints i64 l)\/rE (1:Nat))/\rE (l:List Int))/\True/\rE ((wrap i64 (v0.1+1)):Int)/\True)/\rE ((v0.2++[wrap u32 (bg i64 (l.getD v0.1.toNat 0) 4294967295)]):List Int)/\True) (Sum.inl (wrap i64 (v0.1+1),v0.2++[wrap u32 (bg i64 (l.getD v0.1.toNat 0) 4294967295)]))))) (.cn E1 (.an (Qgd (l.getD v0.1.toNat 0)) (.lv (Zhj (l.getD v0.1.toNat 0)) λ(x0:gu)=>.lv (o7 x0) λ(x1:Int×Bool)=>.cn E2 (.nx ((((ao.Nil (ao.ints i64 l)\/rE (1:Nat))/\rE (l:List Int))/\True/\rE ((wrap i64 (v0.1+1)):Int)/\True)/\rE ((v0.2++[x1.1]):List Int)/\True) (Sum.inl (wrap i64 (v0.1+1),v0.2++[x1.1])))))))) (.lf (Sum.inr v0.2))
def Mr l:=(NV l).m
abbrev Qm1 l:=(NV l).p
def Zf5:bw:={
 α:=(Int)×(List Int)
 F:=λst a=>([(0,(lk st 0)),(3,.all 0),(4,.int i64 a.1)],[⟨false,23,1,.ints u32 a.2⟩])
 a0:=λst=>((lk st 4).toInt,(o4 st.rows (rN st 3)))
 jo:=λst=>[]++[(rX st 3 0)]}
def Z6h:List (Nat×bw):=[(3,Zf5)]
def Zjw:bc:=mT 50 [] true [.one (.ints .i64)] [] (λa r=>NV (ei .i64 a 0)) (λX=>.all 0) (λX=>[⟨false,23,1,.ints .u32 X⟩])
theorem Zim:bn pG Zjw:=oT (.cons Qjz (.cons Zhz (.nil))) Tryz.func50 Tryz.call50 [.row 23 1 (.ints .u32)] Z6h 3
def Tu(pc:Int):Tree bj:=
.lf ({X:={a0:=0,a1:=0,a2:=0,a3:=0,a4:=0,a5:=0,a6:=0,a7:=0,a8:=0,a9:=0,kz:=0,kA:=0,a12:=0,kB:=0,kC:=0,kD:=0},Pc:=pc,B7:={a0:=1,a1:=0,a2:=0,a3:=0,a4:=0,a5:=0,a6:=0,a7:=0}})
def Xn pc:=(Tu pc).m
def Zft:bc:=mS 99 [] true [.one (.int .u32)] [] (λa r=>Tu (aq a 0)) (λX=>.agg (bj.cells X)) (λX=>[])
theorem Zdd:bn pG Zft:=oS (.nil) Tryz.func99 Tryz.call99 [] [] 2
def R7(c8:Int):Tree (List Int):=
.br (decide (c8<1)) (.lf ([])) (.br (decide (c8>32)) (.lf ([])) (.cn (bJ 0 1&&bT 1 1&&List.all [D.int u32 0] D.plain&&decide (0<=wrap i64 (c8*32)/\wrap i64 (c8*32)<=wrap i64 (c8*32)/\wrap i64 (c8*32)<=9223372036854775807/\(↑4:Int)*wrap i64 (c8*32)<=140737488355328)) (.lf (List.replicate (dF (wrap i64 (c8*32))) 0))))
def Tw c8:=(R7 c8).m
abbrev Qj9 c8:=(R7 c8).p
def Zoj:bc:=mT 100 [] true [.one (.int .i64)] [] (λa r=>R7 (aq a 0)) (λX=>.all 0) (λX=>[⟨false,23,1,.ints .u32 X⟩])
theorem Zl5:bn pG Zoj:=oT (.nil) Tryz.func100 Tryz.call100 [.row 23 1 (.ints .u32)] [] 2
def DZ(c8 blocks:Int)(image:List Int):Tree (au×Bool):=
let T1:Tree ((au×Bool)):=.lf ({B4:={X:={a0:=0,a1:=0,a2:=0,a3:=0,a4:=0,a5:=0,a6:=0,a7:=0,a8:=0,a9:=0,kz:=0,kA:=0,a12:=0,kB:=0,kC:=0,kD:=0},Pc:=0,B7:={a0:=0,a1:=0,a2:=0,a3:=0,a4:=0,a5:=0,a6:=0,a7:=0}},Mem:=[],A7:={D5:=[]},B2:={D7:=false,C7:=0,D6:=false},B1:={ag:=0,C4:=0,Frame:=0,C0:=0,D8:=0,B9:=0,B5:=0,C1:=[]},C6:={Frame:=0,F1:=0,C8:=false,C2:=0,B8:=false,F4:=0},A6:={C9:=0,C5:=0},A4:=0,A9:=false,B0:=false},false);.br (decide (c8<1)) T1 (.br (decide (c8>32)) T1 (.br (decide (blocks<0)) T1 (.br (decide (blocks>64)) T1 (.br (decide ((image.length:Int)>wrap i64 (c8*32))) T1 (.lv (Xn 0) λ(x0:bj)=>.an (Qj9 c8) (.lv (Tw c8) λ(x1:List Int)=>.lf ({B4:=x0,Mem:=dB (Min.min (image.length) (x1.length)) image++dC (Min.min (image.length) (x1.length)) x1,A7:={D5:=[]},B2:={D7:=false,C7:=0,D6:=false},B1:={ag:=wrap u32 blocks,C4:=0,Frame:=0,C0:=0,D8:=0,B9:=0,B5:=0,C1:=[]},C6:={Frame:=0,F1:=0,C8:=false,C2:=0,B8:=false,F4:=0},A6:={C9:=0,C5:=0},A4:=0,A9:=false,B0:=false},true)))))))
def lu c8 blocks image:=(DZ c8 blocks image).m
abbrev VY c8 blocks image:=(DZ c8 blocks image).p
def Zqu:bc:=mT 51 [] true [.one (.int .i64),.one (.int .i64),.one (.ints .u32)] [] (λa r=>DZ (aq a 0) (aq a 1) (ei .u32 a 2)) (λX=>.du [.agg (au.fg (X.1) (.all 0)),.bool (X.2)]) (λX=>[⟨false,23,1,.ints .u32 (X.1).Mem⟩])
theorem Zls:bn pG Zqu:=oT (.cons Zdd (.cons Zl5 (.nil))) Tryz.func51 Tryz.call51 [.row 23 1 (.ints .u32)] [] 2
def Pg(m:au):Tree Bool:=
.an (Qft m) (.lv (AL m) λ(x0:Bool)=>.br (!x0) (.lf false) (.an (Qdq m) (.lv (nC m) λ(x1:au)=>.an (Qo0 x1.B4 x1.Mem) (.lv (wR x1.B4 x1.Mem) λ(x2:bj×List Int×kN)=>.br (x2.2.2.C3==1) (.lf (x2.2.2.D4==2)) (.lf false)))))
def Pf m:=(Pg m).m
abbrev Q8d m:=(Pg m).p
def Qr2:bc:=mT 203 [] true [.agg au.sig] [] (λa r=>Pg (au.of (aC a 0))) (λX=>.bool X) (λX=>[])
theorem Qoo:bn pG Qr2:=oT (.cons Qos (.cons Qn5 (.cons Z3f (.nil)))) Tryz.func203 Tryz.call203 [] [] 2
