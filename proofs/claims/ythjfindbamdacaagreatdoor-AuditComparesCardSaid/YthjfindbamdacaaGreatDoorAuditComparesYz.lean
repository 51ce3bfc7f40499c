import Derived.Test.YthjfindbamdacaaGreatDoorAuditComparesFh
import Derived.Test.YthjfindbamdacaaGreatDoorAuditComparesYx
open List renaming take->cZ,drop->dA,length->dK,set->dG,getD->aK
open Int renaming toNat->dF,tmod->dE
open UInt8 renaming toNat->eW
open Nat renaming blt->bJ,beq->bT,lt_succ_self->cO
set_option maxRecDepth 100000
set_option linter.all false
namespace Go.Proofs.YthjfindbamdacaaGreatDoor
open Go Go.GD Go.IntKind
noncomputable section
def Iu(m:au):Tree Bool:=
.an (QR m) (.lv (mF m) λ(x0:Bool)=>.br x0 (.br (!m.A4) (.an (Xp m) (.lv (KJ m) λ(x1:Bool)=>.br (!x1) (.lf (decide (m.A0<1152921504606846976))) (.lf false))) (.lf false)) (.lf false))
def Ag m:=(Iu m).m
abbrev Qeu m:=(Iu m).p
def Z5i:ba:=mT 61 [] true [.agg au.sig] [] (λa r=>Iu (au.of (aC a 0))) (λX=>.bool X) (λX=>[])
theorem Qob:bj pG Z5i:=oT (.cons ZF (.cons Qo7 (.nil))) Tryz.func61 Tryz.call61 [] [] 2
def Wi(m:au)(z:(Int)):Nat:=(5-z).toNat
def Gb(m:au):Tree au:=
let E1:=({A9:=m.A9,Mem:=m.Mem,A2:=m.A2,A7:=m.A7,A6:=m.A6,C1:=m.C1,A1:=m.A1,A0:=m.A0,A3:=false,A4:=m.A4}:au);.br (bb u32 m.A9.B2.a0 (2:Int)==(0:Int)) (.lf (E1)) (.an (Qas E1) (.lv (Li E1) λ(x0:Int)=>.lp inferInstance (Wi m 0+1) ((rZ/\rZ/\rE (x0:Int)/\rE (0:Int)/\True)/\(rE m.A9.X.a0/\rE m.A9.X.a1/\rE m.A9.X.a2/\rE m.A9.X.a3/\rE m.A9.X.a4/\rE m.A9.X.a5/\rE m.A9.X.a6/\rE m.A9.X.a7/\rE m.A9.X.a8/\rE m.A9.X.a9/\rE m.A9.X.kj/\rE m.A9.X.ko/\rE m.A9.X.a12/\rE m.A9.X.kp/\rE m.A9.X.kq/\rE m.A9.X.kr/\rE m.A9.Pc/\rE m.A9.B2.a0/\rE m.A9.B2.a1/\rE m.A9.B2.a2/\rE m.A9.B2.a3/\rE m.A9.B2.a4/\rE m.A9.B2.a5/\rE m.A9.B2.a6/\rE m.A9.B2.a7/\((ak.Nil (ak.ints u32 m.Mem)\/rE (1:Nat))/\rE m.Mem)/\rE m.A2.C5/\rE m.A7.C9/\rE m.A7.B8/\rE m.A7.C8/\rE m.A6.ab/\rE m.A6.B9/\rE m.A6.Frame/\rE m.A6.B5/\rE m.A6.D1/\rE m.A6.B4/\rE m.A6.B0/\rE m.A6.B6/\rE m.C1.Frame/\rE m.C1.D6/\rE m.C1.C2/\rE m.C1.B7/\rE m.C1.B3/\rE m.C1.D8/\rE m.A1.C3/\rE m.A1.C0/\rE m.A0/\rE (false:Bool)/\rE m.A4/\True)/\(mE zM True True)/\True) 0 λ(v0:Int)=>.br (decide (v0<5)) (.cn (decide (0<=v0)) (.br (bb u32 x0 (ea u32 1 v0) !=0) (.lv (pO m.A9 (wrap i64 (16+v0)) 0) λ(x1:bg)=>.lf (Sum.inr {A9:=x1,Mem:=m.Mem,A2:=m.A2,A7:=m.A7,A6:=m.A6,C1:=m.C1,A1:=m.A1,A0:=m.A0,A3:=false,A4:=m.A4})) (.nx ((rZ/\rZ/\rE (x0:Int)/\rE ((wrap i64 (v0+1)):Int)/\True)/\(rE m.A9.X.a0/\rE m.A9.X.a1/\rE m.A9.X.a2/\rE m.A9.X.a3/\rE m.A9.X.a4/\rE m.A9.X.a5/\rE m.A9.X.a6/\rE m.A9.X.a7/\rE m.A9.X.a8/\rE m.A9.X.a9/\rE m.A9.X.kj/\rE m.A9.X.ko/\rE m.A9.X.a12/\rE m.A9.X.kp/\rE m.A9.X.kq/\rE m.A9.X.kr/\rE m.A9.Pc/\rE m.A9.B2.a0/\rE m.A9.B2.a1/\rE m.A9.B2.a2/\rE m.A9.B2.a3/\rE m.A9.B2.a4/\rE m.A9.B2.a5/\rE m.A9.B2.a6/\rE m.A9.B2.a7/\((ak.Nil (ak.ints u32 m.Mem)\/rE (1:Nat))/\rE m.Mem)/\rE m.A2.C5/\rE m.A7.C9/\rE m.A7.B8/\rE m.A7.C8/\rE m.A6.ab/\rE m.A6.B9/\rE m.A6.Frame/\rE m.A6.B5/\rE m.A6.D1/\rE m.A6.B4/\rE m.A6.B0/\rE m.A6.B6/\rE m.C1.Frame/\rE m.C1.D6/\rE m.C1.C2/\rE m.C1.B7/\rE m.C1.B3/\rE m.C1.D8/\rE m.A1.C3/\rE m.A1.C0/\rE m.A0/\rE (false:Bool)/\rE m.A4/\True)/\(mE zM True True)/\True) (Sum.inl (wrap i64 (v0+1)))))) (.lf (Sum.inr E1))))
def mW m:=(Gb m).m
abbrev ZG m:=(Gb m).p
def Qz3:bw:={
 α:=(Int)
 F:=λst a=>([(1,.ptr 0 0 0),(2,.ptr 1 0 0),(3,(lk st 3)),(15,.int i64 a)],[⟨true,42,49,.gen [mB (cT st 1)]⟩,⟨true,42,49,.gen [mB (cT st 2)]⟩])
 a0:=λst=>(lk st 15).toInt
 ji:=λst=>[]++[(rX st 1 0),(rX st 2 1)]}
def Qte:List (Nat×bw):=[(6,Qz3)]
def Z0d:ba:=ba.fz<|mo 62 [] false [.agg au.sig] [] (λa r=>ZG (au.of (aC a 0))) (λa r=>mW (au.of (aC a 0))) (λX=>.agg (au.cells X)) (λX=>[])
theorem Qm3:bj pG Z0d:=L7<|uK drawn mM (.cons Qii (.cons QX (.nil))) Tryz.func62 Tryz.call62 (λa r=>Gb (au.of (aC a 0))) [.sl (.ints .u32) false] Qte 3 (λ_ _ _=>by kernel_rfl) (λ_ _=>rfl) (λ_ _ h=>h) (λh=>by cases h)
def Io(c:iO)(port:Int):Tree (iO×Int):=
.br (port==0) (.br (decide (c.C5=[])) (.lf (c,4294967295)) (.cn (decide ((0:Int)<=(0:Int)/\0<(c.C5.length:Int))) (.cn (decide ((0:Int)<=(1:Int)/\1<=(c.C5.length:Int)/\(c.C5.length:Int)<=(c.C5.length:Int))) (.lf ({C5:=cZ (dF (c.C5.length:Int)-dF 1) (dA (dF 1) c.C5)},wrap u32 (↑(eW (c.C5.getD (dF 0) (0:UInt8))):Int)))))) (.br (port==1) (.lf (c,wrap u32 (c.C5.length:Int))) (.lf (c,0)))
def WT c port:=(Io c port).m
theorem Z4r(c:iO)(port:Int):(Io c port).p:=by
 unfold Tree.p Io
 repeat'(first|exact trivial|refine aa (λ_=>?_) (λ_=>?_)|refine ax ?_ ?_|refine cr ?_ ?_|refine aq (λ_ _=>?_)|refine ek ?_|refine bu ?_|refine And.intro ?_ ?_)
 all_goals(exact ou)
def Zfa:ba:=mS 122 [] true [.agg iO.sig,.one (.int .i64)] [] (λa r=>Io (iO.of (aC a 0)) (ar a 1)) (λX=>.dt [.agg (iO.cells (X.1)),.int .u32 (X.2)]) (λX=>[])
theorem Z9a:bj pG Zfa:=oS (.nil) Tryz.func122 Tryz.call122 [] [] 2 (λ_ _ _=>by kernel_rfl) (λa r=>Z4r (iO.of (aC a 0)) (ar a 1)) (λ_ X=>by kernel_rfl)
def Sq(t:iS):Tree Int:=
.br t.C8 (.lf 1) (.lf 0)
def Wc t:=(Sq t).m
def Zno:ba:=mS 123 [] true [.agg iS.sig] [] (λa r=>Sq (iS.of (aC a 0))) (λX=>.int .u32 X) (λX=>[])
theorem Zjd:bj pG Zno:=oS (.nil) Tryz.func123 Tryz.call123 [] [] 2
def Sr(d0:fe)(port:Int):Tree Int:=
.br (port==4) (.lf d0.B9) (.br (port==5) (.lf d0.Frame) (.br (port==6) (.lf (wrap u32 d0.B5)) (.lf 0)))
def Nz d0 port:=(Sr d0 port).m
def zB:ba:=mS 124 [] true [.agg fe.sig,.one (.int .i64)] [] (λa r=>Sr (fe.of (aC a 0)) (ar a 1)) (λX=>.int .u32 X) (λX=>[])
theorem Znq:bj pG zB:=oS (.nil) Tryz.func124 Tryz.call124 [] [] 2
def NA(n:gq)(port:Int):Tree Int:=
.br (port==7) (.lf n.Frame) (.br (port==8) (.lf n.D8) (.br (port==9) (.br n.C2 (.br n.B3 (.lf (wrap u32 (wrap u32 ((0:Int)+(1:Int))+2))) (.lf (wrap u32 ((0:Int)+(1:Int))))) (.br n.B3 (.lf (wrap u32 ((0:Int)+(2:Int)))) (.lf 0))) (.lf 0)))
def KE n port:=(NA n port).m
def yV:ba:=mS 125 [] true [.agg gq.sig,.one (.int .i64)] [] (λa r=>NA (gq.of (aC a 0)) (ar a 1)) (λX=>.int .u32 X) (λX=>[])
theorem yB:bj pG yV:=oS (.nil) Tryz.func125 Tryz.call125 [] [] 2
def KF(b:gh)(port:Int):Tree Int:=
.br (port==10) (.lf b.C3) (.br (port==11) (.an (Qdb b) (.lv (SW b) λ(x0:Int)=>.lf (wrap u32 x0))) (.lf 0))
def W6 b port:=(KF b port).m
abbrev Qqa b port:=(KF b port).p
def Zcr:ba:=mT 126 [] true [.agg gh.sig,.one (.int .i64)] [] (λa r=>KF (gh.of (aC a 0)) (ar a 1)) (λX=>.int .u32 X) (λX=>[])
theorem Z97:bj pG Zcr:=oT (.cons Qm2 (.nil)) Tryz.func126 Tryz.call126 [] [] 2
def KD(m:au)(port clock:Int):Tree (au×Int):=
let T1:Tree ((au×Int)):=.lv (WT m.A2 port) λ(x0:iO×Int)=>.lf ({A9:=m.A9,Mem:=m.Mem,A2:=x0.1,A7:=m.A7,A6:=m.A6,C1:=m.C1,A1:=m.A1,A0:=m.A0,A3:=m.A3,A4:=m.A4},x0.2);.br (port==0) T1 (.br (port==1) T1 (.br (port==2) (.lf (m,clock)) (.br (port==3) (.lv (Wc m.A7) λ(x2:Int)=>.lf (m,x2)) (.br (port==4) (.lv (Nz m.A6 port) λ(x3:Int)=>.lf (m,x3)) (.br (port==5) (.lv (Nz m.A6 port) λ(x4:Int)=>.lf (m,x4)) (.br (port==6) (.lv (Nz m.A6 port) λ(x5:Int)=>.lf (m,x5)) (.br (port==7) (.lv (KE m.C1 port) λ(x6:Int)=>.lf (m,x6)) (.br (port==8) (.lv (KE m.C1 port) λ(x7:Int)=>.lf (m,x7)) (.br (port==9) (.lv (KE m.C1 port) λ(x8:Int)=>.lf (m,x8)) (let T2:Tree ((au×Int)):=.an (Qqa m.A1 port) (.lv (W6 m.A1 port) λ(x9:Int)=>.lf (m,x9));.br (port==10) T2 (.br (port==11) T2 (.lf (m,0)))))))))))))
def ud m port clock:=(KD m port clock).m
abbrev Qez m port clock:=(KD m port clock).p
def Qtn:ba:=ba.fz<|mo 64 [] false [.agg au.sig,.one (.int .i64),.one (.int .u32)] [] (λa r=>Qez (au.of (aC a 0)) (ar a 1) (ar a 2)) (λa r=>ud (au.of (aC a 0)) (ar a 1) (ar a 2)) (λX=>.dt [.agg (au.cells (X.1)),.int .u32 (X.2)]) (λX=>[])
theorem Qr5:bj pG Qtn:=L7<|uK drawn mM (.cons Z9a (.cons Zjd (.cons Znq (.cons yB (.cons Z97 (.nil)))))) Tryz.func64 Tryz.call64 (λa r=>KD (au.of (aC a 0)) (ar a 1) (ar a 2)) [.sl (.ints .u32) false] [] 2 (λ_ _ _=>by kernel_rfl) (λ_ _=>rfl) (λ_ _ h=>h) (λh=>by cases h)
def Sn(t:iS)(deadline:Int):Tree iS:=
.lf ({C9:=deadline !=0,B8:=deadline,C8:=false})
def Nv t deadline:=(Sn t deadline).m
def Zio:ba:=mS 127 [] true [.agg iS.sig,.one (.int .u32)] [] (λa r=>Sn (iS.of (aC a 0)) (ar a 1)) (λX=>.agg (iS.cells X)) (λX=>[])
theorem Zcx:bj pG Zio:=oS (.nil) Tryz.func127 Tryz.call127 [] [] 2
def Np(m:List Int)(frame:Int):Tree Bool:=
.lv (lC m) λ(x0:Int)=>.lf (decide (wrap u64 frame<wrap u64 x0))
def Ij m frame:=(Np m frame).m
def Z9f:ba:=mS 134 [] true [.one (.ints .u32),.one (.int .u32)] [] (λa r=>Np (du .u32 a 0) (ar a 1)) (λX=>.bool X) (λX=>[])
theorem Qqg:bj pG Z9f:=oS (.cons Hr (.nil)) Tryz.func134 Tryz.call134 [] [] 2
def Nk(m:List Int)(frame:Int):Tree Bool:=
.br (decide (frame>=0)) (.lv (lC m) λ(x0:Int)=>.lf (decide (frame<x0))) (.lf false)
def Ii m frame:=(Nk m frame).m
def Qz2:ba:=mS 60 [] true [.one (.ints .u32),.one (.int .i64)] [] (λa r=>Nk (du .u32 a 0) (ar a 1)) (λX=>.bool X) (λX=>[])
theorem Qja:bj pG Qz2:=oS (.cons Hr (.nil)) Tryz.func60 Tryz.call60 [] [] 2
def Qlr(words:List Int)(z:(Int)×(List Int)):Prop:=0<=z.1/\z.1<=words.length/\(z.2.length:Int)=4*z.1
def Nl(words:List Int)(z:(Int)×(List Int)):Nat:=(words.length-z.1).toNat
def Eu(words:List Int):Tree (List UInt8):=
.cn (bJ 0 1&&bT 1 1&&List.all [D.int u8 0] D.plain&&decide ((0:Int)<=(0:Int)/\0<=wrap i64 (4*(words.length:Int))/\wrap i64 (4*(words.length:Int))<=9223372036854775807/\(↑1:Int)*wrap i64 (4*(words.length:Int))<=140737488355328)) (.lp inferInstance (Nl words (0,[])+1) ((True/\((ak.Nil (ak.ints u32 words)\/rE (1:Nat))/\rE (words:List Int))/\rE ((words.length:Int):Int)/\rE (0:Int)/\True)/\rE ([]:List Int)/\True) (0,[]) λ(v0:Int×List Int)=>.br (decide (v0.1<(words.length:Int))) (.cn (bT 1 1&&bJ 0 1&&decide (0<=v0.1/\v0.1<(words.length:Int))) (.cn (decide (1*(v0.2.length+4)<=140737488355328)) (let E1:=words.getD v0.1.toNat 0;.nx ((True/\((ak.Nil (ak.ints u32 words)\/rE (1:Nat))/\rE (words:List Int))/\rE ((words.length:Int):Int)/\rE ((wrap i64 (v0.1+1)):Int)/\True)/\rE ((v0.2++[wrap u8 (words.getD v0.1.toNat 0),wrap u8 (bf u32 (words.getD v0.1.toNat 0) 8),wrap u8 (bf u32 (words.getD v0.1.toNat 0) 16),wrap u8 (bf u32 (words.getD v0.1.toNat 0) 24)]):List Int)/\True) (Sum.inl (wrap i64 (v0.1+1),v0.2++[wrap u8 E1,wrap u8 (bf u32 E1 8),wrap u8 (bf u32 E1 16),wrap u8 (bf u32 E1 24)]))))) (.lf (Sum.inr (bytesOf v0.2))))
def Z29 words:=(Eu words).m
def UF(words:List Int):Prop:=
words.length<=1000000000000
theorem Z1v(words:List Int)(hw:UF words):(Eu words).p:=by
 simp only[UF]at hw
 unfold Tree.p Eu
 repeat'(first|refine fg (inv:=Qlr words) (μ:=Nl words) ?_ (cO _) (λ_ _=>?_)|exact trivial|refine aa (λ_=>?_) (λ_=>?_)|refine ax ?_ ?_|refine cr ?_ ?_|refine aq (λ_ _=>?_)|refine ek ?_|refine bu ?_|refine And.intro ?_ ?_)
 all_goals((try simp only[Qlr,Nl]at*);exact ou)
def Z49:bw:={
 α:=(Int)×(List Int)
 F:=λst a=>([(3,.all 0),(10,(lk st 10)),(11,(lk st 11)),(12,.int i64 a.1)],[⟨false,5,1,.ints u8 a.2⟩])
 a0:=λst=>((lk st 12).toInt,(rY st.rows (rN st 3)))
 ji:=λst=>[]++[(rX st 3 0)]}
def Qyd:List (Nat×bw):=[(3,Z49)]
def Za6:ba:=mo 66 [] true [.one (.ints .u32)] [] (λa r=>UF (du .u32 a 0)) (λa r=>Z29 (du .u32 a 0)) (λX=>.str X) (λX=>[])
theorem Z5f:bj pG Za6:=uK drawn mM (.nil) Tryz.func66 Tryz.call66 (λa r=>Eu (du .u32 a 0)) [] Qyd 3 (hp:=λa r h=>Z1v (du .u32 a 0) h)
def F0(m:List Int)(frame:Int):Tree ((List UInt8)×Bool):=
.lv (Ii m frame) λ(x0:Bool)=>.br (!x0) (.lf ([],false)) (.cn (bT 1 1&&bJ 0 1&&decide (0<=wrap i64 (frame*32)/\wrap i64 (frame*32)<=wrap i64 (wrap i64 (frame*32)+32)/\wrap i64 (wrap i64 (frame*32)+32)<=(m.length:Int))) (let E1:=cZ (dF (wrap i64 (wrap i64 (frame*32)+32))-dF (wrap i64 (frame*32))) (dA (dF (wrap i64 (frame*32))) m);.an (UF E1) (.lv (Z29 E1) λ(x1:List UInt8)=>.lf (x1,true))))
def Dy m frame:=(F0 m frame).m
abbrev ZH m frame:=(F0 m frame).p
def Zb:ba:=mT 23 [] true [.one (.ints .u32),.one (.int .i64)] [] (λa r=>F0 (du .u32 a 0) (ar a 1)) (λX=>.dt [.str (X.1),.bool (X.2)]) (λX=>[])
theorem ZI:bj pG Zb:=oT (.cons Qja (.cons Z5f (.nil))) Tryz.func23 Tryz.call23 [] [] 2
def Qqn(d0:fe)(dk:Int):Tree (fm×Bool):=
.br (d0.B5 !=1) (.lf ({C4:=0,At:=0,B9:=0,D2:=[]},false)) (.br (d0.D1==1) (.lf ({C4:=3,At:=dk,B9:=d0.B4,D2:=[]},true)) (.br (d0.D1==2) (.lf ({C4:=4,At:=dk,B9:=d0.B4,D2:=d0.B6},true)) (.lf ({C4:=0,At:=0,B9:=0,D2:=[]},false))))
def WV d0 dk:=(Qqn d0 dk).m
def Z47:ba:=mS 254 [] true [.agg fe.sig,.one (.int .u64)] [] (λa r=>Qqn (fe.of (aC a 0)) (ar a 1)) (λX=>.dt [.agg (fm.cells (X.1)),.bool (X.2)]) (λX=>[])
theorem Z3:bj pG Z47:=oS (.nil) Tryz.func254 Tryz.call254 [] [] 2
def Kv(d0:fe)(m:List Int)(cmd dk:Int):Tree (fe×(List fm)):=
.br (d0.B5 !=0) (.lf (d0,[])) (let T1:Tree ((fe×(List fm))):=.lf ({ab:=d0.ab,B9:=d0.B9,Frame:=d0.Frame,B5:=3,D1:=d0.D1,B4:=d0.B4,B0:=d0.B0,B6:=d0.B6},[]);.br (decide (d0.B9>=d0.ab)) T1 (.lv (Ij m d0.Frame) λ(x0:Bool)=>.br (!x0) T1 (.br (cmd==2) (.an (ZH m (wrap i64 d0.Frame)) (.lv (Dy m (wrap i64 d0.Frame)) λ(x1:List UInt8×Bool)=>let E2:=({ab:=d0.ab,B9:=d0.B9,Frame:=d0.Frame,B5:=1,D1:=cmd,B4:=d0.B9,B0:=d0.Frame,B6:=x1.1}:fe);.lv (WV E2 dk) λ(x2:fm×Bool)=>.lf (E2,[x2.1]))) (let E3:=({ab:=d0.ab,B9:=d0.B9,Frame:=d0.Frame,B5:=1,D1:=cmd,B4:=d0.B9,B0:=d0.Frame,B6:=[]}:fe);.lv (WV E3 dk) λ(x3:fm×Bool)=>.lf (E3,[x3.1])))))
def Qvk d0 m cmd dk:=(Kv d0 m cmd dk).m
abbrev Qqb d0 m cmd dk:=(Kv d0 m cmd dk).p
def Zdl:ba:=mT 192 [] true [.agg fe.sig,.one (.ints .u32),.one (.int .i64),.one (.int .u64)] [] (λa r=>Kv (fe.of (aC a 0)) (du .u32 a 1) (ar a 2) (ar a 3)) (λX=>.dt [.agg (fe.cells (X.1)),.sl 4 (.bc .bd (X.2)) true]) (λX=>[])
theorem Zab:bj pG Zdl:=oT (.cons Qqg (.cons ZI (.cons Z3 (.nil)))) Tryz.func192 Tryz.call192 [.sl (.bc .bd) true] [] 2
def Kw(d0:fe)(m:List Int)(port v dk:Int):Tree (fe×(List fm)):=
.br (port==4) (.lf ({ab:=d0.ab,B9:=v,Frame:=d0.Frame,B5:=d0.B5,D1:=d0.D1,B4:=d0.B4,B0:=d0.B0,B6:=d0.B6},[])) (.br (port==5) (.lf ({ab:=d0.ab,B9:=d0.B9,Frame:=v,B5:=d0.B5,D1:=d0.D1,B4:=d0.B4,B0:=d0.B0,B6:=d0.B6},[])) (.br (port==6) (let T1:Tree ((fe×(List fm))):=.an (Qqb d0 m (wrap i64 v) dk) (.lv (Qvk d0 m (wrap i64 v) dk) λ(x0:fe×List fm)=>.lf (x0.1,x0.2));.br (v==1) T1 (.br (v==2) T1 (.br (v==0) (.lv (Kx d0) λ(x2:Bool)=>.br x2 (.lf ({ab:=d0.ab,B9:=d0.B9,Frame:=d0.Frame,B5:=0,D1:=d0.D1,B4:=d0.B4,B0:=d0.B0,B6:=d0.B6},[])) (.lf (d0,[]))) (.lf (d0,[]))))) (.lf (d0,[]))))
def WU d0 m port v dk:=(Kw d0 m port v dk).m
abbrev Qxu d0 m port v dk:=(Kw d0 m port v dk).p
def Zlu:ba:=mT 128 [] true [.agg fe.sig,.one (.ints .u32),.one (.int .i64),.one (.int .u32),.one (.int .u64)] [] (λa r=>Kw (fe.of (aC a 0)) (du .u32 a 1) (ar a 2) (ar a 3) (ar a 4)) (λX=>.dt [.agg (fe.cells (X.1)),.sl 4 (.bc .bd (X.2)) true]) (λX=>[])
theorem Zhj:bj pG Zlu:=oT (.cons Zab (.cons Qo4 (.nil))) Tryz.func128 Tryz.call128 [.sl (.bc .bd) true] [] 2
def Nq(m:List Int)(frame:Int):Tree Bool:=
.lv (lC m) λ(x0:Int)=>.lf (decide (wrap u64 frame<wrap u64 x0))
def F4 m frame:=(Nq m frame).m
def Zd:ba:=mS 135 [] true [.one (.ints .u32),.one (.int .u32)] [] (λa r=>Nq (du .u32 a 0) (ar a 1)) (λX=>.bool X) (λX=>[])
theorem ZJ:bj pG Zd:=oS (.cons Hr (.nil)) Tryz.func135 Tryz.call135 [] [] 2
def Ky(n:gq)(m:List Int)(dk:Int):Tree (List fm):=
.br (decide (n.D6<1)) (.lf ([])) (.br (decide (n.D6>128)) (.lf ([])) (.lv (F4 m n.Frame) λ(x0:Bool)=>.br (!x0) (.lf ([])) (.an (ZH m (wrap i64 n.Frame)) (.lv (Dy m (wrap i64 n.Frame)) λ(x1:List UInt8×Bool)=>.cn (decide ((0:Int)<=(0:Int)/\0<=n.D6/\n.D6<=(x1.1.length:Int))) (.lf ([{C4:=2,At:=dk,B9:=0,D2:=cZ (dF n.D6-dF 0) (dA (dF 0) x1.1)}]))))))
def Zaq n m dk:=(Ky n m dk).m
abbrev Qxi n m dk:=(Ky n m dk).p
def Zo3:ba:=mT 193 [] true [.agg gq.sig,.one (.ints .u32),.one (.int .u64)] [] (λa r=>Ky (gq.of (aC a 0)) (du .u32 a 1) (ar a 2)) (λX=>.sl 4 (.bc .bd X) true) (λX=>[])
theorem Zhu:bj pG Zo3:=oT (.cons ZJ (.cons ZI (.nil))) Tryz.func193 Tryz.call193 [.sl (.bc .bd) true] [] 2
def Kz(n:gq)(m:List Int)(port v dk:Int):Tree (gq×(List fm)):=
.br (port==7) (.lf ({Frame:=v,D6:=n.D6,C2:=n.C2,B7:=n.B7,B3:=n.B3,D8:=n.D8},[])) (.br (port==8) (.lf ({Frame:=n.Frame,D6:=v,C2:=n.C2,B7:=n.B7,B3:=n.B3,D8:=n.D8},[])) (.br (port==9) (.br (v==1) (.an (Qxi n m dk) (.lv (Zaq n m dk) λ(x0:List fm)=>.lf (n,x0))) (.br (v==2) (.lv (F4 m n.Frame) λ(x1:Bool)=>.br x1 (.br (!n.C2) (.br (!n.B3) (.lf ({Frame:=n.Frame,D6:=n.D6,C2:=true,B7:=n.Frame,B3:=n.B3,D8:=n.D8},[])) (.lf (n,[]))) (.lf (n,[]))) (.lf (n,[]))) (.br (v==0) (.lf ({Frame:=n.Frame,D6:=n.D6,C2:=n.C2,B7:=n.B7,B3:=false,D8:=0},[])) (.lf (n,[]))))) (.lf (n,[]))))
def WX n m port v dk:=(Kz n m port v dk).m
abbrev Z3i n m port v dk:=(Kz n m port v dk).p
def vB:ba:=mT 129 [] true [.agg gq.sig,.one (.ints .u32),.one (.int .i64),.one (.int .u32),.one (.int .u64)] [] (λa r=>Kz (gq.of (aC a 0)) (du .u32 a 1) (ar a 2) (ar a 3) (ar a 4)) (λX=>.dt [.agg (gq.cells (X.1)),.sl 4 (.bc .bd (X.2)) true]) (λX=>[])
theorem Zmb:bj pG vB:=oT (.cons Zhu (.cons ZJ (.nil))) Tryz.func129 Tryz.call129 [.sl (.bc .bd) true] [] 2
def V6(m:List Int)(frame:Int)(s:List UInt8)(z:(Int)×(List Int)):Nat:=(32-z.1).toNat
def FZ(m:List Int)(frame:Int)(s:List UInt8):Tree ((List Int)×Bool):=
.an (mh m) (.lv (jy m) λ(x0:List Int)=>.lv (Ii m frame) λ(x1:Bool)=>.br (!x1) (.lf (x0,false)) (.br ((s.length:Int) !=(128:Int)) (.lf (x0,false)) (.lp inferInstance (V6 m frame s (0,x0)+1) ((rE (s:List UInt8)/\True/\rE ((wrap i64 (frame*32)):Int)/\rE (0:Int)/\True)/\rE (x0:List Int)/\True) (0,x0) λ(v0:Int×List Int)=>.br (decide (v0.1<32)) (.cn (decide (0<=wrap i64 (4*v0.1)/\wrap i64 (4*v0.1)<=wrap i64 (wrap i64 (4*v0.1)+4)/\wrap i64 (wrap i64 (4*v0.1)+4)<=(s.length:Int))) (let E1:=cZ (dF (wrap i64 (wrap i64 (4*v0.1)+4))-dF (wrap i64 (4*v0.1))) (dA (dF (wrap i64 (4*v0.1))) s);.cn (decide ((0:Int)<=(0:Int)/\0<(↑(dK E1):Int))) (.cn (decide ((0:Int)<=(1:Int)/\1<(↑(dK E1):Int))) (.cn (decide ((0:Int)<=(2:Int)/\2<(↑(dK E1):Int))) (.cn (decide ((0:Int)<=(3:Int)/\3<(↑(dK E1):Int))) (.cn (bT 1 1&&bJ 0 1&&decide (0<=wrap i64 (wrap i64 (frame*32)+v0.1)/\wrap i64 (wrap i64 (frame*32)+v0.1)<(v0.2.length:Int))) (.nx ((rE (s:List UInt8)/\True/\rE ((wrap i64 (frame*32)):Int)/\rE ((wrap i64 (v0.1+1)):Int)/\True)/\rE ((dG v0.2 (dF (wrap i64 (wrap i64 (frame*32)+v0.1))) (ie u32 (ie u32 (ie u32 (wrap u32 (↑(eW (aK (cZ (dF (wrap i64 (wrap i64 (4*v0.1)+4))-dF (wrap i64 (4*v0.1))) (dA (dF (wrap i64 (4*v0.1))) s)) (dF 0) (0:UInt8))):Int)) (ea u32 (wrap u32 (↑(eW (aK (cZ (dF (wrap i64 (wrap i64 (4*v0.1)+4))-dF (wrap i64 (4*v0.1))) (dA (dF (wrap i64 (4*v0.1))) s)) (dF 1) (0:UInt8))):Int)) 8)) (ea u32 (wrap u32 (↑(eW (aK (cZ (dF (wrap i64 (wrap i64 (4*v0.1)+4))-dF (wrap i64 (4*v0.1))) (dA (dF (wrap i64 (4*v0.1))) s)) (dF 2) (0:UInt8))):Int)) 16)) (ea u32 (wrap u32 (↑(eW (aK (cZ (dF (wrap i64 (wrap i64 (4*v0.1)+4))-dF (wrap i64 (4*v0.1))) (dA (dF (wrap i64 (4*v0.1))) s)) (dF 3) (0:UInt8))):Int)) 24))):List Int)/\True) (Sum.inl (wrap i64 (v0.1+1),dG v0.2 (dF (wrap i64 (wrap i64 (frame*32)+v0.1))) (ie u32 (ie u32 (ie u32 (wrap u32 (↑(eW (aK E1 (dF 0) (0:UInt8))):Int)) (ea u32 (wrap u32 (↑(eW (aK E1 (dF 1) (0:UInt8))):Int)) 8)) (ea u32 (wrap u32 (↑(eW (aK E1 (dF 2) (0:UInt8))):Int)) 16)) (ea u32 (wrap u32 (↑(eW (aK E1 (dF 3) (0:UInt8))):Int)) 24))))))))))) (.lf (Sum.inr (v0.2,true))))))
def Dz m frame s:=(FZ m frame s).m
abbrev ZK m frame s:=(FZ m frame s).p
def Qwg:bw:={
 α:=(Int)×(List Int)
 F:=λst a=>([(2,(lk st 2)),(8,.all 0),(9,(lk st 9)),(26,.int i64 a.1)],[⟨false,23,1,.ints u32 a.2⟩])
 a0:=λst=>((lk st 26).toInt,(rY st.rows (rN st 8)))
 ji:=λst=>[]++[(rX st 8 0)]}
def Qqw:List (Nat×bw):=[(6,Qwg)]
def Qy9:ba:=mT 21 [] true [.one (.ints .u32),.one (.int .i64),.one (.str)] [] (λa r=>FZ (du .u32 a 0) (ar a 1) (gw a 2)) (λX=>.dt [.all 0,.bool (X.2)]) (λX=>[⟨false,23,1,.ints .u32 (X.1)⟩])
theorem ZL:bj pG Qy9:=oT (.cons DQ (.cons Qja (.nil))) Tryz.func21 Tryz.call21 [.row 23 1 (.ints .u32)] Qqw 3
def strings_Repeat(s:List UInt8)(count:Int):(List UInt8):=
Lib.repeatL s count.toNat
def ZM(s:List UInt8)(count:Int):Prop:=
0<=count/\count<=9223372036854775807/\s.length*count.toNat<=140737488355328
def Qg0(s:List UInt8)(count:Int):List D:=[.str s,.int .i64 count]
def Qgo(s:List UInt8)(count:Int):List Row:=[]
def Qc(X:List UInt8):D:=.str X
def ZN(X:List UInt8):List Row:=[]
def Qia:List PT:=[.one (.str),.one (.int .i64)]
def Qg3:List RT:=[]
def Qt8(args:List D)(rows:List Row):(List UInt8):=strings_Repeat (gw args 0) (ar args 1)
def Qsr(args:List D)(rows:List Row):Prop:=ZM (gw args 0) (ar args 1)
def Qy4:ba:=mo 194 [] true Qia Qg3 Qsr Qt8 Qc ZN
theorem Qpx(s:List UInt8)(count:Int)(hw:ZM s count):jZ pG 194 (Qg0 s count) (Qgo s count) (Qc (strings_Repeat s count)) (ZN (strings_Repeat s count)):=by
 exact ye Tryz.strings_Repeat hw.1 hw.2.1 hw.2.2
set_option maxRecDepth 100000 in
theorem Qrb(args:List D)(rows:List Row):lL Qia args 0=Qg0 (gw args 0) (ar args 1):=by kernel_rfl
set_option maxRecDepth 100000 in
theorem Qpy(args:List D)(rows:List Row):kU Qg3 rows 0=Qgo (gw args 0) (ar args 1):=by kernel_rfl
set_option maxRecDepth 100000 in
theorem Qus(X:List UInt8):(uJ (Qc X)&&jE (ZN X))=true:=by kernel_rfl
theorem Qvq:bj pG Qy4:=L9 Tryz.call194 (λargs rows hp=>by rw[Qrb args rows,Qpy args rows];exact Qpx (gw args 0) (ar args 1) hp) (λ_ X=>Qus X)
def Dr(b:gh)(m:List Int)(port v:Int):Tree (gh×(List Int)):=
let T1:Tree ((gh×(List Int))):=.an (mh m) (.lv (jy m) λ(x0:List Int)=>.lf (b,x0));.br (decide (v>=32)) T1 (.cn (decide (0<=v)) (.br (port==10) (.lv (lC m) λ(x1:Int)=>.br (decide (wrap i64 v<x1)) (.br (bb u32 b.C0 (ea u32 1 v)==0) (.an (ZM [(0:UInt8)] 128) (.lv (strings_Repeat [(0:UInt8)] 128) λ(x2:List UInt8)=>.an (ZK m (wrap i64 v) x2) (.lv (Dz m (wrap i64 v) x2) λ(x3:List Int×Bool)=>.lf ({C3:=b.C3,C0:=ie u32 b.C0 (ea u32 1 v)},x3.1)))) T1) T1) (.br (port==11) (.an (mh m) (.lv (jy m) λ(x6:List Int)=>.lf ({C3:=b.C3,C0:=nC u32 b.C0 (ea u32 1 v)},x6))) T1)))
def Gv b m port v:=(Dr b m port v).m
abbrev Qo8 b m port v:=(Dr b m port v).p
def Zbi:ba:=mT 130 [] true [.agg gh.sig,.one (.ints .u32),.one (.int .i64),.one (.int .u32)] [] (λa r=>Dr (gh.of (aC a 0)) (du .u32 a 1) (ar a 2) (ar a 3)) (λX=>.dt [.agg (gh.cells (X.1)),.all 0]) (λX=>[⟨false,23,1,.ints .u32 (X.2)⟩])
theorem Z4c:bj pG Zbi:=oT (.cons DQ (.cons Hr (.cons ZL (.cons Qvq (.nil))))) Tryz.func130 Tryz.call130 [.row 23 1 (.ints .u32)] [] 2
def KC(m:au)(port v dk:Int):Tree (au×(List fm)):=
.br (port==0) (.lf (m,[{C4:=1,At:=dk,B9:=0,D2:=[(λ(n:Int)=>UInt8.ofNat n.toNat) (wrap u8 v)]}])) (.br (port==3) (.lv (Nv m.A7 v) λ(x0:iS)=>.lf ({A9:=m.A9,Mem:=m.Mem,A2:=m.A2,A7:=x0,A6:=m.A6,C1:=m.C1,A1:=m.A1,A0:=m.A0,A3:=m.A3,A4:=m.A4},[])) (let T1:Tree ((au×(List fm))):=.an (Qxu m.A6 m.Mem port v dk) (.lv (WU m.A6 m.Mem port v dk) λ(x1:fe×List fm)=>.lf ({A9:=m.A9,Mem:=m.Mem,A2:=m.A2,A7:=m.A7,A6:=x1.1,C1:=m.C1,A1:=m.A1,A0:=m.A0,A3:=m.A3,A4:=m.A4},x1.2));.br (port==4) T1 (.br (port==5) T1 (.br (port==6) T1 (let T2:Tree ((au×(List fm))):=.an (Z3i m.C1 m.Mem port v dk) (.lv (WX m.C1 m.Mem port v dk) λ(x4:gq×List fm)=>.lf ({A9:=m.A9,Mem:=m.Mem,A2:=m.A2,A7:=m.A7,A6:=m.A6,C1:=x4.1,A1:=m.A1,A0:=m.A0,A3:=m.A3,A4:=m.A4},x4.2));.br (port==7) T2 (.br (port==8) T2 (.br (port==9) T2 (let T3:Tree ((au×(List fm))):=.an (Qo8 m.A1 m.Mem port v) (.lv (Gv m.A1 m.Mem port v) λ(x7:gh×List Int)=>.lf ({A9:=m.A9,Mem:=x7.2,A2:=m.A2,A7:=m.A7,A6:=m.A6,C1:=m.C1,A1:=x7.1,A0:=m.A0,A3:=m.A3,A4:=m.A4},[]));.br (port==10) T3 (.br (port==11) T3 (.lf (m,[])))))))))))
def EF m port v dk:=(KC m port v dk).m
abbrev Qdp m port v dk:=(KC m port v dk).p
def Qqt:ba:=ba.fz<|mo 65 [] false [.agg au.sig,.one (.int .i64),.one (.int .u32),.one (.int .u64)] [] (λa r=>Qdp (au.of (aC a 0)) (ar a 1) (ar a 2) (ar a 3)) (λa r=>EF (au.of (aC a 0)) (ar a 1) (ar a 2) (ar a 3)) (λX=>.dt [.agg (au.cells (X.1)),.sl 4 (.bc .bd (X.2)) true]) (λX=>[])
theorem Qpn:bj pG Qqt:=L7<|uK drawn mM (.cons Zcx (.cons Zhj (.cons Zmb (.cons Z4c (.nil))))) Tryz.func65 Tryz.call65 (λa r=>KC (au.of (aC a 0)) (ar a 1) (ar a 2) (ar a 3)) [.sl (.ints .u32) false,.sl (.bc .bd) true] [] 2 (λ_ _ _=>by kernel_rfl) (λ_ _=>rfl) (λ_ _ h=>h) (λh=>by cases h)
def Gd(m:au)(clock:Int):Tree (au×(List fm)):=
.an (mh m.Mem) (.lv (jy m.Mem) λ(x0:List Int)=>let E1:=({A9:=m.A9,Mem:=x0,A2:=m.A2,A7:=m.A7,A6:=m.A6,C1:=m.C1,A1:=m.A1,A0:=m.A0,A3:=m.A3,A4:=m.A4}:au);.an (Qeu E1) (.lv (Ag E1) λ(x1:Bool)=>.br (!x1) (.lf (E1,[])) (.an (ZG E1) (.lv (mW E1) λ(x2:au)=>.an (Qmt x2.A9 x2.Mem) (.lv (Q7 x2.A9 x2.Mem) λ(x3:bg×List Int×kD)=>let E2:=({A9:=x3.1,Mem:=x3.2.1,A2:=x2.A2,A7:=x2.A7,A6:=x2.A6,C1:=x2.C1,A1:=x2.A1,A0:=x2.A0,A3:=x2.A3,A4:=x2.A4}:au);.br (x3.2.2.C4==1) (.an (Qez E2 x3.2.2.C6 clock) (.lv (ud E2 x3.2.2.C6 clock) λ(x4:au×Int)=>.br (x3.2.2.D7 !=0) (.cn (bJ 0 1&&decide (0<=x3.2.2.D7/\x3.2.2.D7<(↑16:Int))) (.lf ({A9:={X:=fv.of 0 (dG (fv.l x4.1.A9.X) x3.2.2.D7.toNat x4.2),Pc:=x4.1.A9.Pc,B2:=x4.1.A9.B2},Mem:=x4.1.Mem,A2:=x4.1.A2,A7:=x4.1.A7,A6:=x4.1.A6,C1:=x4.1.C1,A1:=x4.1.A1,A0:=wrap u64 (x4.1.A0+1),A3:=x4.1.A3,A4:=x4.1.A4},[]))) (.lf ({A9:=x4.1.A9,Mem:=x4.1.Mem,A2:=x4.1.A2,A7:=x4.1.A7,A6:=x4.1.A6,C1:=x4.1.C1,A1:=x4.1.A1,A0:=wrap u64 (x4.1.A0+1),A3:=x4.1.A3,A4:=x4.1.A4},[])))) (.br (x3.2.2.C4==2) (.an (Qdp E2 x3.2.2.C6 x3.2.2.Value m.A0) (.lv (EF E2 x3.2.2.C6 x3.2.2.Value m.A0) λ(x5:au×List fm)=>.lf ({A9:=x5.1.A9,Mem:=x5.1.Mem,A2:=x5.1.A2,A7:=x5.1.A7,A6:=x5.1.A6,C1:=x5.1.C1,A1:=x5.1.A1,A0:=wrap u64 (x5.1.A0+1),A3:=x5.1.A3,A4:=x5.1.A4},x5.2))) (.br (x3.2.2.C4==3) (.lf ({A9:=x3.1,Mem:=x3.2.1,A2:=x2.A2,A7:=x2.A7,A6:=x2.A6,C1:=x2.C1,A1:=x2.A1,A0:=wrap u64 (x2.A0+1),A3:=true,A4:=x2.A4},[])) (.br (x3.2.2.C4==4) (.lf ({A9:=x3.1,Mem:=x3.2.1,A2:=x2.A2,A7:=x2.A7,A6:=x2.A6,C1:=x2.C1,A1:=x2.A1,A0:=wrap u64 (x2.A0+1),A3:=x2.A3,A4:=true},[])) (.lf ({A9:=x3.1,Mem:=x3.2.1,A2:=x2.A2,A7:=x2.A7,A6:=x2.A6,C1:=x2.C1,A1:=x2.A1,A0:=wrap u64 (x2.A0+1),A3:=x2.A3,A4:=x2.A4},[]))))))))))
def Am m clock:=(Gd m clock).m
abbrev Ob m clock:=(Gd m clock).p
def Z5r:ba:=ba.fz<|mo 22 [] false [.agg au.sig,.one (.int .u32)] [] (λa r=>Ob (au.of (aC a 0)) (ar a 1)) (λa r=>Am (au.of (aC a 0)) (ar a 1)) (λX=>.dt [.agg (au.cells (X.1)),.sl 4 (.bc .bd (X.2)) false]) (λX=>[])
theorem Z16:bj pG Z5r:=L7<|uK drawn mM (.cons DQ (.cons Qob (.cons Qm3 (.cons Z10 (.cons Qr5 (.cons Qpn (.nil))))))) Tryz.func22 Tryz.call22 (λa r=>Gd (au.of (aC a 0)) (ar a 1)) [.sl (.ints .u32) false,.sl (.bc .bd) false] [] 2 (λ_ _ _=>by kernel_rfl) (λ_ _=>rfl) (λ_ _ h=>h) (λh=>by cases h)
end
noncomputable section
def Z0w(op:Int):Tree Int:=
let T1:Tree (Int):=.br (op==49) (.lf 3) (let T2:Tree (Int):=.br (op==24) (.lf 6) (.br (op==48) (.lf 7) (.br (op==58) (.lf 8) (.br (op==59) (.lf 8) (.br (op==60) (.lf 9) (.br (op==61) (.lf 9) (.br (op==56) (.lf 1) (.br (op==57) (.lf 1) (.br (decide (op>=62)) (.br (decide (op<=64)) (.lf 1) (.lf 0)) (.lf 0)))))))));.br (decide (op>=17)) (.br (decide (op<=19)) (.lf 4) (.br (decide (op>=20)) (.br (decide (op<=22)) (.lf 5) T2) T2)) (.br (decide (op>=20)) (.br (decide (op<=22)) (.lf 5) T2) T2));let T3:Tree (Int):=.br (op==16) (.lf 3) (.br (op==23) (.lf 3) (.br (decide (op>=32)) (.br (decide (op<=36)) (.lf 3) (.br (decide (op>=40)) (.br (decide (op<=45)) (.lf 3) T1) T1)) (.br (decide (op>=40)) (.br (decide (op<=45)) (.lf 3) T1) T1)));.br (decide (op>=1)) (.br (decide (op<=13)) (.lf 2) T3) T3
def oC op:=(Z0w op).m
def Zit:ba:=mS 154 [] true [.one (.int .i64)] [] (λa r=>Z0w (ar a 0)) (λX=>.int .i64 X) (λX=>[])
theorem Rb:bj pG Zit:=oS (.nil) Tryz.func154 Tryz.call154 [] [] 2
def Sx(r:Int):Tree Bool:=
.br (decide (r>=0)) (.lf (decide (r<=15))) (.lf false)
def KM r:=(Sx r).m
def Z1l:ba:=mS 236 [] true [.one (.int .i64)] [] (λa r=>Sx (ar a 0)) (λX=>.bool X) (λX=>[])
theorem Qyv:bj pG Z1l:=oS (.nil) Tryz.func236 Tryz.call236 [] [] 2
def Wq(f:Int):Tree (Int×Int):=
.br (f==3) (.lf ((-32768),32767)) (.br (f==7) (.lf ((-32768),32767)) (.br (f==4) (.lf (0,65535)) (.br (f==6) (.lf (0,65535)) (.br (f==5) (.lf (0,31)) (.br (f==8) (.lf (0,7)) (.br (f==9) (.lf (0,11)) (.lf (0,0))))))))
def Wp f:=(Wq f).m
def Z8x:ba:=mS 155 [] true [.one (.int .i64)] [] (λa r=>Wq (ar a 0)) (λX=>.dt [.int .i64 (X.1),.int .i64 (X.2)]) (λX=>[])
theorem Qq6:bj pG Z8x:=oS (.nil) Tryz.func155 Tryz.call155 [] [] 2
def NH(i:gj):Tree Bool:=
.lv (oC i.Op) λ(x0:Int)=>.br (x0==0) (.lf false) (.lv (KM i.A) λ(x1:Bool)=>.br (!x1) (.lf false) (.lv (KM i.B) λ(x2:Bool)=>.br (!x2) (.lf false) (.lv (KM i.C) λ(x3:Bool)=>.br (!x3) (.lf false) (.lv (Wp x0) λ(x4:Int×Int)=>.br (decide (wrap i64 i.bh<x4.1)) (.lf false) (.br (decide (wrap i64 i.bh>x4.2)) (.lf false) (let T1:Tree (Bool):=.br (x0==1) (.br (i.A !=0) (.lf false) (.br (i.B==0) (.lf true) (.br (decide (x0>=2)) (.lf (decide (x0<=5))) (.lf false)))) (.br (i.B==0) (.lf true) (.br (decide (x0>=2)) (.lf (decide (x0<=5))) (.lf false)));.br (x0 !=2) (.br (i.C !=0) (.lf false) T1) T1))))))
def Du i:=(NH i).m
def Ze2:ba:=mS 153 [] true [.agg gj.sig] [] (λa r=>NH (gj.of (aC a 0))) (λX=>.bool X) (λX=>[])
theorem Qu2:bj pG Ze2:=oS (.cons Rb (.cons Qyv (.cons Qq6 (.nil)))) Tryz.func153 Tryz.call153 [] [] 2
def Sd(i:gj):Tree (Int×Bool):=
.lv (Du i) λ(x0:Bool)=>.br (!x0) (.lf (0,false)) (.lf (ie u32 (ie u32 (ie u32 (ie u32 (ea u32 (wrap u32 i.Op) 24) (ea u32 (wrap u32 i.A) 20)) (ea u32 (wrap u32 i.B) 16)) (bb u32 (wrap u32 i.bh) 65535)) (wrap u32 i.C),true))
def oB i:=(Sd i).m
def Zbm:ba:=mS 96 [] true [.agg gj.sig] [] (λa r=>Sd (gj.of (aC a 0))) (λX=>.dt [.int .u32 (X.1),.bool (X.2)]) (λX=>[])
theorem ZO:bj pG Zbm:=oS (.cons Qu2 (.nil)) Tryz.func96 Tryz.call96 [] [] 2
def Z8:Tree (List Int):=
.lf ([1,2,3,4,5,6,7,8,9,10,11,12,13,16,16,17,18,19,20,21,22,23,24,24,32,32,33,34,35,35,36,40,41,42,43,44,45,48,49,56,57,58,59,60,60,61,61,62,63,64])
def Zaw:(List Int):=(Z8).m
def Zm2:ba:=mS 156 [] true [] [] (λa r=>Z8) (λX=>.sl 1 (.ints .i64 X) true) (λX=>[])
theorem Zhh:bj pG Zm2:=oS (.nil) Tryz.func156 Tryz.call156 [.sl (.ints .i64) true] [] 2
def Z33(Db:Int):Tree (Int×Int):=
let E1:=wrap u64 (mK u64 (wrap u64 (Db+11400714819323198485)) (bf u64 (wrap u64 (Db+11400714819323198485)) 30)*13787848793156543929);let E2:=wrap u64 (mK u64 E1 (bf u64 E1 27)*10723151780598845931);.lf (mK u64 E2 (bf u64 E2 31),wrap u64 (Db+11400714819323198485))
def Zg2 Db:=(Z33 Db).m
def Zj0:ba:=mS 116 [] true [.one (.int .u64)] [] (λa r=>Z33 (ar a 0)) (λX=>.dt [.int .u64 (X.1),.int .u64 (X.2)]) (λX=>[])
theorem Zdv:bj pG Zj0:=oS (.nil) Tryz.func116 Tryz.call116 [] [] 2
def Z6o(n k:Int):Tree Int:=
.lv (Zg2 (mK u64 (wrap u64 n) (wrap u64 (wrap u64 k*11400714819323198485)))) λ(x0:Int×Int)=>.lf (wrap i64 (bf u64 x0.1 1))
def Zl1 n k:=(Z6o n k).m
def Znm:ba:=mS 58 [] true [.one (.int .i64),.one (.int .i64)] [] (λa r=>Z6o (ar a 0) (ar a 1)) (λX=>.int .i64 X) (λX=>[])
theorem Zgq:bj pG Znm:=oS (.cons Zdv (.nil)) Tryz.func58 Tryz.call58 [] [] 2
def ZP(n k:Int):Tree Int:=
.cn (decide (k≠0)) (.br (decide (dE n k<0)) (.lf (wrap i64 (dE n k+k))) (.lf (dE n k)))
def Fv n k:=(ZP n k).m
abbrev JF n k:=(ZP n k).p
def Zcm:ba:=mT 15 [] true [.one (.int .i64),.one (.int .i64)] [] (λa r=>ZP (ar a 0) (ar a 1)) (λX=>.int .i64 X) (λX=>[])
theorem Qsf:bj pG Zcm:=oT (.nil) Tryz.func15 Tryz.call15 [] [] 2
def Uy(n:Int):Tree gj:=
.lv Zaw λ(x0:List Int)=>.lv (Zl1 n 1) λ(x1:Int)=>.an (JF x1 (x0.length:Int)) (.lv (Fv x1 (x0.length:Int)) λ(x2:Int)=>.cn (bT 1 1&&bJ 0 1&&decide (0<=x2/\x2<(x0.length:Int))) (.an (JF (bf i64 x1 8) 6) (.lv (Fv (bf i64 x1 8) 6) λ(x3:Int)=>.an (JF (bf i64 x1 12) 6) (.lv (Fv (bf i64 x1 12) 6) λ(x4:Int)=>.an (JF (bf i64 x1 16) 6) (.lv (Fv (bf i64 x1 16) 6) λ(x5:Int)=>.an (JF (bf i64 x1 20) 24) (.lv (Fv (bf i64 x1 20) 24) λ(x6:Int)=>.br (decide (x0.getD x2.toNat (0:Int)<=(13:Int))) (.lf ({Op:=x0.getD x2.toNat 0,A:=x3,B:=x4,C:=x5,bh:=0})) (let E4:=({Op:=x0.getD x2.toNat 0,A:=x3,B:=x4,C:=0,bh:=wrap i32 (wrap i64 (wrap i64 (8*x6)-32))}:gj);let T1:Tree (gj):=.br (x0.getD x2.toNat (0:Int)==(49:Int)) (.lf (E4)) (.br (x0.getD x2.toNat (0:Int)==(24:Int)) (.lf ({Op:=x0.getD x2.toNat 0,A:=x3,B:=0,C:=0,bh:=wrap i32 (wrap i64 (x6*bb i64 (bf i64 x1 40) 1))})) (let T2:Tree (gj):=let E6:=({Op:=x0.getD x2.toNat 0,A:=x3,B:=0,C:=0,bh:=wrap i32 (dE x6 8)}:gj);.br (x0.getD x2.toNat (0:Int)==(58:Int)) (.lf (E6)) (.br (x0.getD x2.toNat (0:Int)==(59:Int)) (.lf (E6)) (let E5:=({Op:=x0.getD x2.toNat 0,A:=x3,B:=0,C:=0,bh:=wrap i32 (dE x6 12)}:gj);.br (x0.getD x2.toNat (0:Int)==(60:Int)) (.lf (E5)) (.br (x0.getD x2.toNat (0:Int)==(61:Int)) (.lf (E5)) (.lf ({Op:=x0.getD x2.toNat 0,A:=0,B:=0,C:=0,bh:=0})))));.br (decide (x0.getD x2.toNat (0:Int)>=(17:Int))) (.br (decide (x0.getD x2.toNat (0:Int)<=(22:Int))) (.lf ({Op:=x0.getD x2.toNat 0,A:=x3,B:=x4,C:=0,bh:=wrap i32 x6})) T2) T2));let T3:Tree (gj):=.br (x0.getD x2.toNat (0:Int)==(16:Int)) (.lf (E4)) (.br (x0.getD x2.toNat (0:Int)==(23:Int)) (.lf (E4)) (.br (decide (x0.getD x2.toNat (0:Int)>=(32:Int))) (.br (decide (x0.getD x2.toNat (0:Int)<=(36:Int))) (.lf (E4)) T1) T1));.br (decide (x0.getD x2.toNat (0:Int)>=(40:Int))) (.br (decide (x0.getD x2.toNat (0:Int)<=(48:Int))) (.br (x0.getD x2.toNat (0:Int)==(48:Int)) (.lf ({Op:=x0.getD x2.toNat 0,A:=x3,B:=0,C:=0,bh:=wrap i32 (wrap i64 (x6-12))})) (.lf ({Op:=x0.getD x2.toNat 0,A:=x3,B:=x4,C:=0,bh:=wrap i32 (wrap i64 (x6-12))}))) T3) T3)))))))
def Zd6 n:=(Uy n).m
abbrev Zu n:=(Uy n).p
def Zgo:ba:=mT 98 [] true [.one (.int .i64)] [] (λa r=>Uy (ar a 0)) (λX=>.agg (gj.cells X)) (λX=>[])
theorem Ze5:bj pG Zgo:=oT (.cons Zhh (.cons Zgq (.cons Qsf (.nil)))) Tryz.func98 Tryz.call98 [] [] 2
def Qq1(l:List Int)(z:(Int)×(List Int)):Prop:=0<=z.1/\z.1<=l.length/\(z.2.length:Int)=z.1
def Se(l:List Int)(z:(Int)×(List Int)):Nat:=(l.length-z.1).toNat
def MV(l:List Int):Tree (List Int):=
.lp inferInstance (Se l (0,[])+1) ((((ak.Nil (ak.ints i64 l)\/rE (1:Nat))/\rE (l:List Int))/\True/\rE (0:Int)/\True)/\rE ([]:List Int)/\True) (0,[]) λ(v0:Int×List Int)=>.br (decide (v0.1<(l.length:Int))) (let E1:=bT 1 1&&bJ 0 1&&decide (0<=v0.1/\v0.1<(l.length:Int));.cn E1 (let E2:=decide (4*(v0.2.length+1)<=140737488355328);.br (dE (l.getD v0.1.toNat 0) (17:Int)==(0:Int)) (.cn E1 (.cn E2 (.nx ((((ak.Nil (ak.ints i64 l)\/rE (1:Nat))/\rE (l:List Int))/\True/\rE ((wrap i64 (v0.1+1)):Int)/\True)/\rE ((v0.2++[wrap u32 (bb i64 (l.getD v0.1.toNat 0) 4294967295)]):List Int)/\True) (Sum.inl (wrap i64 (v0.1+1),v0.2++[wrap u32 (bb i64 (l.getD v0.1.toNat 0) 4294967295)]))))) (.cn E1 (.an (Zu (l.getD v0.1.toNat 0)) (.lv (Zd6 (l.getD v0.1.toNat 0)) λ(x0:gj)=>.lv (oB x0) λ(x1:Int×Bool)=>.cn E2 (.nx ((((ak.Nil (ak.ints i64 l)\/rE (1:Nat))/\rE (l:List Int))/\True/\rE ((wrap i64 (v0.1+1)):Int)/\True)/\rE ((v0.2++[x1.1]):List Int)/\True) (Sum.inl (wrap i64 (v0.1+1),v0.2++[x1.1])))))))) (.lf (Sum.inr v0.2))
def Ls l:=(MV l).m
abbrev Qlh l:=(MV l).p
def Zcy:bw:={
 α:=(Int)×(List Int)
 F:=λst a=>([(0,(lk st 0)),(3,.all 0),(4,.int i64 a.1)],[⟨false,23,1,.ints u32 a.2⟩])
 a0:=λst=>((lk st 4).toInt,(rY st.rows (rN st 3)))
 ji:=λst=>[]++[(rX st 3 0)]}
def Z4a:List (Nat×bw):=[(3,Zcy)]
def Zi7:ba:=mT 50 [] true [.one (.ints .i64)] [] (λa r=>MV (du .i64 a 0)) (λX=>.all 0) (λX=>[⟨false,23,1,.ints .u32 X⟩])
theorem Zew:bj pG Zi7:=oT (.cons ZO (.cons Ze5 (.nil))) Tryz.func50 Tryz.call50 [.row 23 1 (.ints .u32)] Z4a 3
def Sj(pc:Int):Tree bg:=
.lf ({X:={a0:=0,a1:=0,a2:=0,a3:=0,a4:=0,a5:=0,a6:=0,a7:=0,a8:=0,a9:=0,kj:=0,ko:=0,a12:=0,kp:=0,kq:=0,kr:=0},Pc:=pc,B2:={a0:=1,a1:=0,a2:=0,a3:=0,a4:=0,a5:=0,a6:=0,a7:=0}})
def V3 pc:=(Sj pc).m
def Zd1:ba:=mS 99 [] true [.one (.int .u32)] [] (λa r=>Sj (ar a 0)) (λX=>.agg (bg.cells X)) (λX=>[])
theorem Zbx:bj pG Zd1:=oS (.nil) Tryz.func99 Tryz.call99 [] [] 2
def QQ(cw:Int):Tree (List Int):=
.br (decide (cw<1)) (.lf ([])) (.br (decide (cw>32)) (.lf ([])) (.cn (bJ 0 1&&bT 1 1&&List.all [D.int u32 0] D.plain&&decide (0<=wrap i64 (cw*32)/\wrap i64 (cw*32)<=wrap i64 (cw*32)/\wrap i64 (cw*32)<=9223372036854775807/\(↑4:Int)*wrap i64 (cw*32)<=140737488355328)) (.lf (List.replicate (dF (wrap i64 (cw*32))) 0))))
def Sk cw:=(QQ cw).m
abbrev Zv cw:=(QQ cw).p
def Zmj:ba:=mT 100 [] true [.one (.int .i64)] [] (λa r=>QQ (ar a 0)) (λX=>.all 0) (λX=>[⟨false,23,1,.ints .u32 X⟩])
theorem Zie:bj pG Zmj:=oT (.nil) Tryz.func100 Tryz.call100 [.row 23 1 (.ints .u32)] [] 2
def Dl(cw blocks:Int)(image:List Int):Tree (au×Bool):=
let T1:Tree ((au×Bool)):=.lf ({A9:={X:={a0:=0,a1:=0,a2:=0,a3:=0,a4:=0,a5:=0,a6:=0,a7:=0,a8:=0,a9:=0,kj:=0,ko:=0,a12:=0,kp:=0,kq:=0,kr:=0},Pc:=0,B2:={a0:=0,a1:=0,a2:=0,a3:=0,a4:=0,a5:=0,a6:=0,a7:=0}},Mem:=[],A2:={C5:=[]},A7:={C9:=false,B8:=0,C8:=false},A6:={ab:=0,B9:=0,Frame:=0,B5:=0,D1:=0,B4:=0,B0:=0,B6:=[]},C1:={Frame:=0,D6:=0,C2:=false,B7:=0,B3:=false,D8:=0},A1:={C3:=0,C0:=0},A0:=0,A3:=false,A4:=false},false);.br (decide (cw<1)) T1 (.br (decide (cw>32)) T1 (.br (decide (blocks<0)) T1 (.br (decide (blocks>64)) T1 (.br (decide ((image.length:Int)>wrap i64 (cw*32))) T1 (.lv (V3 0) λ(x0:bg)=>.an (Zv cw) (.lv (Sk cw) λ(x1:List Int)=>.lf ({A9:=x0,Mem:=cZ (Min.min (image.length) (x1.length)) image++dA (Min.min (image.length) (x1.length)) x1,A2:={C5:=[]},A7:={C9:=false,B8:=0,C8:=false},A6:={ab:=wrap u32 blocks,B9:=0,Frame:=0,B5:=0,D1:=0,B4:=0,B0:=0,B6:=[]},C1:={Frame:=0,D6:=0,C2:=false,B7:=0,B3:=false,D8:=0},A1:={C3:=0,C0:=0},A0:=0,A3:=false,A4:=false},true)))))))
def kI cw blocks image:=(Dl cw blocks image).m
abbrev UG cw blocks image:=(Dl cw blocks image).p
def Zlz:ba:=mT 51 [] true [.one (.int .i64),.one (.int .i64),.one (.ints .u32)] [] (λa r=>Dl (ar a 0) (ar a 1) (du .u32 a 2)) (λX=>.dt [.agg (au.gy (X.1) (.all 0)),.bool (X.2)]) (λX=>[⟨false,23,1,.ints .u32 (X.1).Mem⟩])
theorem Zgg:bj pG Zlz:=oT (.cons Zbx (.cons Zie (.nil))) Tryz.func51 Tryz.call51 [.row 23 1 (.ints .u32)] [] 2
def Qh1(a b:List Int)(z:(Int)):Prop:=0<=z/\z<=a.length/\a.length=b.length
def Th(a b:List Int)(z:(Int)):Nat:=(a.length-z).toNat
def LA(a b:List Int):Tree Bool:=
.br ((a.length:Int) !=(b.length:Int)) (.lf false) (.lp inferInstance (Th a b 0+1) ((((ak.Nil (ak.ints u32 a)\/rE (1:Nat))/\rE (a:List Int))/\((ak.Nil (ak.ints u32 b)\/rE (1:Nat))/\rE (b:List Int))/\rE (0:Int)/\True)/\True) 0 λ(v0:Int)=>.br (decide (v0<(a.length:Int))) (.cn (bT 1 1&&bJ 0 1&&decide (0<=v0/\v0<(a.length:Int))) (.cn (bT 1 1&&bJ 0 1&&decide (0<=v0/\v0<(b.length:Int))) (.br (a.getD v0.toNat 0 !=b.getD v0.toNat 0) (.lf (Sum.inr false)) (.nx ((((ak.Nil (ak.ints u32 a)\/rE (1:Nat))/\rE (a:List Int))/\((ak.Nil (ak.ints u32 b)\/rE (1:Nat))/\rE (b:List Int))/\rE ((wrap i64 (v0+1)):Int)/\True)/\True) (Sum.inl (wrap i64 (v0+1))))))) (.lf (Sum.inr true)))
def XE a b:=(LA a b).m
def UH(a b:List Int):Prop:=
a.length<=1000000000000
theorem Qth(a b:List Int)(hw:UH a b):(LA a b).p:=by
 simp only[UH]at hw
 unfold Tree.p LA
 repeat'(first|refine fg (inv:=Qh1 a b) (μ:=Th a b) ?_ (cO _) (λ_ _=>?_)|exact trivial|refine aa (λ_=>?_) (λ_=>?_)|refine ax ?_ ?_|refine cr ?_ ?_|refine aq (λ_ _=>?_)|refine ek ?_|refine bu ?_|refine And.intro ?_ ?_)
 all_goals((try simp only[Qh1,Th]at*);exact ou)
def Qwo:bw:={
 α:=(Int)
 F:=λst a=>([(0,(lk st 0)),(1,(lk st 1)),(5,.int i64 a)],[])
 a0:=λst=>(lk st 5).toInt
 ji:=λst=>[]++[]}
def Qre:List (Nat×bw):=[(4,Qwo)]
def Qyi:ba:=mo 67 [] true [.one (.ints .u32),.one (.ints .u32)] [] (λa r=>UH (du .u32 a 0) (du .u32 a 1)) (λa r=>XE (du .u32 a 0) (du .u32 a 1)) (λX=>.bool X) (λX=>[])
theorem Qwr:bj pG Qyi:=uK drawn mM (.nil) Tryz.func67 Tryz.call67 (λa r=>LA (du .u32 a 0) (du .u32 a 1)) [] Qre 3 (hp:=λa r h=>Qth (du .u32 a 0) (du .u32 a 1) h)
def O0(a b:au):Tree Bool:=
.br (eqs [D.int u32 a.A9.X.a0,D.int u32 a.A9.X.a1,D.int u32 a.A9.X.a2,D.int u32 a.A9.X.a3,D.int u32 a.A9.X.a4,D.int u32 a.A9.X.a5,D.int u32 a.A9.X.a6,D.int u32 a.A9.X.a7,D.int u32 a.A9.X.a8,D.int u32 a.A9.X.a9,D.int u32 a.A9.X.kj,D.int u32 a.A9.X.ko,D.int u32 a.A9.X.a12,D.int u32 a.A9.X.kp,D.int u32 a.A9.X.kq,D.int u32 a.A9.X.kr,D.int u32 a.A9.Pc,D.int u32 a.A9.B2.a0,D.int u32 a.A9.B2.a1,D.int u32 a.A9.B2.a2,D.int u32 a.A9.B2.a3,D.int u32 a.A9.B2.a4,D.int u32 a.A9.B2.a5,D.int u32 a.A9.B2.a6,D.int u32 a.A9.B2.a7] [D.int u32 b.A9.X.a0,D.int u32 b.A9.X.a1,D.int u32 b.A9.X.a2,D.int u32 b.A9.X.a3,D.int u32 b.A9.X.a4,D.int u32 b.A9.X.a5,D.int u32 b.A9.X.a6,D.int u32 b.A9.X.a7,D.int u32 b.A9.X.a8,D.int u32 b.A9.X.a9,D.int u32 b.A9.X.kj,D.int u32 b.A9.X.ko,D.int u32 b.A9.X.a12,D.int u32 b.A9.X.kp,D.int u32 b.A9.X.kq,D.int u32 b.A9.X.kr,D.int u32 b.A9.Pc,D.int u32 b.A9.B2.a0,D.int u32 b.A9.B2.a1,D.int u32 b.A9.B2.a2,D.int u32 b.A9.B2.a3,D.int u32 b.A9.B2.a4,D.int u32 b.A9.B2.a5,D.int u32 b.A9.B2.a6,D.int u32 b.A9.B2.a7]) (.an (UH a.Mem b.Mem) (.lv (XE a.Mem b.Mem) λ(x0:Bool)=>.br x0 (.br (eqs [D.str a.A2.C5] [D.str b.A2.C5]) (.br (eqs [D.bool a.A7.C9,D.int u32 a.A7.B8,D.bool a.A7.C8] [D.bool b.A7.C9,D.int u32 b.A7.B8,D.bool b.A7.C8]) (.br (eqs [D.int u32 a.A6.ab,D.int u32 a.A6.B9,D.int u32 a.A6.Frame,D.int i64 a.A6.B5,D.int i64 a.A6.D1,D.int u32 a.A6.B4,D.int u32 a.A6.B0,D.str a.A6.B6] [D.int u32 b.A6.ab,D.int u32 b.A6.B9,D.int u32 b.A6.Frame,D.int i64 b.A6.B5,D.int i64 b.A6.D1,D.int u32 b.A6.B4,D.int u32 b.A6.B0,D.str b.A6.B6]) (.br (eqs [D.int u32 a.C1.Frame,D.int u32 a.C1.D6,D.bool a.C1.C2,D.int u32 a.C1.B7,D.bool a.C1.B3,D.int u32 a.C1.D8] [D.int u32 b.C1.Frame,D.int u32 b.C1.D6,D.bool b.C1.C2,D.int u32 b.C1.B7,D.bool b.C1.B3,D.int u32 b.C1.D8]) (.br (eqs [D.int u32 a.A1.C3,D.int u32 a.A1.C0] [D.int u32 b.A1.C3,D.int u32 b.A1.C0]) (.br (a.A0==b.A0) (.br (a.A3==b.A3) (.lf (a.A4==b.A4)) (.lf false)) (.lf false)) (.lf false)) (.lf false)) (.lf false)) (.lf false)) (.lf false)) (.lf false))) (.lf false)
def Zff a b:=(O0 a b).m
abbrev Qtx a b:=(O0 a b).p
def Zh8:ba:=mT 24 [] true [.agg au.sig,.agg au.sig] [] (λa r=>O0 (au.of (aC a 0)) (au.of (aC a 1))) (λX=>.bool X) (λX=>[])
theorem Zel:bj pG Zh8:=oT (.cons Qwr (.nil)) Tryz.func24 Tryz.call24 [] [] 2
def Of(m:au):Tree Bool:=
.an (Qeu m) (.lv (Ag m) λ(x0:Bool)=>.br (!x0) (.lf false) (.an (ZG m) (.lv (mW m) λ(x1:au)=>.an (Qmt x1.A9 x1.Mem) (.lv (Q7 x1.A9 x1.Mem) λ(x2:bg×List Int×kD)=>.br (x2.2.2.C4==1) (.lf (x2.2.2.C6==2)) (.lf false)))))
def Oe m:=(Of m).m
abbrev Q8 m:=(Of m).p
def Qpq:ba:=mT 203 [] true [.agg au.sig] [] (λa r=>Of (au.of (aC a 0))) (λX=>.bool X) (λX=>[])
theorem Qnx:bj pG Qpq:=oT (.cons Qob (.cons Qm3 (.cons Z10 (.nil)))) Tryz.func203 Tryz.call203 [] [] 2
