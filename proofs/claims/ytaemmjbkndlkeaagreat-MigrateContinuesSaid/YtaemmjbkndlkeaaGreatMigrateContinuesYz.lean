import Derived.Test.YtaemmjbkndlkeaaGreatMigrateContinuesFh
import Derived.Test.YtaemmjbkndlkeaaGreatMigrateContinuesYx
open List renaming take->cU,drop->cV,length->dF,set->dB,getD->aV
open Int renaming toNat->dA,tmod->cZ
open UInt8 renaming toNat->hY
open Nat renaming blt->bN,beq->bX,lt_succ_self->cN
set_option maxRecDepth 100000
set_option linter.all false
namespace Go.Proofs.YtaemmjbkndlkeaaGreat
open Go Go.GD Go.IntKind
noncomputable section
def Il(m:bd):Tree Bool:=
.an (U1 m) (.lv (AG m) λ(x0:Bool)=>.br x0 (.br (!m.B6) (.an (Qps m) (.lv (SL m) λ(x1:Bool)=>.br (!x1) (.lf (decide (m.B7<1152921504606846976))) (.lf false))) (.lf false)) (.lf false))
def En m:=(Il m).m
abbrev Qpp m:=(Il m).p
def Z9k:bc:=mT 135 [] true [.agg bd.sig] [] (λa r=>Il (bd.of (aC a 0))) (λX=>.bool X) (λX=>[])
theorem Z5:bm pG Z9k:=oT (.cons Qul (.cons Z5v (.nil))) Tryz.func135 Tryz.call135 [] [] 2
def Qk8(m:bd)(z:(Int)):Nat:=(5-z).toNat
def KH(m:bd):Tree bd:=
let E1:=({B4:=m.B4,Mem:=m.Mem,B2:=m.B2,B8:=m.B8,B5:=m.B5,D2:=m.D2,A6:=m.A6,B7:=m.B7,B3:=false,B6:=m.B6}:bd);.br (ba u32 m.B4.C2.a0 (2:Int)==(0:Int)) (.lf (E1)) (.an (Qcd E1) (.lv (Li E1) λ(x0:Int)=>.lp inferInstance (Qk8 m 0+1) ((rZ/\rZ/\rE (x0:Int)/\rE (0:Int)/\True)/\(rE m.B4.X.a0/\rE m.B4.X.a1/\rE m.B4.X.a2/\rE m.B4.X.a3/\rE m.B4.X.a4/\rE m.B4.X.a5/\rE m.B4.X.a6/\rE m.B4.X.a7/\rE m.B4.X.a8/\rE m.B4.X.a9/\rE m.B4.X.kv/\rE m.B4.X.ky/\rE m.B4.X.a12/\rE m.B4.X.kz/\rE m.B4.X.kA/\rE m.B4.X.kB/\rE m.B4.Pc/\rE m.B4.C2.a0/\rE m.B4.C2.a1/\rE m.B4.C2.a2/\rE m.B4.C2.a3/\rE m.B4.C2.a4/\rE m.B4.C2.a5/\rE m.B4.C2.a6/\rE m.B4.C2.a7/\((ai.Nil (ai.ints u32 m.Mem)\/rE (1:Nat))/\rE m.Mem)/\rE m.B2.D9/\rE m.B8.F0/\rE m.B8.D3/\rE m.B8.E0/\rE m.B5.ae/\rE m.B5.C9/\rE m.B5.Frame/\rE m.B5.C8/\rE m.B5.F6/\rE m.B5.C5/\rE m.B5.C6/\rE m.B5.C7/\rE m.D2.Frame/\rE m.D2.F7/\rE m.D2.D1/\rE m.D2.D4/\rE m.D2.C4/\rE m.D2.F9/\rE m.A6.A2/\rE m.A6.D0/\rE m.B7/\rE (false:Bool)/\rE m.B6/\True)/\(mE zM True True)/\True) 0 λ(v0:Int)=>.br (decide (v0<5)) (.cn (decide (0<=v0)) (.br (ba u32 x0 (ep u32 1 v0) !=0) (.lv (pU m.B4 (wrap i64 (16+v0)) 0) λ(x1:bq)=>.lf (Sum.inr {B4:=x1,Mem:=m.Mem,B2:=m.B2,B8:=m.B8,B5:=m.B5,D2:=m.D2,A6:=m.A6,B7:=m.B7,B3:=false,B6:=m.B6})) (.nx ((rZ/\rZ/\rE (x0:Int)/\rE ((wrap i64 (v0+1)):Int)/\True)/\(rE m.B4.X.a0/\rE m.B4.X.a1/\rE m.B4.X.a2/\rE m.B4.X.a3/\rE m.B4.X.a4/\rE m.B4.X.a5/\rE m.B4.X.a6/\rE m.B4.X.a7/\rE m.B4.X.a8/\rE m.B4.X.a9/\rE m.B4.X.kv/\rE m.B4.X.ky/\rE m.B4.X.a12/\rE m.B4.X.kz/\rE m.B4.X.kA/\rE m.B4.X.kB/\rE m.B4.Pc/\rE m.B4.C2.a0/\rE m.B4.C2.a1/\rE m.B4.C2.a2/\rE m.B4.C2.a3/\rE m.B4.C2.a4/\rE m.B4.C2.a5/\rE m.B4.C2.a6/\rE m.B4.C2.a7/\((ai.Nil (ai.ints u32 m.Mem)\/rE (1:Nat))/\rE m.Mem)/\rE m.B2.D9/\rE m.B8.F0/\rE m.B8.D3/\rE m.B8.E0/\rE m.B5.ae/\rE m.B5.C9/\rE m.B5.Frame/\rE m.B5.C8/\rE m.B5.F6/\rE m.B5.C5/\rE m.B5.C6/\rE m.B5.C7/\rE m.D2.Frame/\rE m.D2.F7/\rE m.D2.D1/\rE m.D2.D4/\rE m.D2.C4/\rE m.D2.F9/\rE m.A6.A2/\rE m.A6.D0/\rE m.B7/\rE (false:Bool)/\rE m.B6/\True)/\(mE zM True True)/\True) (Sum.inl (wrap i64 (v0+1)))))) (.lf (Sum.inr E1))))
def oW m:=(KH m).m
abbrev Qnm m:=(KH m).p
def Z3g:cg:={
 α:=(Int)
 F:=λst a=>([(1,.ptr 0 0 0),(2,.ptr 1 0 0),(3,(lk st 3)),(15,.int i64 a)],[⟨true,43,49,.gen [mB (cT st 1)]⟩,⟨true,43,49,.gen [mB (cT st 2)]⟩])
 a0:=λst=>(lk st 15).toInt
 jf:=λst=>[]++[(rX st 1 0),(rX st 2 1)]}
def Qx6:List (Nat×cg):=[(6,Z3g)]
def Z65:bc:=bc.fz<|lh 136 [] false [.agg bd.sig] [] (λa r=>Qnm (bd.of (aC a 0))) (λa r=>oW (bd.of (aC a 0))) (λX=>.agg (bd.cells X)) (λX=>[])
theorem Z3d:bm pG Z65:=wE<|uM drawn jt (.cons Qm5 (.cons Rq (.nil))) Tryz.func136 Tryz.call136 (λa r=>KH (bd.of (aC a 0))) [.sl (.ints .u32) false] Qx6 3 (λ_ _ _=>by kernel_rfl) (λ_ _=>rfl) (λ_ _ h=>h) (λh=>by cases h)
def Ie(c:iK)(port:Int):Tree (iK×Int):=
.br (port==0) (.br (decide (c.D9=[])) (.lf (c,4294967295)) (.cn (decide ((0:Int)<=(0:Int)/\0<(c.D9.length:Int))) (.cn (decide ((0:Int)<=(1:Int)/\1<=(c.D9.length:Int)/\(c.D9.length:Int)<=(c.D9.length:Int))) (.lf ({D9:=cU (dA (c.D9.length:Int)-dA 1) (cV (dA 1) c.D9)},wrap u32 (↑(hY (c.D9.getD (dA 0) (0:UInt8))):Int)))))) (.br (port==1) (.lf (c,wrap u32 (c.D9.length:Int))) (.lf (c,0)))
def Xi c port:=(Ie c port).m
theorem Za8(c:iK)(port:Int):(Ie c port).p:=by
 unfold Tree.p Ie
 repeat'(first|exact trivial|refine ab (λ_=>?_) (λ_=>?_)|refine ax ?_ ?_|refine c7 ?_ ?_|refine aq (λ_ _=>?_)|refine ez ?_|refine bh ?_|refine And.intro ?_ ?_)
 all_goals(exact nD)
def Zl0:bc:=mS 195 [] true [.agg iK.sig,.one (.int .i64)] [] (λa r=>Ie (iK.of (aC a 0)) (ar a 1)) (λX=>.dv [.agg (iK.cells (X.1)),.int .u32 (X.2)]) (λX=>[])
theorem Zfy:bm pG Zl0:=oS (.nil) Tryz.func195 Tryz.call195 [] [] 2 (λ_ _ _=>by kernel_rfl) (λa r=>Za8 (iK.of (aC a 0)) (ar a 1)) (λ_ X=>by kernel_rfl)
def SH(t:iT):Tree Int:=
.br t.E0 (.lf 1) (.lf 0)
def WG t:=(SH t).m
def Zt3:bc:=mS 196 [] true [.agg iT.sig] [] (λa r=>SH (iT.of (aC a 0))) (λX=>.int .u32 X) (λX=>[])
theorem Zlz:bm pG Zt3:=oS (.nil) Tryz.func196 Tryz.call196 [] [] 2
def SI(d0:fw)(port:Int):Tree Int:=
.br (port==4) (.lf d0.C9) (.br (port==5) (.lf d0.Frame) (.br (port==6) (.lf (wrap u32 d0.C8)) (.lf 0)))
def Nv d0 port:=(SI d0 port).m
def qD:bc:=mS 197 [] true [.agg fw.sig,.one (.int .i64)] [] (λa r=>SI (fw.of (aC a 0)) (ar a 1)) (λX=>.int .u32 X) (λX=>[])
theorem Zs0:bm pG qD:=oS (.nil) Tryz.func197 Tryz.call197 [] [] 2
def Nw(n:gw)(port:Int):Tree Int:=
.br (port==7) (.lf n.Frame) (.br (port==8) (.lf n.F9) (.br (port==9) (.br n.D1 (.br n.C4 (.lf (wrap u32 (wrap u32 ((0:Int)+(1:Int))+2))) (.lf (wrap u32 ((0:Int)+(1:Int))))) (.br n.C4 (.lf (wrap u32 ((0:Int)+(2:Int)))) (.lf 0))) (.lf 0)))
def KC n port:=(Nw n port).m
def zX:bc:=mS 198 [] true [.agg gw.sig,.one (.int .i64)] [] (λa r=>Nw (gw.of (aC a 0)) (ar a 1)) (λX=>.int .u32 X) (λX=>[])
theorem xD:bm pG zX:=oS (.nil) Tryz.func198 Tryz.call198 [] [] 2
def Qd(b:gl)(port:Int):Tree Int:=
.br (port==10) (.lf b.A2) (.br (port==11) (.an (Qfb b) (.lv (S9 b) λ(x0:Int)=>.lf (wrap u32 x0))) (.lf 0))
def Xu b port:=(Qd b port).m
abbrev Qud b port:=(Qd b port).p
def Zj0:bc:=mT 199 [] true [.agg gl.sig,.one (.int .i64)] [] (λa r=>Qd (gl.of (aC a 0)) (ar a 1)) (λX=>.int .u32 X) (λX=>[])
theorem Ze:bm pG Zj0:=oT (.cons Qpr (.nil)) Tryz.func199 Tryz.call199 [] [] 2
def KB(m:bd)(port clock:Int):Tree (bd×Int):=
let T1:Tree ((bd×Int)):=.lv (Xi m.B2 port) λ(x0:iK×Int)=>.lf ({B4:=m.B4,Mem:=m.Mem,B2:=x0.1,B8:=m.B8,B5:=m.B5,D2:=m.D2,A6:=m.A6,B7:=m.B7,B3:=m.B3,B6:=m.B6},x0.2);.br (port==0) T1 (.br (port==1) T1 (.br (port==2) (.lf (m,clock)) (.br (port==3) (.lv (WG m.B8) λ(x2:Int)=>.lf (m,x2)) (.br (port==4) (.lv (Nv m.B5 port) λ(x3:Int)=>.lf (m,x3)) (.br (port==5) (.lv (Nv m.B5 port) λ(x4:Int)=>.lf (m,x4)) (.br (port==6) (.lv (Nv m.B5 port) λ(x5:Int)=>.lf (m,x5)) (.br (port==7) (.lv (KC m.D2 port) λ(x6:Int)=>.lf (m,x6)) (.br (port==8) (.lv (KC m.D2 port) λ(x7:Int)=>.lf (m,x7)) (.br (port==9) (.lv (KC m.D2 port) λ(x8:Int)=>.lf (m,x8)) (let T2:Tree ((bd×Int)):=.an (Qud m.A6 port) (.lv (Xu m.A6 port) λ(x9:Int)=>.lf (m,x9));.br (port==10) T2 (.br (port==11) T2 (.lf (m,0)))))))))))))
def uf m port clock:=(KB m port clock).m
abbrev Qht m port clock:=(KB m port clock).p
def Qw3:bc:=bc.fz<|lh 138 [] false [.agg bd.sig,.one (.int .i64),.one (.int .u32)] [] (λa r=>Qht (bd.of (aC a 0)) (ar a 1) (ar a 2)) (λa r=>uf (bd.of (aC a 0)) (ar a 1) (ar a 2)) (λX=>.dv [.agg (bd.cells (X.1)),.int .u32 (X.2)]) (λX=>[])
theorem Qw1:bm pG Qw3:=wE<|uM drawn jt (.cons Zfy (.cons Zlz (.cons Zs0 (.cons xD (.cons Ze (.nil)))))) Tryz.func138 Tryz.call138 (λa r=>KB (bd.of (aC a 0)) (ar a 1) (ar a 2)) [.sl (.ints .u32) false] [] 2 (λ_ _ _=>by kernel_rfl) (λ_ _=>rfl) (λ_ _ h=>h) (λh=>by cases h)
def SE(t:iT)(deadline:Int):Tree iT:=
.lf ({F0:=deadline !=0,D3:=deadline,E0:=false})
def Nr t deadline:=(SE t deadline).m
def Zmn:bc:=mS 200 [] true [.agg iT.sig,.one (.int .u32)] [] (λa r=>SE (iT.of (aC a 0)) (ar a 1)) (λX=>.agg (iT.cells X)) (λX=>[])
theorem Zhd:bm pG Zmn:=oS (.nil) Tryz.func200 Tryz.call200 [] [] 2
def SB(m:List Int)(frame:Int):Tree Bool:=
.lv (jL m) λ(x0:Int)=>.lf (decide (wrap u64 frame<wrap u64 x0))
def Qf m frame:=(SB m frame).m
def Zg1:bc:=mS 280 [] true [.one (.ints .u32),.one (.int .u32)] [] (λa r=>SB (dh .u32 a 0) (ar a 1)) (λX=>.bool X) (λX=>[])
theorem Z8x:bm pG Zg1:=oS (.cons Q2 (.nil)) Tryz.func280 Tryz.call280 [] [] 2
def Kt(m:List Int)(frame:Int):Tree Bool:=
.br (decide (frame>=0)) (.lv (jL m) λ(x0:Int)=>.lf (decide (frame<x0))) (.lf false)
def Ef m frame:=(Kt m frame).m
def Z3c:bc:=mS 145 [] true [.one (.ints .u32),.one (.int .i64)] [] (λa r=>Kt (dh .u32 a 0) (ar a 1)) (λX=>.bool X) (λX=>[])
theorem Qnl:bm pG Z3c:=oS (.cons Q2 (.nil)) Tryz.func145 Tryz.call145 [] [] 2
def Qq0(words:List Int)(z:(Int)×(List Int)):Prop:=0<=z.1/\z.1<=words.length/\(z.2.length:Int)=4*z.1
def Nj(words:List Int)(z:(Int)×(List Int)):Nat:=(words.length-z.1).toNat
def Eh(words:List Int):Tree (List UInt8):=
.cn (bN 0 1&&bX 1 1&&List.all [D.int u8 0] D.plain&&decide ((0:Int)<=(0:Int)/\0<=wrap i64 (4*(words.length:Int))/\wrap i64 (4*(words.length:Int))<=9223372036854775807/\(↑1:Int)*wrap i64 (4*(words.length:Int))<=140737488355328)) (.lp inferInstance (Nj words (0,[])+1) ((True/\((ai.Nil (ai.ints u32 words)\/rE (1:Nat))/\rE (words:List Int))/\rE ((words.length:Int):Int)/\rE (0:Int)/\True)/\rE ([]:List Int)/\True) (0,[]) λ(v0:Int×List Int)=>.br (decide (v0.1<(words.length:Int))) (.cn (bX 1 1&&bN 0 1&&decide (0<=v0.1/\v0.1<(words.length:Int))) (.cn (decide (1*(v0.2.length+4)<=140737488355328)) (let E1:=words.getD v0.1.toNat 0;.nx ((True/\((ai.Nil (ai.ints u32 words)\/rE (1:Nat))/\rE (words:List Int))/\rE ((words.length:Int):Int)/\rE ((wrap i64 (v0.1+1)):Int)/\True)/\rE ((v0.2++[wrap u8 (words.getD v0.1.toNat 0),wrap u8 (bb u32 (words.getD v0.1.toNat 0) 8),wrap u8 (bb u32 (words.getD v0.1.toNat 0) 16),wrap u8 (bb u32 (words.getD v0.1.toNat 0) 24)]):List Int)/\True) (Sum.inl (wrap i64 (v0.1+1),v0.2++[wrap u8 E1,wrap u8 (bb u32 E1 8),wrap u8 (bb u32 E1 16),wrap u8 (bb u32 E1 24)]))))) (.lf (Sum.inr (bytesOf v0.2))))
def Z47 words:=(Eh words).m
def Va(words:List Int):Prop:=
words.length<=1000000000000
theorem Z5j(words:List Int)(hw:Va words):(Eh words).p:=by
 simp only[Va]at hw
 unfold Tree.p Eh
 repeat'(first|refine fj (inv:=Qq0 words) (μ:=Nj words) ?_ (cN _) (λ_ _=>?_)|exact trivial|refine ab (λ_=>?_) (λ_=>?_)|refine ax ?_ ?_|refine c7 ?_ ?_|refine aq (λ_ _=>?_)|refine ez ?_|refine bh ?_|refine And.intro ?_ ?_)
 all_goals((try simp only[Qq0,Nj]at*);exact nD)
def Z9l:cg:={
 α:=(Int)×(List Int)
 F:=λst a=>([(3,.all 0),(10,(lk st 10)),(11,(lk st 11)),(12,.int i64 a.1)],[⟨false,5,1,.ints u8 a.2⟩])
 a0:=λst=>((lk st 12).toInt,(nU st.rows (rN st 3)))
 jf:=λst=>[]++[(rX st 3 0)]}
def Z32:List (Nat×cg):=[(3,Z9l)]
def Zgl:bc:=lh 146 [] true [.one (.ints .u32)] [] (λa r=>Va (dh .u32 a 0)) (λa r=>Z47 (dh .u32 a 0)) (λX=>.str X) (λX=>[])
theorem Z99:bm pG Zgl:=uM drawn jt (.nil) Tryz.func146 Tryz.call146 (λa r=>Eh (dh .u32 a 0)) [] Z32 3 (hp:=λa r h=>Z5j (dh .u32 a 0) h)
def Dl(m:List Int)(frame:Int):Tree ((List UInt8)×Bool):=
.lv (Ef m frame) λ(x0:Bool)=>.br (!x0) (.lf ([],false)) (.cn (bX 1 1&&bN 0 1&&decide (0<=wrap i64 (frame*32)/\wrap i64 (frame*32)<=wrap i64 (wrap i64 (frame*32)+32)/\wrap i64 (wrap i64 (frame*32)+32)<=(m.length:Int))) (let E1:=cU (dA (wrap i64 (wrap i64 (frame*32)+32))-dA (wrap i64 (frame*32))) (cV (dA (wrap i64 (frame*32))) m);.an (Va E1) (.lv (Z47 E1) λ(x1:List UInt8)=>.lf (x1,true))))
def jz m frame:=(Dl m frame).m
abbrev N9 m frame:=(Dl m frame).p
def Zd1:bc:=mT 99 [] true [.one (.ints .u32),.one (.int .i64)] [] (λa r=>Dl (dh .u32 a 0) (ar a 1)) (λX=>.dv [.str (X.1),.bool (X.2)]) (λX=>[])
theorem Ru:bm pG Zd1:=oT (.cons Qnl (.cons Z99 (.nil))) Tryz.func99 Tryz.call99 [] [] 2
def Qui(d0:fw)(gg:Int):Tree (ik×Bool):=
.br (d0.C8 !=1) (.lf ({C3:=0,At:=0,C9:=0,F1:=[]},false)) (.br (d0.F6==1) (.lf ({C3:=3,At:=gg,C9:=d0.C5,F1:=[]},true)) (.br (d0.F6==2) (.lf ({C3:=4,At:=gg,C9:=d0.C5,F1:=d0.C7},true)) (.lf ({C3:=0,At:=0,C9:=0,F1:=[]},false))))
def Xn d0 gg:=(Qui d0 gg).m
def Z93:bc:=mS 281 [] true [.agg fw.sig,.one (.int .u64)] [] (λa r=>Qui (fw.of (aC a 0)) (ar a 1)) (λX=>.dv [.agg (ik.cells (X.1)),.bool (X.2)]) (λX=>[])
theorem Z5w:bm pG Z93:=oS (.nil) Tryz.func281 Tryz.call281 [] [] 2
def Kv(d0:fw)(m:List Int)(cmd gg:Int):Tree (fw×(List ik)):=
.br (d0.C8 !=0) (.lf (d0,[])) (let T1:Tree ((fw×(List ik))):=.lf ({ae:=d0.ae,C9:=d0.C9,Frame:=d0.Frame,C8:=3,F6:=d0.F6,C5:=d0.C5,C6:=d0.C6,C7:=d0.C7},[]);.br (decide (d0.C9>=d0.ae)) T1 (.lv (Qf m d0.Frame) λ(x0:Bool)=>.br (!x0) T1 (.br (cmd==2) (.an (N9 m (wrap i64 d0.Frame)) (.lv (jz m (wrap i64 d0.Frame)) λ(x1:List UInt8×Bool)=>.lv (Xn {ae:=d0.ae,C9:=d0.C9,Frame:=d0.Frame,C8:=1,F6:=cmd,C5:=d0.C9,C6:=d0.Frame,C7:=x1.1} gg) λ(x2:ik×Bool)=>.lf ({ae:=d0.ae,C9:=d0.C9,Frame:=d0.Frame,C8:=1,F6:=cmd,C5:=d0.C9,C6:=d0.Frame,C7:=x1.1},[x2.1]))) (.lv (Xn {ae:=d0.ae,C9:=d0.C9,Frame:=d0.Frame,C8:=1,F6:=cmd,C5:=d0.C9,C6:=d0.Frame,C7:=[]} gg) λ(x3:ik×Bool)=>.lf ({ae:=d0.ae,C9:=d0.C9,Frame:=d0.Frame,C8:=1,F6:=cmd,C5:=d0.C9,C6:=d0.Frame,C7:=[]},[x3.1])))))
def Qzr d0 m cmd gg:=(Kv d0 m cmd gg).m
abbrev Qun d0 m cmd gg:=(Kv d0 m cmd gg).p
def Zjs:bc:=mT 250 [] true [.agg fw.sig,.one (.ints .u32),.one (.int .i64),.one (.int .u64)] [] (λa r=>Kv (fw.of (aC a 0)) (dh .u32 a 1) (ar a 2) (ar a 3)) (λX=>.dv [.agg (fw.cells (X.1)),.sl 4 (.ah .bu (X.2)) true]) (λX=>[])
theorem Zee:bm pG Zjs:=oT (.cons Z8x (.cons Ru (.cons Z5w (.nil)))) Tryz.func250 Tryz.call250 [.sl (.ah .bu) true] [] 2
def Qj(d0:fw)(m:List Int)(port v gg:Int):Tree (fw×(List ik)):=
.br (port==4) (.lf ({ae:=d0.ae,C9:=v,Frame:=d0.Frame,C8:=d0.C8,F6:=d0.F6,C5:=d0.C5,C6:=d0.C6,C7:=d0.C7},[])) (.br (port==5) (.lf ({ae:=d0.ae,C9:=d0.C9,Frame:=v,C8:=d0.C8,F6:=d0.F6,C5:=d0.C5,C6:=d0.C6,C7:=d0.C7},[])) (.br (port==6) (let T1:Tree ((fw×(List ik))):=.an (Qun d0 m (wrap i64 v) gg) (.lv (Qzr d0 m (wrap i64 v) gg) λ(x0:fw×List ik)=>.lf (x0.1,x0.2));.br (v==1) T1 (.br (v==2) T1 (.br (v==0) (.lv (Kw d0) λ(x2:Bool)=>.br x2 (.lf ({ae:=d0.ae,C9:=d0.C9,Frame:=d0.Frame,C8:=0,F6:=d0.F6,C5:=d0.C5,C6:=d0.C6,C7:=d0.C7},[])) (.lf (d0,[]))) (.lf (d0,[]))))) (.lf (d0,[]))))
def Xl d0 m port v gg:=(Qj d0 m port v gg).m
abbrev Z1p d0 m port v gg:=(Qj d0 m port v gg).p
def Zr0:bc:=mT 201 [] true [.agg fw.sig,.one (.ints .u32),.one (.int .i64),.one (.int .u32),.one (.int .u64)] [] (λa r=>Qj (fw.of (aC a 0)) (dh .u32 a 1) (ar a 2) (ar a 3) (ar a 4)) (λX=>.dv [.agg (fw.cells (X.1)),.sl 4 (.ah .bu (X.2)) true]) (λX=>[])
theorem Znp:bm pG Zr0:=oT (.cons Zee (.cons Qqy (.nil))) Tryz.func201 Tryz.call201 [.sl (.ah .bu) true] [] 2
def SC(m:List Int)(frame:Int):Tree Bool:=
.lv (jL m) λ(x0:Int)=>.lf (decide (wrap u64 frame<wrap u64 x0))
def Ku m frame:=(SC m frame).m
def Zgz:bc:=mS 253 [] true [.one (.ints .u32),.one (.int .u32)] [] (λa r=>SC (dh .u32 a 0) (ar a 1)) (λX=>.bool X) (λX=>[])
theorem Qxk:bm pG Zgz:=oS (.cons Q2 (.nil)) Tryz.func253 Tryz.call253 [] [] 2
def Kx(n:gw)(m:List Int)(gg:Int):Tree (List ik):=
.br (decide (n.F7<1)) (.lf ([])) (.br (decide (n.F7>128)) (.lf ([])) (.lv (Ku m n.Frame) λ(x0:Bool)=>.br (!x0) (.lf ([])) (.an (N9 m (wrap i64 n.Frame)) (.lv (jz m (wrap i64 n.Frame)) λ(x1:List UInt8×Bool)=>.cn (decide ((0:Int)<=(0:Int)/\0<=n.F7/\n.F7<=(x1.1.length:Int))) (.lf ([{C3:=2,At:=gg,C9:=0,F1:=cU (dA n.F7-dA 0) (cV (dA 0) x1.1)}]))))))
def Zd7 n m gg:=(Kx n m gg).m
abbrev Z23 n m gg:=(Kx n m gg).p
def Zqm:bc:=mT 252 [] true [.agg gw.sig,.one (.ints .u32),.one (.int .u64)] [] (λa r=>Kx (gw.of (aC a 0)) (dh .u32 a 1) (ar a 2)) (λX=>.sl 4 (.ah .bu X) true) (λX=>[])
theorem Zo8:bm pG Zqm:=oT (.cons Qxk (.cons Ru (.nil))) Tryz.func252 Tryz.call252 [.sl (.ah .bu) true] [] 2
def Ky(n:gw)(m:List Int)(port v gg:Int):Tree (gw×(List ik)):=
.br (port==7) (.lf ({Frame:=v,F7:=n.F7,D1:=n.D1,D4:=n.D4,C4:=n.C4,F9:=n.F9},[])) (.br (port==8) (.lf ({Frame:=n.Frame,F7:=v,D1:=n.D1,D4:=n.D4,C4:=n.C4,F9:=n.F9},[])) (.br (port==9) (.br (v==1) (.an (Z23 n m gg) (.lv (Zd7 n m gg) λ(x0:List ik)=>.lf (n,x0))) (.br (v==2) (.lv (Ku m n.Frame) λ(x1:Bool)=>.br x1 (.br (!n.D1) (.br (!n.C4) (.lf ({Frame:=n.Frame,F7:=n.F7,D1:=true,D4:=n.Frame,C4:=n.C4,F9:=n.F9},[])) (.lf (n,[]))) (.lf (n,[]))) (.lf (n,[]))) (.br (v==0) (.lf ({Frame:=n.Frame,F7:=n.F7,D1:=n.D1,D4:=n.D4,C4:=false,F9:=0},[])) (.lf (n,[]))))) (.lf (n,[]))))
def Xp n m port v gg:=(Ky n m port v gg).m
abbrev Z4g n m port v gg:=(Ky n m port v gg).p
def zD:bc:=mT 202 [] true [.agg gw.sig,.one (.ints .u32),.one (.int .i64),.one (.int .u32),.one (.int .u64)] [] (λa r=>Ky (gw.of (aC a 0)) (dh .u32 a 1) (ar a 2) (ar a 3) (ar a 4)) (λX=>.dv [.agg (gw.cells (X.1)),.sl 4 (.ah .bu (X.2)) true]) (λX=>[])
theorem Zsw:bm pG zD:=oT (.cons Zo8 (.cons Qxk (.nil))) Tryz.func202 Tryz.call202 [.sl (.ah .bu) true] [] 2
def WB(m:List Int)(frame:Int)(s:List UInt8)(z:(Int)×(List Int)):Nat:=(32-z.1).toNat
def H9(m:List Int)(frame:Int)(s:List UInt8):Tree ((List Int)×Bool):=
.an (nH m) (.lv (ko m) λ(x0:List Int)=>.lv (Ef m frame) λ(x1:Bool)=>.br (!x1) (.lf (x0,false)) (.br ((s.length:Int) !=(128:Int)) (.lf (x0,false)) (.lp inferInstance (WB m frame s (0,x0)+1) ((rE (s:List UInt8)/\True/\rE ((wrap i64 (frame*32)):Int)/\rE (0:Int)/\True)/\rE (x0:List Int)/\True) (0,x0) λ(v0:Int×List Int)=>.br (decide (v0.1<32)) (.cn (decide (0<=wrap i64 (4*v0.1)/\wrap i64 (4*v0.1)<=wrap i64 (wrap i64 (4*v0.1)+4)/\wrap i64 (wrap i64 (4*v0.1)+4)<=(s.length:Int))) (let E1:=cU (dA (wrap i64 (wrap i64 (4*v0.1)+4))-dA (wrap i64 (4*v0.1))) (cV (dA (wrap i64 (4*v0.1))) s);.cn (decide ((0:Int)<=(0:Int)/\0<(↑(dF E1):Int))) (.cn (decide ((0:Int)<=(1:Int)/\1<(↑(dF E1):Int))) (.cn (decide ((0:Int)<=(2:Int)/\2<(↑(dF E1):Int))) (.cn (decide ((0:Int)<=(3:Int)/\3<(↑(dF E1):Int))) (.cn (bX 1 1&&bN 0 1&&decide (0<=wrap i64 (wrap i64 (frame*32)+v0.1)/\wrap i64 (wrap i64 (frame*32)+v0.1)<(v0.2.length:Int))) (.nx ((rE (s:List UInt8)/\True/\rE ((wrap i64 (frame*32)):Int)/\rE ((wrap i64 (v0.1+1)):Int)/\True)/\rE ((dB v0.2 (dA (wrap i64 (wrap i64 (frame*32)+v0.1))) (iH u32 (iH u32 (iH u32 (wrap u32 (↑(hY (aV (cU (dA (wrap i64 (wrap i64 (4*v0.1)+4))-dA (wrap i64 (4*v0.1))) (cV (dA (wrap i64 (4*v0.1))) s)) (dA 0) (0:UInt8))):Int)) (ep u32 (wrap u32 (↑(hY (aV (cU (dA (wrap i64 (wrap i64 (4*v0.1)+4))-dA (wrap i64 (4*v0.1))) (cV (dA (wrap i64 (4*v0.1))) s)) (dA 1) (0:UInt8))):Int)) 8)) (ep u32 (wrap u32 (↑(hY (aV (cU (dA (wrap i64 (wrap i64 (4*v0.1)+4))-dA (wrap i64 (4*v0.1))) (cV (dA (wrap i64 (4*v0.1))) s)) (dA 2) (0:UInt8))):Int)) 16)) (ep u32 (wrap u32 (↑(hY (aV (cU (dA (wrap i64 (wrap i64 (4*v0.1)+4))-dA (wrap i64 (4*v0.1))) (cV (dA (wrap i64 (4*v0.1))) s)) (dA 3) (0:UInt8))):Int)) 24))):List Int)/\True) (Sum.inl (wrap i64 (v0.1+1),dB v0.2 (dA (wrap i64 (wrap i64 (frame*32)+v0.1))) (iH u32 (iH u32 (iH u32 (wrap u32 (↑(hY (aV E1 (dA 0) (0:UInt8))):Int)) (ep u32 (wrap u32 (↑(hY (aV E1 (dA 1) (0:UInt8))):Int)) 8)) (ep u32 (wrap u32 (↑(hY (aV E1 (dA 2) (0:UInt8))):Int)) 16)) (ep u32 (wrap u32 (↑(hY (aV E1 (dA 3) (0:UInt8))):Int)) 24))))))))))) (.lf (Sum.inr (v0.2,true))))))
def rA m frame s:=(H9 m frame s).m
abbrev Ty m frame s:=(H9 m frame s).p
def Z0y:cg:={
 α:=(Int)×(List Int)
 F:=λst a=>([(2,(lk st 2)),(8,.all 0),(9,(lk st 9)),(26,.int i64 a.1)],[⟨false,25,1,.ints u32 a.2⟩])
 a0:=λst=>((lk st 26).toInt,(nU st.rows (rN st 8)))
 jf:=λst=>[]++[(rX st 8 0)]}
def Qvx:List (Nat×cg):=[(6,Z0y)]
def Z34:bc:=mT 205 [] true [.one (.ints .u32),.one (.int .i64),.one (.str)] [] (λa r=>H9 (dh .u32 a 0) (ar a 1) (jy a 2)) (λX=>.dv [.all 0,.bool (X.2)]) (λX=>[⟨false,25,1,.ints .u32 (X.1)⟩])
theorem Qnp:bm pG Z34:=oT (.cons JD (.cons Qnl (.nil))) Tryz.func205 Tryz.call205 [.row 25 1 (.ints .u32)] Qvx 3
def strings_Repeat(s:List UInt8)(count:Int):(List UInt8):=
Lib.repeatL s count.toNat
def Qds(s:List UInt8)(count:Int):Prop:=
0<=count/\count<=9223372036854775807/\s.length*count.toNat<=140737488355328
def Qju(s:List UInt8)(count:Int):List D:=[.str s,.int .i64 count]
def Qkm(s:List UInt8)(count:Int):List Row:=[]
def Qec(X:List UInt8):D:=.str X
def Qe6(X:List UInt8):List Row:=[]
def Qlh:List PT:=[.one (.str),.one (.int .i64)]
def Qja:List RT:=[]
def Qxu(args:List D)(rows:List Row):(List UInt8):=strings_Repeat (jy args 0) (ar args 1)
def Qwz(args:List D)(rows:List Row):Prop:=Qds (jy args 0) (ar args 1)
def Z2t:bc:=lh 254 [] true Qlh Qja Qwz Qxu Qec Qe6
theorem Qtz(s:List UInt8)(count:Int)(hw:Qds s count):kg pG 254 (Qju s count) (Qkm s count) (Qec (strings_Repeat s count)) (Qe6 (strings_Repeat s count)):=by
 exact zd Tryz.strings_Repeat hw.1 hw.2.1 hw.2.2
set_option maxRecDepth 100000 in
theorem Qv7(args:List D)(rows:List Row):kN Qlh args 0=Qju (jy args 0) (ar args 1):=by kernel_rfl
set_option maxRecDepth 100000 in
theorem Qu5(args:List D)(rows:List Row):kh Qja rows 0=Qkm (jy args 0) (ar args 1):=by kernel_rfl
set_option maxRecDepth 100000 in
theorem Qz4(X:List UInt8):(sV (Qec X)&&jo (Qe6 X))=true:=by kernel_rfl
theorem Qzz:bm pG Z2t:=Fo Tryz.call254 (λargs rows hp=>by rw[Qv7 args rows,Qu5 args rows];exact Qtz (jy args 0) (ar args 1) hp) (λ_ X=>Qz4 X)
def Dp(b:gl)(m:List Int)(port v:Int):Tree (gl×(List Int)):=
let T1:Tree ((gl×(List Int))):=.an (nH m) (.lv (ko m) λ(x0:List Int)=>.lf (b,x0));.br (decide (v>=32)) T1 (.cn (decide (0<=v)) (.br (port==10) (.lv (jL m) λ(x1:Int)=>.br (decide (wrap i64 v<x1)) (.br (ba u32 b.D0 (ep u32 1 v)==0) (.an (Qds [(0:UInt8)] 128) (.lv (strings_Repeat [(0:UInt8)] 128) λ(x2:List UInt8)=>.an (Ty m (wrap i64 v) x2) (.lv (rA m (wrap i64 v) x2) λ(x3:List Int×Bool)=>.lf ({A2:=b.A2,D0:=iH u32 b.D0 (ep u32 1 v)},x3.1)))) T1) T1) (.br (port==11) (.an (nH m) (.lv (ko m) λ(x6:List Int)=>.lf ({A2:=b.A2,D0:=oD u32 b.D0 (ep u32 1 v)},x6))) T1)))
def Gv b m port v:=(Dp b m port v).m
abbrev Qrx b m port v:=(Dp b m port v).p
def Zes:bc:=mT 203 [] true [.agg gl.sig,.one (.ints .u32),.one (.int .i64),.one (.int .u32)] [] (λa r=>Dp (gl.of (aC a 0)) (dh .u32 a 1) (ar a 2) (ar a 3)) (λX=>.dv [.agg (gl.cells (X.1)),.all 0]) (λX=>[⟨false,25,1,.ints .u32 (X.2)⟩])
theorem Za9:bm pG Zes:=oT (.cons JD (.cons Q2 (.cons Qnp (.cons Qzz (.nil))))) Tryz.func203 Tryz.call203 [.row 25 1 (.ints .u32)] [] 2
def KA(m:bd)(port v gg:Int):Tree (bd×(List ik)):=
.br (port==0) (.lf (m,[{C3:=1,At:=gg,C9:=0,F1:=[(λ(n:Int)=>UInt8.ofNat n.toNat) (wrap u8 v)]}])) (.br (port==3) (.lv (Nr m.B8 v) λ(x0:iT)=>.lf ({B4:=m.B4,Mem:=m.Mem,B2:=m.B2,B8:=x0,B5:=m.B5,D2:=m.D2,A6:=m.A6,B7:=m.B7,B3:=m.B3,B6:=m.B6},[])) (let T1:Tree ((bd×(List ik))):=.an (Z1p m.B5 m.Mem port v gg) (.lv (Xl m.B5 m.Mem port v gg) λ(x1:fw×List ik)=>.lf ({B4:=m.B4,Mem:=m.Mem,B2:=m.B2,B8:=m.B8,B5:=x1.1,D2:=m.D2,A6:=m.A6,B7:=m.B7,B3:=m.B3,B6:=m.B6},x1.2));.br (port==4) T1 (.br (port==5) T1 (.br (port==6) T1 (let T2:Tree ((bd×(List ik))):=.an (Z4g m.D2 m.Mem port v gg) (.lv (Xp m.D2 m.Mem port v gg) λ(x4:gw×List ik)=>.lf ({B4:=m.B4,Mem:=m.Mem,B2:=m.B2,B8:=m.B8,B5:=m.B5,D2:=x4.1,A6:=m.A6,B7:=m.B7,B3:=m.B3,B6:=m.B6},x4.2));.br (port==7) T2 (.br (port==8) T2 (.br (port==9) T2 (let T3:Tree ((bd×(List ik))):=.an (Qrx m.A6 m.Mem port v) (.lv (Gv m.A6 m.Mem port v) λ(x7:gl×List Int)=>.lf ({B4:=m.B4,Mem:=x7.2,B2:=m.B2,B8:=m.B8,B5:=m.B5,D2:=m.D2,A6:=x7.1,B7:=m.B7,B3:=m.B3,B6:=m.B6},[]));.br (port==10) T3 (.br (port==11) T3 (.lf (m,[])))))))))))
def Eu m port v gg:=(KA m port v gg).m
abbrev Qgd m port v gg:=(KA m port v gg).p
def Qv:bc:=bc.fz<|lh 139 [] false [.agg bd.sig,.one (.int .i64),.one (.int .u32),.one (.int .u64)] [] (λa r=>Qgd (bd.of (aC a 0)) (ar a 1) (ar a 2) (ar a 3)) (λa r=>Eu (bd.of (aC a 0)) (ar a 1) (ar a 2) (ar a 3)) (λX=>.dv [.agg (bd.cells (X.1)),.sl 4 (.ah .bu (X.2)) true]) (λX=>[])
theorem Qu6:bm pG Qv:=wE<|uM drawn jt (.cons Zhd (.cons Znp (.cons Zsw (.cons Za9 (.nil))))) Tryz.func139 Tryz.call139 (λa r=>KA (bd.of (aC a 0)) (ar a 1) (ar a 2) (ar a 3)) [.sl (.ints .u32) false,.sl (.ah .bu) true] [] 2 (λ_ _ _=>by kernel_rfl) (λ_ _=>rfl) (λ_ _ h=>h) (λh=>by cases h)
def Nz(m:bd)(clock:Int):Tree (bd×(List ik)):=
.an (nH m.Mem) (.lv (ko m.Mem) λ(x0:List Int)=>let E1:=({B4:=m.B4,Mem:=x0,B2:=m.B2,B8:=m.B8,B5:=m.B5,D2:=m.D2,A6:=m.A6,B7:=m.B7,B3:=m.B3,B6:=m.B6}:bd);.an (Qpp E1) (.lv (En E1) λ(x1:Bool)=>.br (!x1) (.lf (E1,[])) (.an (Qnm E1) (.lv (oW E1) λ(x2:bd)=>.an (Z1c x2.B4 x2.Mem) (.lv (BR x2.B4 x2.Mem) λ(x3:bq×List Int×lj)=>let E2:=({B4:=x3.1,Mem:=x3.2.1,B2:=x2.B2,B8:=x2.B8,B5:=x2.B5,D2:=x2.D2,A6:=x2.A6,B7:=x2.B7,B3:=x2.B3,B6:=x2.B6}:bd);.br (x3.2.2.C3==1) (.an (Qht E2 x3.2.2.D8 clock) (.lv (uf E2 x3.2.2.D8 clock) λ(x4:bd×Int)=>.br (x3.2.2.F8 !=0) (.cn (bN 0 1&&decide (0<=x3.2.2.F8/\x3.2.2.F8<(↑16:Int))) (.lf ({B4:={X:=iv.of 0 (dB (iv.l x4.1.B4.X) x3.2.2.F8.toNat x4.2),Pc:=x4.1.B4.Pc,C2:=x4.1.B4.C2},Mem:=x4.1.Mem,B2:=x4.1.B2,B8:=x4.1.B8,B5:=x4.1.B5,D2:=x4.1.D2,A6:=x4.1.A6,B7:=wrap u64 (x4.1.B7+1),B3:=x4.1.B3,B6:=x4.1.B6},[]))) (.lf ({B4:=x4.1.B4,Mem:=x4.1.Mem,B2:=x4.1.B2,B8:=x4.1.B8,B5:=x4.1.B5,D2:=x4.1.D2,A6:=x4.1.A6,B7:=wrap u64 (x4.1.B7+1),B3:=x4.1.B3,B6:=x4.1.B6},[])))) (.br (x3.2.2.C3==2) (.an (Qgd E2 x3.2.2.D8 x3.2.2.Value m.B7) (.lv (Eu E2 x3.2.2.D8 x3.2.2.Value m.B7) λ(x5:bd×List ik)=>.lf ({B4:=x5.1.B4,Mem:=x5.1.Mem,B2:=x5.1.B2,B8:=x5.1.B8,B5:=x5.1.B5,D2:=x5.1.D2,A6:=x5.1.A6,B7:=wrap u64 (x5.1.B7+1),B3:=x5.1.B3,B6:=x5.1.B6},x5.2))) (.br (x3.2.2.C3==3) (.lf ({B4:=x3.1,Mem:=x3.2.1,B2:=x2.B2,B8:=x2.B8,B5:=x2.B5,D2:=x2.D2,A6:=x2.A6,B7:=wrap u64 (x2.B7+1),B3:=true,B6:=x2.B6},[])) (.br (x3.2.2.C3==4) (.lf ({B4:=x3.1,Mem:=x3.2.1,B2:=x2.B2,B8:=x2.B8,B5:=x2.B5,D2:=x2.D2,A6:=x2.A6,B7:=wrap u64 (x2.B7+1),B3:=x2.B3,B6:=true},[])) (.lf ({B4:=x3.1,Mem:=x3.2.1,B2:=x2.B2,B8:=x2.B8,B5:=x2.B5,D2:=x2.D2,A6:=x2.A6,B7:=wrap u64 (x2.B7+1),B3:=x2.B3,B6:=x2.B6},[]))))))))))
def AO m clock:=(Nz m clock).m
abbrev Tt m clock:=(Nz m clock).p
def Zab:bc:=bc.fz<|lh 92 [] false [.agg bd.sig,.one (.int .u32)] [] (λa r=>Tt (bd.of (aC a 0)) (ar a 1)) (λa r=>AO (bd.of (aC a 0)) (ar a 1)) (λX=>.dv [.agg (bd.cells (X.1)),.sl 4 (.ah .bu (X.2)) false]) (λX=>[])
theorem Z7t:bm pG Zab:=wE<|uM drawn jt (.cons JD (.cons Z5 (.cons Z3d (.cons Zls (.cons Qw1 (.cons Qu6 (.nil))))))) Tryz.func92 Tryz.call92 (λa r=>Nz (bd.of (aC a 0)) (ar a 1)) [.sl (.ints .u32) false,.sl (.ah .bu) false] [] 2 (λ_ _ _=>by kernel_rfl) (λ_ _=>rfl) (λ_ _ h=>h) (λh=>by cases h)
end
noncomputable section
def Z6x(op:Int):Tree Int:=
let T1:Tree (Int):=.br (op==49) (.lf 3) (let T2:Tree (Int):=.br (op==24) (.lf 6) (.br (op==48) (.lf 7) (.br (op==58) (.lf 8) (.br (op==59) (.lf 8) (.br (op==60) (.lf 9) (.br (op==61) (.lf 9) (.br (op==56) (.lf 1) (.br (op==57) (.lf 1) (.br (decide (op>=62)) (.br (decide (op<=64)) (.lf 1) (.lf 0)) (.lf 0)))))))));.br (decide (op>=17)) (.br (decide (op<=19)) (.lf 4) (.br (decide (op>=20)) (.br (decide (op<=22)) (.lf 5) T2) T2)) (.br (decide (op>=20)) (.br (decide (op<=22)) (.lf 5) T2) T2));let T3:Tree (Int):=.br (op==16) (.lf 3) (.br (op==23) (.lf 3) (.br (decide (op>=32)) (.br (decide (op<=36)) (.lf 3) (.br (decide (op>=40)) (.br (decide (op<=45)) (.lf 3) T1) T1)) (.br (decide (op>=40)) (.br (decide (op<=45)) (.lf 3) T1) T1)));.br (decide (op>=1)) (.br (decide (op<=13)) (.lf 2) T3) T3
def oE op:=(Z6x op).m
def Zob:bc:=mS 178 [] true [.one (.int .i64)] [] (λa r=>Z6x (ar a 0)) (λX=>.int .i64 X) (λX=>[])
theorem Rv:bm pG Zob:=oS (.nil) Tryz.func178 Tryz.call178 [] [] 2
def SP(r:Int):Tree Bool:=
.br (decide (r>=0)) (.lf (decide (r<=15))) (.lf false)
def KK r:=(SP r).m
def Z4n:bc:=mS 233 [] true [.one (.int .i64)] [] (λa r=>SP (ar a 0)) (λX=>.bool X) (λX=>[])
theorem Z3h:bm pG Z4n:=oS (.nil) Tryz.func233 Tryz.call233 [] [] 2
def WS(f:Int):Tree (Int×Int):=
.br (f==3) (.lf ((-32768),32767)) (.br (f==7) (.lf ((-32768),32767)) (.br (f==4) (.lf (0,65535)) (.br (f==6) (.lf (0,65535)) (.br (f==5) (.lf (0,31)) (.br (f==8) (.lf (0,7)) (.br (f==9) (.lf (0,11)) (.lf (0,0))))))))
def WR f:=(WS f).m
def Zg:bc:=mS 179 [] true [.one (.int .i64)] [] (λa r=>WS (ar a 0)) (λX=>.dv [.int .i64 (X.1),.int .i64 (X.2)]) (λX=>[])
theorem Quq:bm pG Zg:=oS (.nil) Tryz.func179 Tryz.call179 [] [] 2
def ND(i:gv):Tree Bool:=
.lv (oE i.Op) λ(x0:Int)=>.br (x0==0) (.lf false) (.lv (KK i.A) λ(x1:Bool)=>.br (!x1) (.lf false) (.lv (KK i.B) λ(x2:Bool)=>.br (!x2) (.lf false) (.lv (KK i.C) λ(x3:Bool)=>.br (!x3) (.lf false) (.lv (WR x0) λ(x4:Int×Int)=>.br (decide (wrap i64 i.bz<x4.1)) (.lf false) (.br (decide (wrap i64 i.bz>x4.2)) (.lf false) (let T1:Tree (Bool):=.br (x0==1) (.br (i.A !=0) (.lf false) (.br (i.B==0) (.lf true) (.br (decide (x0>=2)) (.lf (decide (x0<=5))) (.lf false)))) (.br (i.B==0) (.lf true) (.br (decide (x0>=2)) (.lf (decide (x0<=5))) (.lf false)));.br (x0 !=2) (.br (i.C !=0) (.lf false) T1) T1))))))
def Ep i:=(ND i).m
def Zhv:bc:=mS 177 [] true [.agg gv.sig] [] (λa r=>ND (gv.of (aC a 0))) (λX=>.bool X) (λX=>[])
theorem Qy3:bm pG Zhv:=oS (.cons Rv (.cons Z3h (.cons Quq (.nil)))) Tryz.func177 Tryz.call177 [] [] 2
def Sv(i:gv):Tree (Int×Bool):=
.lv (Ep i) λ(x0:Bool)=>.br (!x0) (.lf (0,false)) (.lf (iH u32 (iH u32 (iH u32 (iH u32 (ep u32 (wrap u32 i.Op) 24) (ep u32 (wrap u32 i.A) 20)) (ep u32 (wrap u32 i.B) 16)) (ba u32 (wrap u32 i.bz) 65535)) (wrap u32 i.C),true))
def oC i:=(Sv i).m
def Zep:bc:=mS 125 [] true [.agg gv.sig] [] (λa r=>Sv (gv.of (aC a 0))) (λX=>.dv [.int .u32 (X.1),.bool (X.2)]) (λX=>[])
theorem Qme:bm pG Zep:=oS (.cons Qy3 (.nil)) Tryz.func125 Tryz.call125 [] [] 2
def Zcu:Tree (List Int):=
.lf ([1,2,3,4,5,6,7,8,9,10,11,12,13,16,16,17,18,19,20,21,22,23,24,24,32,32,33,34,35,35,36,40,41,42,43,44,45,48,49,56,57,58,59,60,60,61,61,62,63,64])
def Zgj:(List Int):=(Zcu).m
def Zro:bc:=mS 180 [] true [] [] (λa r=>Zcu) (λX=>.sl 1 (.ints .i64 X) true) (λX=>[])
theorem Znk:bm pG Zro:=oS (.nil) Tryz.func180 Tryz.call180 [.sl (.ints .i64) true] [] 2
def Z4d(Da:Int):Tree (Int×Int):=
let E1:=wrap u64 (ri u64 (wrap u64 (Da+11400714819323198485)) (bb u64 (wrap u64 (Da+11400714819323198485)) 30)*13787848793156543929);let E2:=wrap u64 (ri u64 E1 (bb u64 E1 27)*10723151780598845931);.lf (ri u64 E2 (bb u64 E2 31),wrap u64 (Da+11400714819323198485))
def Zjw Da:=(Z4d Da).m
def Zmh:bc:=mS 89 [] true [.one (.int .u64)] [] (λa r=>Z4d (ar a 0)) (λX=>.dv [.int .u64 (X.1),.int .u64 (X.2)]) (λX=>[])
theorem Zkp:bm pG Zmh:=oS (.nil) Tryz.func89 Tryz.call89 [] [] 2
def TQ(n k:Int):Tree Int:=
.lv (Zjw (ri u64 (wrap u64 n) (wrap u64 (wrap u64 k*11400714819323198485)))) λ(x0:Int×Int)=>.lf (wrap i64 (bb u64 x0.1 1))
def TP n k:=(TQ n k).m
def Zqu:bc:=mS 42 [] true [.one (.int .i64),.one (.int .i64)] [] (λa r=>TQ (ar a 0) (ar a 1)) (λX=>.int .i64 X) (λX=>[])
theorem Qvr:bm pG Zqu:=oS (.cons Zkp (.nil)) Tryz.func42 Tryz.call42 [] [] 2
def Qra(n k:Int):Tree Int:=
.cn (decide (k≠0)) (.br (decide (cZ n k<0)) (.lf (wrap i64 (cZ n k+k))) (.lf (cZ n k)))
def Fp n k:=(Qra n k).m
abbrev Jz n k:=(Qra n k).p
def Zld:bc:=mT 28 [] true [.one (.int .i64),.one (.int .i64)] [] (λa r=>Qra (ar a 0) (ar a 1)) (λX=>.int .i64 X) (λX=>[])
theorem Qwk:bm pG Zld:=oT (.nil) Tryz.func28 Tryz.call28 [] [] 2
def U0(n:Int):Tree gv:=
.lv Zgj λ(x0:List Int)=>.lv (TP n 1) λ(x1:Int)=>.an (Jz x1 (x0.length:Int)) (.lv (Fp x1 (x0.length:Int)) λ(x2:Int)=>.cn (bX 1 1&&bN 0 1&&decide (0<=x2/\x2<(x0.length:Int))) (.an (Jz (bb i64 x1 8) 6) (.lv (Fp (bb i64 x1 8) 6) λ(x3:Int)=>.an (Jz (bb i64 x1 12) 6) (.lv (Fp (bb i64 x1 12) 6) λ(x4:Int)=>.an (Jz (bb i64 x1 16) 6) (.lv (Fp (bb i64 x1 16) 6) λ(x5:Int)=>.an (Jz (bb i64 x1 20) 24) (.lv (Fp (bb i64 x1 20) 24) λ(x6:Int)=>.br (decide (x0.getD x2.toNat (0:Int)<=(13:Int))) (.lf ({Op:=x0.getD x2.toNat 0,A:=x3,B:=x4,C:=x5,bz:=0})) (let E4:=({Op:=x0.getD x2.toNat 0,A:=x3,B:=x4,C:=0,bz:=wrap i32 (wrap i64 (wrap i64 (8*x6)-32))}:gv);let T1:Tree (gv):=.br (x0.getD x2.toNat (0:Int)==(49:Int)) (.lf (E4)) (.br (x0.getD x2.toNat (0:Int)==(24:Int)) (.lf ({Op:=x0.getD x2.toNat 0,A:=x3,B:=0,C:=0,bz:=wrap i32 (wrap i64 (x6*ba i64 (bb i64 x1 40) 1))})) (let T2:Tree (gv):=let E6:=({Op:=x0.getD x2.toNat 0,A:=x3,B:=0,C:=0,bz:=wrap i32 (cZ x6 8)}:gv);.br (x0.getD x2.toNat (0:Int)==(58:Int)) (.lf (E6)) (.br (x0.getD x2.toNat (0:Int)==(59:Int)) (.lf (E6)) (let E5:=({Op:=x0.getD x2.toNat 0,A:=x3,B:=0,C:=0,bz:=wrap i32 (cZ x6 12)}:gv);.br (x0.getD x2.toNat (0:Int)==(60:Int)) (.lf (E5)) (.br (x0.getD x2.toNat (0:Int)==(61:Int)) (.lf (E5)) (.lf ({Op:=x0.getD x2.toNat 0,A:=0,B:=0,C:=0,bz:=0})))));.br (decide (x0.getD x2.toNat (0:Int)>=(17:Int))) (.br (decide (x0.getD x2.toNat (0:Int)<=(22:Int))) (.lf ({Op:=x0.getD x2.toNat 0,A:=x3,B:=x4,C:=0,bz:=wrap i32 x6})) T2) T2));let T3:Tree (gv):=.br (x0.getD x2.toNat (0:Int)==(16:Int)) (.lf (E4)) (.br (x0.getD x2.toNat (0:Int)==(23:Int)) (.lf (E4)) (.br (decide (x0.getD x2.toNat (0:Int)>=(32:Int))) (.br (decide (x0.getD x2.toNat (0:Int)<=(36:Int))) (.lf (E4)) T1) T1));.br (decide (x0.getD x2.toNat (0:Int)>=(40:Int))) (.br (decide (x0.getD x2.toNat (0:Int)<=(48:Int))) (.br (x0.getD x2.toNat (0:Int)==(48:Int)) (.lf ({Op:=x0.getD x2.toNat 0,A:=x3,B:=0,C:=0,bz:=wrap i32 (wrap i64 (x6-12))})) (.lf ({Op:=x0.getD x2.toNat 0,A:=x3,B:=x4,C:=0,bz:=wrap i32 (wrap i64 (x6-12))}))) T3) T3)))))))
def Zh0 n:=(U0 n).m
abbrev Qie n:=(U0 n).p
def Zmd:bc:=mT 127 [] true [.one (.int .i64)] [] (λa r=>U0 (ar a 0)) (λX=>.agg (gv.cells X)) (λX=>[])
theorem Zgt:bm pG Zmd:=oT (.cons Znk (.cons Qvr (.cons Qwk (.nil)))) Tryz.func127 Tryz.call127 [] [] 2
def Qu9(l:List Int)(z:(Int)×(List Int)):Prop:=0<=z.1/\z.1<=l.length/\(z.2.length:Int)=z.1
def Sw(l:List Int)(z:(Int)×(List Int)):Nat:=(l.length-z.1).toNat
def MW(l:List Int):Tree (List Int):=
.lp inferInstance (Sw l (0,[])+1) ((((ai.Nil (ai.ints i64 l)\/rE (1:Nat))/\rE (l:List Int))/\True/\rE (0:Int)/\True)/\rE ([]:List Int)/\True) (0,[]) λ(v0:Int×List Int)=>.br (decide (v0.1<(l.length:Int))) (let E1:=bX 1 1&&bN 0 1&&decide (0<=v0.1/\v0.1<(l.length:Int));.cn E1 (let E2:=decide (4*(v0.2.length+1)<=140737488355328);.br (cZ (l.getD v0.1.toNat 0) (17:Int)==(0:Int)) (.cn E1 (.cn E2 (.nx ((((ai.Nil (ai.ints i64 l)\/rE (1:Nat))/\rE (l:List Int))/\True/\rE ((wrap i64 (v0.1+1)):Int)/\True)/\rE ((v0.2++[wrap u32 (ba i64 (l.getD v0.1.toNat 0) 4294967295)]):List Int)/\True) (Sum.inl (wrap i64 (v0.1+1),v0.2++[wrap u32 (ba i64 (l.getD v0.1.toNat 0) 4294967295)]))))) (.cn E1 (.an (Qie (l.getD v0.1.toNat 0)) (.lv (Zh0 (l.getD v0.1.toNat 0)) λ(x0:gv)=>.lv (oC x0) λ(x1:Int×Bool)=>.cn E2 (.nx ((((ai.Nil (ai.ints i64 l)\/rE (1:Nat))/\rE (l:List Int))/\True/\rE ((wrap i64 (v0.1+1)):Int)/\True)/\rE ((v0.2++[x1.1]):List Int)/\True) (Sum.inl (wrap i64 (v0.1+1),v0.2++[x1.1])))))))) (.lf (Sum.inr v0.2))
def Ts l:=(MW l).m
abbrev Qp0 l:=(MW l).p
def Zhx:cg:={
 α:=(Int)×(List Int)
 F:=λst a=>([(0,(lk st 0)),(3,.all 0),(4,.int i64 a.1)],[⟨false,25,1,.ints u32 a.2⟩])
 a0:=λst=>((lk st 4).toInt,(nU st.rows (rN st 3)))
 jf:=λst=>[]++[(rX st 3 0)]}
def Zad:List (Nat×cg):=[(3,Zhx)]
def Zmm:bc:=mT 78 [] true [.one (.ints .i64)] [] (λa r=>MW (dh .i64 a 0)) (λX=>.all 0) (λX=>[⟨false,25,1,.ints .u32 X⟩])
theorem Zhl:bm pG Zmm:=oT (.cons Qme (.cons Zgt (.nil))) Tryz.func78 Tryz.call78 [.row 25 1 (.ints .u32)] Zad 3
def Sz(pc:Int):Tree bq:=
.lf ({X:={a0:=0,a1:=0,a2:=0,a3:=0,a4:=0,a5:=0,a6:=0,a7:=0,a8:=0,a9:=0,kv:=0,ky:=0,a12:=0,kz:=0,kA:=0,kB:=0},Pc:=pc,C2:={a0:=1,a1:=0,a2:=0,a3:=0,a4:=0,a5:=0,a6:=0,a7:=0}})
def Wv pc:=(Sz pc).m
def Zl3:bc:=mS 128 [] true [.one (.int .u32)] [] (λa r=>Sz (ar a 0)) (λX=>.agg (bq.cells X)) (λX=>[])
theorem Zdo:bm pG Zl3:=oS (.nil) Tryz.func128 Tryz.call128 [] [] 2
def Rk(bj:Int):Tree (List Int):=
.br (decide (bj<1)) (.lf ([])) (.br (decide (bj>32)) (.lf ([])) (.cn (bN 0 1&&bX 1 1&&List.all [D.int u32 0] D.plain&&decide (0<=wrap i64 (bj*32)/\wrap i64 (bj*32)<=wrap i64 (bj*32)/\wrap i64 (bj*32)<=9223372036854775807/\(↑4:Int)*wrap i64 (bj*32)<=140737488355328)) (.lf (List.replicate (dA (wrap i64 (bj*32))) 0))))
def SA bj:=(Rk bj).m
abbrev Qlq bj:=(Rk bj).p
def Zt7:bc:=mT 38 [] true [.one (.int .i64)] [] (λa r=>Rk (ar a 0)) (λX=>.all 0) (λX=>[⟨false,25,1,.ints .u32 X⟩])
theorem Zlo:bm pG Zt7:=oT (.nil) Tryz.func38 Tryz.call38 [.row 25 1 (.ints .u32)] [] 2
def Ge(bj blocks:Int)(image:List Int):Tree (bd×Bool):=
let T1:Tree ((bd×Bool)):=.lf ({B4:={X:={a0:=0,a1:=0,a2:=0,a3:=0,a4:=0,a5:=0,a6:=0,a7:=0,a8:=0,a9:=0,kv:=0,ky:=0,a12:=0,kz:=0,kA:=0,kB:=0},Pc:=0,C2:={a0:=0,a1:=0,a2:=0,a3:=0,a4:=0,a5:=0,a6:=0,a7:=0}},Mem:=[],B2:={D9:=[]},B8:={F0:=false,D3:=0,E0:=false},B5:={ae:=0,C9:=0,Frame:=0,C8:=0,F6:=0,C5:=0,C6:=0,C7:=[]},D2:={Frame:=0,F7:=0,D1:=false,D4:=0,C4:=false,F9:=0},A6:={A2:=0,D0:=0},B7:=0,B3:=false,B6:=false},false);.br (decide (bj<1)) T1 (.br (decide (bj>32)) T1 (.br (decide (blocks<0)) T1 (.br (decide (blocks>64)) T1 (.br (decide ((image.length:Int)>wrap i64 (bj*32))) T1 (.lv (Wv 0) λ(x0:bq)=>.an (Qlq bj) (.lv (SA bj) λ(x1:List Int)=>.lf ({B4:=x0,Mem:=cU (Min.min (image.length) (x1.length)) image++cV (Min.min (image.length) (x1.length)) x1,B2:={D9:=[]},B8:={F0:=false,D3:=0,E0:=false},B5:={ae:=wrap u32 blocks,C9:=0,Frame:=0,C8:=0,F6:=0,C5:=0,C6:=0,C7:=[]},D2:={Frame:=0,F7:=0,D1:=false,D4:=0,C4:=false,F9:=0},A6:={A2:=0,D0:=0},B7:=0,B3:=false,B6:=false},true)))))))
def kS bj blocks image:=(Ge bj blocks image).m
abbrev Vb bj blocks image:=(Ge bj blocks image).p
def Zs5:bc:=mT 79 [] true [.one (.int .i64),.one (.int .i64),.one (.ints .u32)] [] (λa r=>Ge (ar a 0) (ar a 1) (dh .u32 a 2)) (λX=>.dv [.agg (bd.cj (X.1) (.all 0)),.bool (X.2)]) (λX=>[⟨false,25,1,.ints .u32 (X.1).Mem⟩])
theorem Zn:bm pG Zs5:=oT (.cons Zdo (.cons Zlo (.nil))) Tryz.func79 Tryz.call79 [.row 25 1 (.ints .u32)] [] 2
def Qj4(a b:List Int)(z:(Int)):Prop:=0<=z/\z<=a.length/\a.length=b.length
def IN(a b:List Int)(z:(Int)):Nat:=(a.length-z).toNat
def IM(a b:List Int):Tree Bool:=
.br ((a.length:Int) !=(b.length:Int)) (.lf false) (.lp inferInstance (IN a b 0+1) ((((ai.Nil (ai.ints u32 a)\/rE (1:Nat))/\rE (a:List Int))/\((ai.Nil (ai.ints u32 b)\/rE (1:Nat))/\rE (b:List Int))/\rE (0:Int)/\True)/\True) 0 λ(v0:Int)=>.br (decide (v0<(a.length:Int))) (.cn (bX 1 1&&bN 0 1&&decide (0<=v0/\v0<(a.length:Int))) (.cn (bX 1 1&&bN 0 1&&decide (0<=v0/\v0<(b.length:Int))) (.br (a.getD v0.toNat 0 !=b.getD v0.toNat 0) (.lf (Sum.inr false)) (.nx ((((ai.Nil (ai.ints u32 a)\/rE (1:Nat))/\rE (a:List Int))/\((ai.Nil (ai.ints u32 b)\/rE (1:Nat))/\rE (b:List Int))/\rE ((wrap i64 (v0+1)):Int)/\True)/\True) (Sum.inl (wrap i64 (v0+1))))))) (.lf (Sum.inr true)))
def O3 a b:=(IM a b).m
def Vc(a b:List Int):Prop:=
a.length<=1000000000000
theorem Qy5(a b:List Int)(hw:Vc a b):(IM a b).p:=by
 simp only[Vc]at hw
 unfold Tree.p IM
 repeat'(first|refine fj (inv:=Qj4 a b) (μ:=IN a b) ?_ (cN _) (λ_ _=>?_)|exact trivial|refine ab (λ_=>?_) (λ_=>?_)|refine ax ?_ ?_|refine c7 ?_ ?_|refine aq (λ_ _=>?_)|refine ez ?_|refine bh ?_|refine And.intro ?_ ?_)
 all_goals((try simp only[Qj4,IN]at*);exact nD)
def Z0z:cg:={
 α:=(Int)
 F:=λst a=>([(0,(lk st 0)),(1,(lk st 1)),(5,.int i64 a)],[])
 a0:=λst=>(lk st 5).toInt
 jf:=λst=>[]++[]}
def Quz:List (Nat×cg):=[(4,Z0z)]
def Z2m:bc:=lh 67 [] true [.one (.ints .u32),.one (.ints .u32)] [] (λa r=>Vc (dh .u32 a 0) (dh .u32 a 1)) (λa r=>O3 (dh .u32 a 0) (dh .u32 a 1)) (λX=>.bool X) (λX=>[])
theorem Z0s:bm pG Z2m:=uM drawn jt (.nil) Tryz.func67 Tryz.call67 (λa r=>IM (dh .u32 a 0) (dh .u32 a 1)) [] Quz 3 (hp:=λa r h=>Qy5 (dh .u32 a 0) (dh .u32 a 1) h)
def O2(a b:bd):Tree Bool:=
.br (eqs [D.int u32 a.B4.X.a0,D.int u32 a.B4.X.a1,D.int u32 a.B4.X.a2,D.int u32 a.B4.X.a3,D.int u32 a.B4.X.a4,D.int u32 a.B4.X.a5,D.int u32 a.B4.X.a6,D.int u32 a.B4.X.a7,D.int u32 a.B4.X.a8,D.int u32 a.B4.X.a9,D.int u32 a.B4.X.kv,D.int u32 a.B4.X.ky,D.int u32 a.B4.X.a12,D.int u32 a.B4.X.kz,D.int u32 a.B4.X.kA,D.int u32 a.B4.X.kB,D.int u32 a.B4.Pc,D.int u32 a.B4.C2.a0,D.int u32 a.B4.C2.a1,D.int u32 a.B4.C2.a2,D.int u32 a.B4.C2.a3,D.int u32 a.B4.C2.a4,D.int u32 a.B4.C2.a5,D.int u32 a.B4.C2.a6,D.int u32 a.B4.C2.a7] [D.int u32 b.B4.X.a0,D.int u32 b.B4.X.a1,D.int u32 b.B4.X.a2,D.int u32 b.B4.X.a3,D.int u32 b.B4.X.a4,D.int u32 b.B4.X.a5,D.int u32 b.B4.X.a6,D.int u32 b.B4.X.a7,D.int u32 b.B4.X.a8,D.int u32 b.B4.X.a9,D.int u32 b.B4.X.kv,D.int u32 b.B4.X.ky,D.int u32 b.B4.X.a12,D.int u32 b.B4.X.kz,D.int u32 b.B4.X.kA,D.int u32 b.B4.X.kB,D.int u32 b.B4.Pc,D.int u32 b.B4.C2.a0,D.int u32 b.B4.C2.a1,D.int u32 b.B4.C2.a2,D.int u32 b.B4.C2.a3,D.int u32 b.B4.C2.a4,D.int u32 b.B4.C2.a5,D.int u32 b.B4.C2.a6,D.int u32 b.B4.C2.a7]) (.an (Vc a.Mem b.Mem) (.lv (O3 a.Mem b.Mem) λ(x0:Bool)=>.br x0 (.br (eqs [D.str a.B2.D9] [D.str b.B2.D9]) (.br (eqs [D.bool a.B8.F0,D.int u32 a.B8.D3,D.bool a.B8.E0] [D.bool b.B8.F0,D.int u32 b.B8.D3,D.bool b.B8.E0]) (.br (eqs [D.int u32 a.B5.ae,D.int u32 a.B5.C9,D.int u32 a.B5.Frame,D.int i64 a.B5.C8,D.int i64 a.B5.F6,D.int u32 a.B5.C5,D.int u32 a.B5.C6,D.str a.B5.C7] [D.int u32 b.B5.ae,D.int u32 b.B5.C9,D.int u32 b.B5.Frame,D.int i64 b.B5.C8,D.int i64 b.B5.F6,D.int u32 b.B5.C5,D.int u32 b.B5.C6,D.str b.B5.C7]) (.br (eqs [D.int u32 a.D2.Frame,D.int u32 a.D2.F7,D.bool a.D2.D1,D.int u32 a.D2.D4,D.bool a.D2.C4,D.int u32 a.D2.F9] [D.int u32 b.D2.Frame,D.int u32 b.D2.F7,D.bool b.D2.D1,D.int u32 b.D2.D4,D.bool b.D2.C4,D.int u32 b.D2.F9]) (.br (eqs [D.int u32 a.A6.A2,D.int u32 a.A6.D0] [D.int u32 b.A6.A2,D.int u32 b.A6.D0]) (.br (a.B7==b.B7) (.br (a.B3==b.B3) (.lf (a.B6==b.B6)) (.lf false)) (.lf false)) (.lf false)) (.lf false)) (.lf false)) (.lf false)) (.lf false)) (.lf false))) (.lf false)
def TT a b:=(O2 a b).m
abbrev Pa a b:=(O2 a b).p
def Zo9:bc:=mT 24 [] true [.agg bd.sig,.agg bd.sig] [] (λa r=>O2 (bd.of (aC a 0)) (bd.of (aC a 1))) (λX=>.bool X) (λX=>[])
theorem Z26:bm pG Zo9:=oT (.cons Z0s (.nil)) Tryz.func24 Tryz.call24 [] [] 2
