import Derived.Test.YtmalmklaonainaaGreatReplayFollowsYz
open Nat renaming blt->bT, beq->bS, lt_succ_self->cK
open List renaming length->dG, replicate->cL, take->cW, drop->cX, set->dC, getD->aK
open Int renaming toNat->dB, tdiv->eQ, tmod->dA
open UInt8 renaming ofNat->eT, toNat->eS
set_option maxRecDepth 100000
set_option linter.all false
namespace Go.Proofs.YtmalmklaonainaaGreat
open Go Go.GD Go.IntKind
noncomputable section
def Qeg(m:List Int):Tree (List Int):=
.cn (bT (0:Nat) (1:Nat)&&bS (1:Nat) (1:Nat)&&List.all [D.int u32 (0:Int)] D.plain&&decide ((0:Int)<=(m.length:Int)/\(m.length:Int)<=(m.length:Int)/\(m.length:Int)<=(9223372036854775807:Int)/\(↑(4:Nat):Int)*(m.length:Int)<=(140737488355328:Int))) (let E1:=dG (cL (dB (m.length:Int)) (0:Int)); .lf (cW (Min.min (m.length) E1) m++cX (Min.min (m.length) E1) (cL (dB (m.length:Int)) (0:Int))))
def Qtz m:=(Qeg m).m
abbrev Qun m:=(Qeg m).p
def Ziu:Q0e:=mT 122 [] true [.one (.ints .u32)] [] (λa r=>Qeg (argL .u32 a 0)) (λX=> .all 0) (λX=>[⟨false,25,1, .ints .u32 X⟩])
theorem Zfa:Q06 pG Ziu:=oT (.nil) Tryz.func122 Tryz.call122 [.row 25 1 (.ints .u32)] [] 2
def Qhs(m:Q00):Tree Q00:=
.an (Qun m.Mem) (.lv (Qtz m.Mem) λ(x0:List Int)=> .lf ({B1:=m.B1,Mem:=x0,A4:=m.A4,B0:=m.B0,B2:=m.B2,C6:=m.C6,A2:=m.A2,A1:=m.A1,A7:=m.A7,A9:=m.A9}))
def Qpo m:=(Qhs m).m
abbrev Qjp m:=(Qhs m).p
def Znj:Q0e:=mT 34 [] true [.agg Q00.sig] [] (λa r=>Qhs (Q00.of (aC a 0))) (λX=> .agg (Q00.cellsW X (.all 0))) (λX=>[⟨false,25,1, .ints .u32 X.Mem⟩])
theorem Zjm:Q06 pG Znj:=oT (.cons Zfa (.nil)) Tryz.func34 Tryz.call34 [.row 25 1 (.ints .u32)] [] 2
def Qqn(n k:Int)(z:(Int)×(List Int)):Prop:=0<=z.1/\(z.2.length:Int)=z.1/\(z.1<=k\/z.1=0)
def Qe8(n k:Int)(z:(Int)×(List Int)):Nat:=(k-z.1).toNat
def Qed(n k:Int):Tree (List UInt8):=
.lp inferInstance (Qe8 n k (0,[])+1) ((rE (n:Int)/\rE (k:Int)/\True/\rE (0:Int)/\True)/\rE ([]:List Int)/\True) (0,[]) λ(v0:Int×List Int)=> .br (decide (v0.1<k)) (.lv (Qpk n (wrap i64 (eQ v0.1 9))) λ(x0:Int)=> .cn (decide (1*(v0.2.length+1)<=140737488355328)) (.nx ((rE (n:Int)/\rE (k:Int)/\True/\rE ((wrap i64 (v0.1+1)):Int)/\True)/\rE ((v0.2++[wrap u8 x0]):List Int)/\True) (Sum.inl (wrap i64 (v0.1+1),v0.2++[wrap u8 x0])))) (.lf (Sum.inr (bytesOf v0.2)))
def Qtd n k:=(Qed n k).m
def Qa4(n k:Int):Prop:=
k<=1000000000000
theorem Z9n(n k:Int)(hw:Qa4 n k):(Qed n k).p:=by
 simp only[Qa4]at hw
 unfold Tree.p Qed
 repeat'(first|refine w_lp (inv:=Qqn n k) (μ:=Qe8 n k) ?_ (cK _) (λ_ _=> ?_)|exact trivial|refine w_br (λ_=> ?_) (λ_=> ?_)|refine w_cn ?_ ?_|refine w_an ?_ ?_|refine w_lv (λ_ _=> ?_)|refine w_nx ?_|refine w_lf ?_|refine And.intro ?_ ?_)
 all_goals((try simp only[Qqn,Qe8]at*);exact fin0)
def Zdl:LInv:={
 α:=(Int)×(List Int)
 F:=λst a=>([(0,(lk st 0)),(1,(lk st 1)),(5, .all 0),(6, .int i64 a.1)],[⟨false,5,1, .ints u8 a.2⟩])
 a0:=λst=>((lk st 6).toInt,(Q7d st.rows (rN st 5)))
 ex0:=λst=>[]++[(rX st 5 0)]}
def Z5n:List (Nat×LInv):=[(3,Zdl)]
def Zj9:Q0e:=mkP 84 [] true [.one (.int .i64), .one (.int .i64)] [] (λa r=>Qa4 (argI a 0) (argI a 1)) (λa r=>Qtd (argI a 0) (argI a 1)) (λX=> .str X) (λX=>[])
theorem Zg4:Q06 pG Zj9:=Q0p drawn Q0l (.cons Qmi (.nil)) Tryz.func84 Tryz.call84 (λa r=>Qed (argI a 0) (argI a 1)) [] Z5n 3 (hp:=λa r h=>Z9n (argI a 0) (argI a 1) h)
def Qrb(r:Q01):Tree Q01:=
.an (Qjp r.A0) (.lv (Qpo r.A0) λ(x0:Q00)=> .cn (decide (40*(0+r.B4.length)<=140737488355328)) (.cn (decide (32*(0+r.A6.length)<=140737488355328)) (.lf ({A0:=x0,A3:=r.A3,B4:=r.B4,A6:=r.A6}))))
def Z3o r:=(Qrb r).m
abbrev Z9v r:=(Qrb r).p
def Qut(e:Q0a):Tree Bool:=
.br (e.B6==1) (.lf (decide (e.C9=[]))) (.br (e.B6==6) (.lf (decide (e.C9=[]))) (.br (e.B6==2) (.br (e.N==0) (.lf (decide (e.C9=[]))) (.lf false)) (.br (e.B6==3) (.br (decide (e.N<=255)) (.lf (decide (e.C9=[]))) (.lf false)) (.br (e.B6==4) (.br (decide (e.N<=1)) (.br (decide (e.C9=[])) (.lf true) (.br (e.N==1) (.lf ((e.C9.length:Int)==(128:Int))) (.lf false))) (.lf false)) (.br (e.B6==5) (.br (e.N==0) (.br (decide ((e.C9.length:Int)>=(1:Int))) (.lf (decide ((e.C9.length:Int)<=(128:Int)))) (.lf false)) (.lf false)) (.lf false))))))
def Q1x e:=(Qut e).m
def Qqz(r:Q01)(e:Q0a):Tree (Q01×Bool):=
.an (Z9v r) (.lv (Z3o r) λ(x0:Q01)=> .lv (Q1x e) λ(x1:Bool)=> .br (!x1) (.lf (x0,false)) (.br (e.B6==1) (.lf (x0,false)) (.br (decide ((x0.A6.length:Int)>=(16:Int))) (.lf (x0,false)) (.cn (decide (32*(x0.A6.length+1)<=140737488355328)) (.lf ({A0:=x0.A0,A3:=x0.A3,B4:=x0.B4,A6:=x0.A6++[e]},true))))))
def Q28 r e:=(Qqz r e).m
def Q9b(n:Int):Tree Q0a:=
.lv (Qpk n 2) λ(x0:Int)=> .br (dA x0 (7:Int)==(0:Int)) (.lf ({B6:=2,N:=0,C9:=[]})) (.br (dA x0 (7:Int)==(1:Int)) (.lf ({B6:=3,N:=wrap u32 (iand i64 (ishr i64 x0 8) 255),C9:=[]})) (.br (dA x0 (7:Int)==(2:Int)) (.lf ({B6:=3,N:=wrap u32 (iand i64 (ishr i64 x0 8) 255),C9:=[]})) (.br (dA x0 (7:Int)==(3:Int)) (.lf ({B6:=4,N:=1,C9:=[]})) (.br (dA x0 (7:Int)==(4:Int)) (.an (Qa4 x0 128) (.lv (Qtd x0 128) λ(x1:List UInt8)=> .lf ({B6:=4,N:=1,C9:=x1}))) (.br (dA x0 (7:Int)==(5:Int)) (let E1:=wrap i64 (1+dA (ishr i64 x0 8) 40); .an (Qa4 x0 E1) (.lv (Qtd x0 E1) λ(x2:List UInt8)=> .lf ({B6:=5,N:=0,C9:=x2}))) (.br (dA (ishr i64 x0 8) (4:Int)==(0:Int)) (.lf ({B6:=4,N:=0,C9:=[]})) (.lf ({B6:=6,N:=wrap u32 (dA (ishr i64 x0 8) 3),C9:=[]}))))))))
def Qpu n:=(Q9b n).m
abbrev Qr3 n:=(Q9b n).p
def Zdx:Q0e:=mT 76 [] true [.one (.int .i64)] [] (λa r=>Q9b (argI a 0)) (λX=> .agg (Q0a.cells X)) (λX=>[])
theorem Z9s:Q06 pG Zdx:=oT (.cons Qmi (.cons Zg4 (.nil))) Tryz.func76 Tryz.call76 [] [] 2
def Qpb(m:List Int):Tree Int:=
.br (dA (m.length:Int) (32:Int) !=(0:Int)) (.lf 0) (.br (decide ((m.length:Int)>(1024:Int))) (.lf 0) (.lf (wrap i64 (eQ (m.length:Int) 32))))
def Q3x m:=(Qpb m).m
def Zgr:Q0e:=mS 93 [] true [.one (.ints .u32)] [] (λa r=>Qpb (argL .u32 a 0)) (λX=> .int .i64 X) (λX=>[])
theorem Qdu:Q06 pG Zgr:=oS (.nil) Tryz.func93 Tryz.call93 [] [] 2
def Ql4(c:Q0d):Tree Bool:=
.lf (decide ((c.D3.length:Int)<=(16:Int)))
def Qih c:=(Ql4 c).m
def Qwj:Q0e:=mS 94 [] true [.agg Q0d.sig] [] (λa r=>Ql4 (Q0d.of (aC a 0))) (λX=> .bool X) (λX=>[])
theorem Qtr:Q06 pG Qwj:=oS (.nil) Tryz.func94 Tryz.call94 [] [] 2
def Qib(t:Q0i):Tree Bool:=
.br t.D2 (.br t.D5 (.lf false) (.br t.D2 (.lf (t.C8 !=0)) (.br t.D5 (.lf true) (.lf (t.C8==0))))) (.br t.D2 (.lf (t.C8 !=0)) (.br t.D5 (.lf true) (.lf (t.C8==0))))
def Qe0 t:=(Qib t).m
def Z20:Q0e:=mS 95 [] true [.agg Q0i.sig] [] (λa r=>Qib (Q0i.of (aC a 0))) (λX=> .bool X) (λX=>[])
theorem Qyq:Q06 pG Z20:=oS (.nil) Tryz.func95 Tryz.call95 [] [] 2
def Qko(d0:Q0f)(pages:Int):Tree Bool:=
.br (decide (d0.Blocks>64)) (.lf false) (.br (decide (d0.C0<0)) (.lf false) (.br (decide (d0.C0>3)) (.lf false) (.br (d0.C0 !=1) (.br (d0.D8==0) (.br (d0.B7==0) (.br (d0.B3==0) (.lf (decide (d0.C4=[]))) (.lf false)) (.lf false)) (.lf false)) (.br (decide (d0.B7>=d0.Blocks)) (.lf false) (.br (decide (wrap i64 d0.B3>=pages)) (.lf false) (.br (d0.D8==1) (.br (decide (d0.C4=[])) (.lf true) (.br (d0.D8==2) (.lf ((d0.C4.length:Int)==(128:Int))) (.lf false))) (.br (d0.D8==2) (.lf ((d0.C4.length:Int)==(128:Int))) (.lf false))))))))
def Qg5 d0 pages:=(Qko d0 pages).m
def Z5f:Q0e:=mS 96 [] true [.agg Q0f.sig, .one (.int .i64)] [] (λa r=>Qko (Q0f.of (aC a 0)) (argI a 1)) (λX=> .bool X) (λX=>[])
theorem Z35:Q06 pG Z5f:=oS (.nil) Tryz.func96 Tryz.call96 [] [] 2
def Qm6(n:Q0q)(pages:Int):Tree Bool:=
let T1:Tree (Bool):= .br n.B8 (.br (decide (n.F1>=1)) (.lf (decide (n.F1<=128))) (.lf false)) (.lf (n.F1==0)); .br n.C7 (.br n.B8 (.lf false) (.br (decide (wrap i64 n.B9>=pages)) (.lf false) (.br (!n.C7) (.br (n.B9 !=0) (.lf false) T1) T1))) (.br (!n.C7) (.br (n.B9 !=0) (.lf false) T1) T1)
def Qil n pages:=(Qm6 n pages).m
def Za8:Q0e:=mS 97 [] true [.agg Q0q.sig, .one (.int .i64)] [] (λa r=>Qm6 (Q0q.of (aC a 0)) (argI a 1)) (λX=> .bool X) (λX=>[])
theorem Z64:Q06 pG Za8:=oS (.nil) Tryz.func97 Tryz.call97 [] [] 2
def Qgx(b:Q09)(pages:Int)(z:(Int)):Prop:=0<=z/\z<=32
def Q6i(b:Q09)(pages:Int)(z:(Int)):Nat:=(32-z).toNat
def Q5m(b:Q09)(pages:Int):Tree Bool:=
.lp inferInstance (Q6i b pages 0+1) ((rE (pages:Int)/\rZ/\rE (0:Int)/\True)/\(rE b.D0/\rE b.C3/\True)/\True) 0 λ(v0:Int)=> .br (decide (v0<32)) (.cn (decide (0<=wrap u64 v0)) (let T1:Tree ((Int)⊕(Bool)):= .nx ((rE (pages:Int)/\rZ/\rE ((wrap i64 (v0+1)):Int)/\True)/\(rE b.D0/\rE b.C3/\True)/\True) (Sum.inl (wrap i64 (v0+1))); .br (iand u32 (ishr u32 b.C3 (wrap u64 v0)) (1:Int)==(1:Int)) (.br (decide (v0>=pages)) (.lf (Sum.inr false)) T1) T1)) (.lf (Sum.inr true))
def Q9u b pages:=(Q5m b pages).m
theorem Qrl(b:Q09)(pages:Int):(Q5m b pages).p:=by
 unfold Tree.p Q5m
 repeat'(first|refine w_lp (inv:=Qgx b pages) (μ:=Q6i b pages) ?_ (cK _) (λ_ _=> ?_)|exact trivial|refine w_br (λ_=> ?_) (λ_=> ?_)|refine w_cn ?_ ?_|refine w_an ?_ ?_|refine w_lv (λ_ _=> ?_)|refine w_nx ?_|refine w_lf ?_|refine And.intro ?_ ?_)
 all_goals((try simp only[Qgx,Q6i]at*);exact fin0)
def Qui:LInv:={
 α:=(Int)
 F:=λst a=>([(1,(lk st 1)),(2, .ptr 0 0 0),(5, .int i64 a)],[⟨true,40,2, .gen [[(cT st 2 0),(cT st 2 1)]]⟩])
 a0:=λst=>(lk st 5).toInt
 ex0:=λst=>[]++[(rX st 2 0)]}
def Qqa:List (Nat×LInv):=[(2,Qui)]
def Qx9:Q0e:=mS 98 [] true [.agg Q09.sig, .one (.int .i64)] [] (λa r=>Q5m (Q09.of (aC a 0)) (argI a 1)) (λX=> .bool X) (λX=>[])
theorem Qu5:Q06 pG Qx9:=oS (.nil) Tryz.func98 Tryz.call98 [] Qqa 3 (λ_ _ _=>by kernel_rfl) (λa r=>Qrl (Q09.of (aC a 0)) (argI a 1)) (λ_ X=>by kernel_rfl)
def Qwg(m:Q00):Tree Bool:=
.lv (Q3x m.Mem) λ(x0:Int)=> .br (decide (x0<1)) (.lf false) (.br (m.B1.X.a0 !=0) (.lf false) (.br (decide (m.B1.B5.a0>31)) (.lf false) (.br (decide (m.B1.B5.a7>31)) (.lf false) (.br (decide (m.B1.B5.a6>255)) (.lf false) (.br (dA m.B1.B5.a1 (4:Int) !=(0:Int)) (.lf false) (.lv (Qih m.A4) λ(x1:Bool)=> .br (!x1) (.lf false) (.lv (Qe0 m.B0) λ(x2:Bool)=> .br (!x2) (.lf false) (.lv (Qg5 m.B2 x0) λ(x3:Bool)=> .br (!x3) (.lf false) (.lv (Qil m.C6 x0) λ(x4:Bool)=> .br (!x4) (.lf false) (.lv (Q9u m.A2 x0) λ(x5:Bool)=> .br (!x5) (.lf false) (.br (decide (m.A1<=1152921504606846976)) (.br m.A7 (.lf (!m.A9)) (.lf true)) (.lf false))))))))))))
def Q55 m:=(Qwg m).m
def Znx:Q0e:=mS 25 [] true [.agg Q00.sig] [] (λa r=>Qwg (Q00.of (aC a 0))) (λX=> .bool X) (λX=>[])
theorem Zi1:Q06 pG Znx:=oS (.cons Qdu (.cons Qtr (.cons Qyq (.cons Z35 (.cons Z64 (.cons Qu5 (.nil))))))) Tryz.func25 Tryz.call25 [] [] 2
def Q9e(t:Q0i):Tree (Q0i×Bool):=
.br (!t.D2) (.lf (t,false)) (.lf ({D2:=false,C8:=t.C8,D5:=true},true))
def Q7r t:=(Q9e t).m
def Zjc:Q0e:=mS 221 [] true [.agg Q0i.sig] [] (λa r=>Q9e (Q0i.of (aC a 0))) (λX=> .tup [.agg (Q0i.cells (X.1)), .bool (X.2)]) (λX=>[])
theorem Zgi:Q06 pG Zjc:=oS (.nil) Tryz.func221 Tryz.call221 [] [] 2
def Qcl(c:Q0d)(b:Int):Tree (Q0d×Bool):=
.br (decide ((c.D3.length:Int)>=(16:Int))) (.lf (c,false)) (.cn (decide (c.D3.length+1<=maxLen)) (.lf ({D3:=c.D3++[(λ(n:Int)=>eT n.toNat) b]},true)))
def Qo7 c b:=(Qcl c b).m
abbrev Qsw c b:=(Qcl c b).p
def Ziy:Q0e:=mT 222 [] true [.agg Q0d.sig, .one (.int .u8)] [] (λa r=>Qcl (Q0d.of (aC a 0)) (argI a 1)) (λX=> .tup [.agg (Q0d.cells (X.1)), .bool (X.2)]) (λX=>[])
theorem Ze3:Q06 pG Ziy:=oT (.nil) Tryz.func222 Tryz.call222 [] [] 2
def Qif(m:List Int)(frame:Int):Tree Bool:=
.lv (Q3x m) λ(x0:Int)=> .lf (decide (wrap u64 frame<wrap u64 x0))
def Q2c m frame:=(Qif m frame).m
def Zhp:Q0e:=mS 269 [] true [.one (.ints .u32), .one (.int .u32)] [] (λa r=>Qif (argL .u32 a 0) (argI a 1)) (λX=> .bool X) (λX=>[])
theorem Qgb:Q06 pG Zhp:=oS (.cons Qdu (.nil)) Tryz.func269 Tryz.call269 [] [] 2
def Qeo(m:List Int)(addr size v:Int):Tree (List Int):=
let E1:=bS 1 1&&bT 0 1&&decide (0<=wrap u32 (eQ addr 4)/\wrap u32 (eQ addr 4)<(m.length:Int));let E2:=dB (wrap u32 (eQ addr 4)); .br (size==4) (.cn E1 (.lf (dC m E2 v))) (.cn E1 (let E3:=decide (0<=wrap u32 (8*dA addr 4)); .cn E3 (.cn E3 (.cn E1 (.lf (dC m E2 (ior u32 (Qhc u32 (m.getD E2 0) (ishl u32 255 (wrap u32 (8*dA addr 4)))) (ishl u32 (iand u32 v 255) (wrap u32 (8*dA addr 4))))))))))
def Qa2 m addr size v:=(Qeo m addr size v).m
abbrev Qfl m addr size v:=(Qeo m addr size v).p
def Zmy:Q0e:=mT 300 [true,false,false,false] true [.one (.row 0), .one (.int .u32), .one (.int .i64), .one (.int .u32)] [.arr 25 1 (.ints .u32)] (λa r=>Qeo (rowL .u32 r 0) (argI a 1) (argI a 2) (argI a 3)) (λX=> .tup []) (λX=>[⟨false,25,1, .ints .u32 X⟩])
theorem Z1:Q06 pG Zmy:=oT (.nil) Tryz.func300 Tryz.call300 [] [] 2
def Qir(m:List Int)(frame:Int)(s:List UInt8)(z:(Int)×(List Int)):Nat:=(128-z.1).toNat
def Q99(m:List Int)(frame:Int)(s:List UInt8):Tree (List Int):=
.lp inferInstance (Qir m frame s (0,m)+1) ((True/\rE (frame:Int)/\rE (s:List UInt8)/\rE (0:Int)/\True)/\rE (m:List Int)/\True) (0,m) λ(v0:Int×List Int)=> .br (decide (v0.1<(s.length:Int))) (.br (decide (v0.1<128)) (.cn (decide (0<=v0.1/\v0.1<(s.length:Int))) (let E1:=wrap u32 (↑(eS (s.getD v0.1.toNat (0:UInt8))):Int);let E2:=wrap u32 (wrap i64 (wrap i64 (frame*128)+v0.1)); .an (Qfl v0.2 E2 1 E1) (.lv (Qa2 v0.2 E2 1 E1) λ(x0:List Int)=> .nx ((True/\rE (frame:Int)/\rE (s:List UInt8)/\rE ((wrap i64 (v0.1+1)):Int)/\True)/\rE (x0:List Int)/\True) (Sum.inl (wrap i64 (v0.1+1),x0))))) (.lf (Sum.inr v0.2))) (.lf (Sum.inr v0.2))
def Qli m frame s:=(Q99 m frame s).m
abbrev Qmb m frame s:=(Q99 m frame s).p
def Zet:LInv:={
 α:=(Int)×(List Int)
 F:=λst a=>([(0, .all 0),(1,(lk st 1)),(2,(lk st 2)),(6, .int i64 a.1)],[⟨false,25,1, .ints u32 a.2⟩])
 a0:=λst=>((lk st 6).toInt,(Q7d st.rows 0))
 ex0:=λst=>[0]++[]}
def Z57:List (Nat×LInv):=[(1,Zet)]
def Zhx:Q0e:=mT 270 [true,false,false] true [.one (.row 0), .one (.int .i64), .one (.str)] [.arr 25 1 (.ints .u32)] (λa r=>Q99 (rowL .u32 r 0) (argI a 1) (argS a 2)) (λX=> .tup []) (λX=>[⟨false,25,1, .ints .u32 X⟩])
theorem Qy1:Q06 pG Zhx:=oT (.cons Z1 (.nil)) Tryz.func270 Tryz.call270 [] Z57 3
def Q6o(d0:Q0f)(m:List Int)(e:Q0a):Tree (Q0f×Bool×(List Int)):=
.br (d0.C0 !=1) (.lf (d0,false,m)) (.br (e.B6 !=4) (.lf (d0,false,m)) (.br (decide (e.N>1)) (.lf (d0,false,m)) (let E4:=({Blocks:=d0.Blocks,C2:=d0.C2,Frame:=d0.Frame,C0:=2,D8:=0,B7:=0,B3:=0,C4:=[]}:Q0f);let E5:=({Blocks:=d0.Blocks,C2:=d0.C2,Frame:=d0.Frame,C0:=3,D8:=0,B7:=0,B3:=0,C4:=[]}:Q0f);let T2:Tree ((Q0f×Bool×(List Int))):= .br (e.N==1) (.lf (E4,true,m)) (.lf (E5,true,m));let E6:=decide ((e.C9.length:Int)>(0:Int)); .br (e.N==1) (let T1:Tree ((Q0f×Bool×(List Int))):= .br (d0.D8==1) (.an (Qmb m (wrap i64 d0.B3) e.C9) (.lv (Qli m (wrap i64 d0.B3) e.C9) λ(x1:List Int)=> .br (e.N==1) (.lf (E4,true,x1)) (.lf (E5,true,x1)))) T2;let T3:Tree ((Q0f×Bool×(List Int))):= .br (!d0.D8==1) (.br E6 (.lf (d0,false,m)) T1) T1; .br (d0.D8==1) (.br ((e.C9.length:Int) !=(128:Int)) (.lf (d0,false,m)) (.lv (Q2c m d0.B3) λ(x0:Bool)=> .br (!x0) (.lf (d0,false,m)) T3)) T3) (.br E6 (.lf (d0,false,m)) T2))))
def Q9w d0 m e:=(Q6o d0 m e).m
abbrev Qoy d0 m e:=(Q6o d0 m e).p
def Zbp:Q0e:=mT 223 [false,true,false] true [.agg Q0f.sig, .one (.row 0), .agg Q0a.sig] [.arr 25 1 (.ints .u32)] (λa r=>Q6o (Q0f.of (aC a 0)) (rowL .u32 r 0) (Q0a.of (aC a 2))) (λX=> .tup [.agg (Q0f.cells (X.1)), .bool (X.2.1)]) (λX=>[⟨false,25,1, .ints .u32 (X.2.2)⟩])
theorem Z5l:Q06 pG Zbp:=oT (.cons Qgb (.cons Qy1 (.nil))) Tryz.func223 Tryz.call223 [] [] 2
def Q6k(n:Q0q)(m:List Int)(frame:List UInt8):Tree (Q0q×Bool×(List Int)):=
.br (!n.C7) (.lf (n,false,m)) (.br (decide ((frame.length:Int)<(1:Int))) (.lf (n,false,m)) (.br (decide ((frame.length:Int)>(128:Int))) (.lf (n,false,m)) (.lv (Q2c m n.B9) λ(x0:Bool)=> .br (!x0) (.lf (n,false,m)) (.an (Qmb m (wrap i64 n.B9) frame) (.lv (Qli m (wrap i64 n.B9) frame) λ(x1:List Int)=> .lf ({Frame:=n.Frame,E0:=n.E0,C7:=false,B9:=0,B8:=true,F1:=wrap u32 (frame.length:Int)},true,x1))))))
def Q97 n m frame:=(Q6k n m frame).m
abbrev Qp6 n m frame:=(Q6k n m frame).p
def Zao:Q0e:=mT 224 [false,true,false] true [.agg Q0q.sig, .one (.row 0), .one (.str)] [.arr 25 1 (.ints .u32)] (λa r=>Q6k (Q0q.of (aC a 0)) (rowL .u32 r 0) (argS a 2)) (λX=> .tup [.agg (Q0q.cells (X.1)), .bool (X.2.1)]) (λX=>[⟨false,25,1, .ints .u32 (X.2.2)⟩])
theorem Z4z:Q06 pG Zao:=oT (.cons Qgb (.cons Qy1 (.nil))) Tryz.func224 Tryz.call224 [] [] 2
def Q5k(m:Q00)(e:Q0a):Tree (Bool×Q00):=
.br m.A9 (.lf (false,m)) (let T1:Tree ((Bool×Q00)):= .br (e.B6==4) (.an (Qoy m.B2 m.Mem e) (.lv (Q9w m.B2 m.Mem e) λ(x2:Q0f×Bool×List Int)=> .lf (x2.2.1,{B1:=m.B1,Mem:=x2.2.2,A4:=m.A4,B0:=m.B0,B2:=x2.1,C6:=m.C6,A2:=m.A2,A1:=m.A1,A7:=m.A7,A9:=m.A9}))) (let T3:Tree ((Bool×Q00)):= .br (e.B6==6) (.br (decide (e.C9=[])) (.lf (true,{B1:=m.B1,Mem:=m.Mem,A4:=m.A4,B0:=m.B0,B2:=m.B2,C6:=m.C6,A2:={D0:=e.N,C3:=m.A2.C3},A1:=m.A1,A7:=m.A7,A9:=m.A9})) (.lf (false,m))) (.lf (false,m)); .br (e.B6==5) (.br (e.N==0) (.an (Qp6 m.C6 m.Mem e.C9) (.lv (Q97 m.C6 m.Mem e.C9) λ(x3:Q0q×Bool×List Int)=> .lf (x3.2.1,{B1:=m.B1,Mem:=x3.2.2,A4:=m.A4,B0:=m.B0,B2:=m.B2,C6:=x3.1,A2:=m.A2,A1:=m.A1,A7:=m.A7,A9:=m.A9}))) T3) T3);let T2:Tree ((Bool×Q00)):= .br (e.B6==3) (.br (decide (e.N<=255)) (.br (decide (e.C9=[])) (.an (Qsw m.A4 (wrap u8 e.N)) (.lv (Qo7 m.A4 (wrap u8 e.N)) λ(x1:Q0d×Bool)=> .lf (x1.2,{B1:=m.B1,Mem:=m.Mem,A4:=x1.1,B0:=m.B0,B2:=m.B2,C6:=m.C6,A2:=m.A2,A1:=m.A1,A7:=m.A7,A9:=m.A9}))) T1) T1) T1; .br (e.B6==2) (.br (e.N==0) (.br (decide (e.C9=[])) (.lv (Q7r m.B0) λ(x0:Q0i×Bool)=> .lf (x0.2,{B1:=m.B1,Mem:=m.Mem,A4:=m.A4,B0:=x0.1,B2:=m.B2,C6:=m.C6,A2:=m.A2,A1:=m.A1,A7:=m.A7,A9:=m.A9})) T2) T2) T2)
def Q0n m e:=(Q5k m e).m
abbrev Qqy m e:=(Q5k m e).p
def Zfd:Q0e:=mT 161 [true,false] true [.ptr 0, .agg Q0a.sig] [.box 43 49 (Q00.sigW (.row 1)), .arr 25 1 (.ints .u32)] (λa r=>Q5k (Q00.ofW (r.getD 0 default).cs (rowL .u32 r 1)) (Q0a.of (aC a 1))) (λX=> .bool (X.1)) (λX=>[⟨true,43,49, .gen [(Q00.cellsW (X.2) (.all 1))]⟩,⟨false,25,1, .ints .u32 (X.2).Mem⟩])
theorem Zc5:Q06 pG Zfd:=oT (.cons Zgi (.cons Ze3 (.cons Z5l (.cons Z4z (.nil))))) Tryz.func161 Tryz.call161 [.row 25 1 (.ints .u32)] [] 2
def Qit(is:Bool)(n:Int):Tree Int:=
.br is (.cn (decide (0<=wrap u64 n)) (.lf (ishl u32 1 (wrap u64 n)))) (.lf 0)
def Q9y is n:=(Qit is n).m
abbrev Qab is n:=(Qit is n).p
def Zhs:Q0e:=mT 104 [] true [.one (.bool), .one (.int .i64)] [] (λa r=>Qit (argB a 0) (argI a 1)) (λX=> .int .u32 X) (λX=>[])
theorem Zgg:Q06 pG Zhs:=oT (.nil) Tryz.func104 Tryz.call104 [] [] 2
def Qig(t:Q0i):Tree Bool:=
.lf t.D5
def Qal t:=(Qig t).m
def Qrm:Q0e:=mS 105 [] true [.agg Q0i.sig] [] (λa r=>Qig (Q0i.of (aC a 0))) (λX=> .bool X) (λX=>[])
theorem Qq6:Q06 pG Qrm:=oS (.nil) Tryz.func105 Tryz.call105 [] [] 2
def Qfy(c:Q0d):Tree Bool:=
.lf (decide ((c.D3.length:Int)>(0:Int)))
def Q5v c:=(Qfy c).m
def Qp1:Q0e:=mS 106 [] true [.agg Q0d.sig] [] (λa r=>Qfy (Q0d.of (aC a 0))) (λX=> .bool X) (λX=>[])
theorem Qnh:Q06 pG Qp1:=oS (.nil) Tryz.func106 Tryz.call106 [] [] 2
def Qju(d0:Q0f):Tree Bool:=
.br (d0.C0==2) (.lf true) (.lf (d0.C0==3))
def Qby d0:=(Qju d0).m
def Qtb:Q0e:=mS 107 [] true [.agg Q0f.sig] [] (λa r=>Qju (Q0f.of (aC a 0))) (λX=> .bool X) (λX=>[])
theorem Qrc:Q06 pG Qtb:=oS (.nil) Tryz.func107 Tryz.call107 [] [] 2
def Qll(n:Q0q):Tree Bool:=
.lf n.B8
def Qe2 n:=(Qll n).m
def Qwp:Q0e:=mS 108 [] true [.agg Q0q.sig] [] (λa r=>Qll (Q0q.of (aC a 0))) (λX=> .bool X) (λX=>[])
theorem Qtg:Q06 pG Qwp:=oS (.nil) Tryz.func108 Tryz.call108 [] [] 2
def Qoi(b:Q09)(z:(Int)×(Int)):Prop:=0<=z.2/\z.2<=32
def Qgs(b:Q09)(z:(Int)×(Int)):Nat:=(32-z.2).toNat
def Qjs(b:Q09):Tree Int:=
.lp inferInstance (Qgs b (0,0)+1) ((rZ/\rE (0:Int)/\rE (0:Int)/\True)/\(rE b.D0/\rE b.C3/\True)/\True) (0,0) λ(v0:Int×Int)=> .br (decide (v0.2<32)) (.cn (decide (0<=wrap u64 v0.2)) (.nx ((rZ/\rE ((wrap i64 (v0.1+wrap i64 (iand u32 (ishr u32 b.C3 (wrap u64 v0.2)) 1))):Int)/\rE ((wrap i64 (v0.2+1)):Int)/\True)/\(rE b.D0/\rE b.C3/\True)/\True) (Sum.inl (wrap i64 (v0.1+wrap i64 (iand u32 (ishr u32 b.C3 (wrap u64 v0.2)) 1)),wrap i64 (v0.2+1))))) (.lf (Sum.inr v0.1))
def Qf0 b:=(Qjs b).m
theorem Z61(b:Q09):(Qjs b).p:=by
 unfold Tree.p Qjs
 repeat'(first|refine w_lp (inv:=Qoi b) (μ:=Qgs b) ?_ (cK _) (λ_ _=> ?_)|exact trivial|refine w_br (λ_=> ?_) (λ_=> ?_)|refine w_cn ?_ ?_|refine w_an ?_ ?_|refine w_lv (λ_ _=> ?_)|refine w_nx ?_|refine w_lf ?_|refine And.intro ?_ ?_)
 all_goals((try simp only[Qoi,Qgs]at*);exact fin0)
def Zaf:LInv:={
 α:=(Int)×(Int)
 F:=λst a=>([(1, .ptr 0 0 0),(3, .int i64 a.1),(4, .int i64 a.2)],[⟨true,40,2, .gen [[(cT st 1 0),(cT st 1 1)]]⟩])
 a0:=λst=>((lk st 3).toInt,(lk st 4).toInt)
 ex0:=λst=>[]++[(rX st 1 0)]}
def Z2r:List (Nat×LInv):=[(3,Zaf)]
def Zdf:Q0e:=mS 177 [] true [.agg Q09.sig] [] (λa r=>Qjs (Q09.of (aC a 0))) (λX=> .int .i64 X) (λX=>[])
theorem Qt9:Q06 pG Zdf:=oS (.nil) Tryz.func177 Tryz.call177 [] Z2r 3 (λ_ _ _=>by kernel_rfl) (λa r=>Z61 (Q09.of (aC a 0))) (λ_ X=>by kernel_rfl)
def Q93(b:Q09):Tree Bool:=
.lv (Qf0 b) λ(x0:Int)=> .lf (wrap u64 x0 !=wrap u64 b.D0)
def Q3y b:=(Q93 b).m
def Qno:Q0e:=mS 109 [] true [.agg Q09.sig] [] (λa r=>Q93 (Q09.of (aC a 0))) (λX=> .bool X) (λX=>[])
theorem Qnf:Q06 pG Qno:=oS (.cons Qt9 (.nil)) Tryz.func109 Tryz.call109 [] [] 2
def Qg1(m:Q00):Tree Int:=
.lv (Qal m.B0) λ(x0:Bool)=> .an (Qab x0 0) (.lv (Q9y x0 0) λ(x1:Int)=> .lv (Q5v m.A4) λ(x2:Bool)=> .an (Qab x2 1) (.lv (Q9y x2 1) λ(x3:Int)=> .lv (Qby m.B2) λ(x4:Bool)=> .an (Qab x4 2) (.lv (Q9y x4 2) λ(x5:Int)=> .lv (Qe2 m.C6) λ(x6:Bool)=> .an (Qab x6 3) (.lv (Q9y x6 3) λ(x7:Int)=> .lv (Q3y m.A2) λ(x8:Bool)=> .an (Qab x8 4) (.lv (Q9y x8 4) λ(x9:Int)=> .lf (ior u32 (ior u32 (ior u32 (ior u32 x1 x3) x5) x7) x9))))))
def Qhh m:=(Qg1 m).m
abbrev Qqo m:=(Qg1 m).p
def Zf4:Q0e:=mT 27 [] true [.agg Q00.sig] [] (λa r=>Qg1 (Q00.of (aC a 0))) (λX=> .int .u32 X) (λX=>[])
theorem Z9t:Q06 pG Zf4:=oT (.cons Zgg (.cons Qq6 (.cons Qnh (.cons Qrc (.cons Qtg (.cons Qnf (.nil))))))) Tryz.func27 Tryz.call27 [] [] 2
def Q8q(m:Q00):Tree Int:=
.an (Qqo m) (.lv (Qhh m) λ(x0:Int)=> .lf (iand u32 x0 m.B1.B5.a7))
def Q36 m:=(Q8q m).m
abbrev Qgq m:=(Q8q m).p
def Z68:Q0e:=mT 111 [] true [.agg Q00.sig] [] (λa r=>Q8q (Q00.of (aC a 0))) (λX=> .int .u32 X) (λX=>[])
theorem Qo6:Q06 pG Z68:=oT (.cons Z9t (.nil)) Tryz.func111 Tryz.call111 [] [] 2
def Qel(m:Q00):Tree Bool:=
.br m.A7 (.an (Qgq m) (.lv (Q36 m) λ(x0:Int)=> .lf (x0==0))) (.lf false)
def Qdv m:=(Qel m).m
abbrev Qlx m:=(Qel m).p
def Zif:Q0e:=mT 29 [] true [.agg Q00.sig] [] (λa r=>Qel (Q00.of (aC a 0))) (λX=> .bool X) (λX=>[])
theorem Zey:Q06 pG Zif:=oT (.cons Qo6 (.nil)) Tryz.func29 Tryz.call29 [] [] 2
def Qfp(m:Q00):Tree Bool:=
.lv (Q55 m) λ(x0:Bool)=> .br (!x0) (.lf true) (.br m.A9 (.lf true) (.an (Qlx m) (.lv (Qdv m) λ(x1:Bool)=> .br x1 (.lf true) (.lf (decide (m.A1>=1152921504606846976))))))
def Q0r m:=(Qfp m).m
abbrev Z5o m:=(Qfp m).p
end
noncomputable section
def Z8k(b:Bool):Tree Int:=
.br b (.lf 1) (.lf 0)
def Qc b:=(Z8k b).m
def Znm:Q0e:=mS 281 [] true [.one (.bool)] [] (λa r=>Z8k (argB a 0)) (λX=> .int .u32 X) (λX=>[])
theorem Qru:Q06 pG Znm:=oS (.nil) Tryz.func281 Tryz.call281 [] [] 2
def Qjj(c:Q05)(cause bad:Int):Tree Q05:=
.lv (Qc (iand u32 c.B5.a0 (1:Int) !=(0:Int))) λ(x0:Int)=> .lv (Qc (iand u32 c.B5.a0 (2:Int) !=(0:Int))) λ(x1:Int)=> .lf ({X:=c.X,Pc:=c.B5.a1,B5:={a0:=ior u32 (Qhc u32 (ior u32 (ior u32 (Qhc u32 c.B5.a0 24) (wrap u32 (8*x0))) (wrap u32 (16*x1))) 2) 1,a1:=c.B5.a1,a2:=c.Pc,a3:=wrap u32 cause,a4:=bad,a5:=c.B5.a5,a6:=c.B5.a6,a7:=c.B5.a7}})
def Q2y c cause bad:=(Qjj c cause bad).m
def Zi6:Q0e:=mS 244 [] true [.agg Q05.sig, .one (.int .i64), .one (.int .u32)] [] (λa r=>Qjj (Q05.of (aC a 0)) (argI a 1) (argI a 2)) (λX=> .agg (Q05.cells X)) (λX=>[])
theorem Qk1:Q06 pG Zi6:=oS (.cons Qru (.nil)) Tryz.func244 Tryz.call244 [] [] 2
def Q84(m:List Int)(addr size:Int):Tree Bool:=
let T1:Tree (Bool):= .cn (decide (wrap u32 size≠0)) (.br (dA addr (wrap u32 size)==0) (.lv (Q3x m) λ(x0:Int)=> .lf (decide (addr<wrap u32 (wrap i64 (128*x0))))) (.lf false)); .br (size !=1) (.br (size !=4) (.lf false) T1) T1
def Q2b m addr size:=(Q84 m addr size).m
abbrev Qdn m addr size:=(Q84 m addr size).p
def Zbj:Q0e:=mT 245 [] true [.one (.ints .u32), .one (.int .u32), .one (.int .i64)] [] (λa r=>Q84 (argL .u32 a 0) (argI a 1) (argI a 2)) (λX=> .bool X) (λX=>[])
theorem Qkh:Q06 pG Zbj:=oT (.cons Qdu (.nil)) Tryz.func245 Tryz.call245 [] [] 2
def Q40(m:List Int)(addr size:Int):Tree (Int×Bool):=
.an (Qdn m addr size) (.lv (Q2b m addr size) λ(x0:Bool)=> .br (!x0) (.lf (0,false)) (.cn (bS 1 1&&bT 0 1&&decide (0<=wrap u32 (eQ addr 4)/\wrap u32 (eQ addr 4)<(m.length:Int))) (.br (size==1) (.cn (decide (0<=wrap u32 (8*dA addr 4))) (.lf (iand u32 (ishr u32 (m.getD (dB (wrap u32 (eQ addr 4))) 0) (wrap u32 (8*dA addr 4))) 255,true))) (.lf (m.getD (dB (wrap u32 (eQ addr 4))) 0,true)))))
def Q1g m addr size:=(Q40 m addr size).m
abbrev Qdq m addr size:=(Q40 m addr size).p
def Zhk:Q0e:=mT 187 [] true [.one (.ints .u32), .one (.int .u32), .one (.int .i64)] [] (λa r=>Q40 (argL .u32 a 0) (argI a 1) (argI a 2)) (λX=> .tup [.int .u32 (X.1), .bool (X.2)]) (λX=>[])
theorem Qom:Q06 pG Zhk:=oT (.cons Qkh (.nil)) Tryz.func187 Tryz.call187 [] [] 2
def Q6x(w:Int):Tree (Q0m×Bool):=
.lv (Q2k (wrap i64 (ishr u32 w 24))) λ(x0:Int)=>let E5:=({Op:=0,A:=0,B:=0,C:=0,Imm:=0}:Q0m); .br (x0==0) (.lf (E5,false)) (.br (x0==2) (let E3:=({Op:=wrap i64 (ishr u32 w 24),A:=wrap i64 (iand u32 (ishr u32 w 20) 15),B:=wrap i64 (iand u32 (ishr u32 w 16) 15),C:=wrap i64 (iand u32 w 65535),Imm:=0}:Q0m); .lv (Q7x E3) λ(x1:Bool)=> .br (!x1) (.lf (E5,false)) (.lf (E3,true))) (let T1:Tree ((Q0m×Bool)):=let E2:=({Op:=wrap i64 (ishr u32 w 24),A:=wrap i64 (iand u32 (ishr u32 w 20) 15),B:=wrap i64 (iand u32 (ishr u32 w 16) 15),C:=0,Imm:=wrap i32 (wrap i16 (iand u32 w 65535))}:Q0m); .lv (Q7x E2) λ(x2:Bool)=> .br (!x2) (.lf (E5,false)) (.lf (E2,true)); .br (x0==3) T1 (.br (x0==7) T1 (let E4:=({Op:=wrap i64 (ishr u32 w 24),A:=wrap i64 (iand u32 (ishr u32 w 20) 15),B:=wrap i64 (iand u32 (ishr u32 w 16) 15),C:=0,Imm:=wrap i32 (iand u32 w 65535)}:Q0m); .lv (Q7x E4) λ(x4:Bool)=> .br (!x4) (.lf (E5,false)) (.lf (E4,true))))))
def Q26 w:=(Q6x w).m
def Z9u:Q0e:=mS 188 [] true [.one (.int .u32)] [] (λa r=>Q6x (argI a 0)) (λX=> .tup [.agg (Q0m.cells (X.1)), .bool (X.2)]) (λX=>[])
theorem Qql:Q06 pG Z9u:=oS (.cons Qfu (.cons Qsy (.nil))) Tryz.func188 Tryz.call188 [] [] 2
def Qy4(access:Int):Tree Bool:=
.br (decide (access>=1)) (.lf (decide (access<=3))) (.lf false)
def Qem access:=(Qy4 access).m
def Zf9:Q0e:=mS 292 [] true [.one (.int .i64)] [] (λa r=>Qy4 (argI a 0)) (λX=> .bool X) (λX=>[])
theorem Qsd:Q06 pG Zf9:=oS (.nil) Tryz.func292 Tryz.call292 [] [] 2
def Qxv(c:Q05):Tree Bool:=
.lf (iand u32 c.B5.a0 (5:Int)==(4:Int))
def Ql3 c:=(Qxv c).m
def Zeu:Q0e:=mS 293 [] true [.agg Q05.sig] [] (λa r=>Qxv (Q05.of (aC a 0))) (λX=> .bool X) (λX=>[])
theorem Zam:Q06 pG Zeu:=oS (.nil) Tryz.func293 Tryz.call293 [] [] 2
def Q8w(access:Int):Tree Int:=
.br (access==1) (.lf 4) (.br (access==3) (.lf 6) (.lf 5))
def Q29 access:=(Q8w access).m
def Z59:Q0e:=mS 294 [] true [.one (.int .i64)] [] (λa r=>Q8w (argI a 0)) (λX=> .int .i64 X) (λX=>[])
theorem Qon:Q06 pG Z59:=oS (.nil) Tryz.func294 Tryz.call294 [] [] 2
def Qa1(m:List Int)(root va access:Int):Tree Q1b:=
.lv (Q29 access) λ(x0:Int)=> .lv (Q3x m) λ(x1:Int)=> .lv (Qem access) λ(x2:Bool)=>let E4:=({Addr:=0,F3:=0,F0:=x0}:Q1b); .br (!x2) (.lf (E4)) (.br (decide (va>=4096)) (.lf (E4)) (.br (decide (root>=wrap u32 x1)) (.lf (E4)) (let E6:=wrap u32 (root*128)+wrap u32 (4*wrap u32 (eQ va 128));let E3:=eQ (wrap u32 E6) 4; .cn (bS 1 1&&bT 0 1&&decide (0<=wrap u32 E3/\wrap u32 E3<(m.length:Int))) (let E5:=m.getD (dB (wrap u32 E3)) 0; .br (iand u32 E5 (1:Int)==(0:Int)) (.lf (E4)) (let T1:Tree (Q1b):= .br (decide (iand u32 (ishr u32 E5 8) 255>=wrap u32 x1)) (.lf (E4)) (.lf ({Addr:=wrap u32 (wrap u32 (iand u32 (ishr u32 E5 8) (255:Int)*(128:Int))+dA va 128),F3:=wrap u32 E6,F0:=0}));let T2:Tree (Q1b):= .br (access==1) (.br (iand u32 E5 (4:Int)==(0:Int)) (.lf (E4)) T1) T1; .br (access==3) (.br (iand u32 E5 (2:Int)==(0:Int)) (.lf (E4)) T2) T2)))))
def Q6s m root va access:=(Qa1 m root va access).m
abbrev Qu9 m root va access:=(Qa1 m root va access).p
def Zhb:Q0e:=mT 295 [] true [.one (.ints .u32), .one (.int .u32), .one (.int .u32), .one (.int .i64)] [] (λa r=>Qa1 (argL .u32 a 0) (argI a 1) (argI a 2) (argI a 3)) (λX=> .agg (Q1b.cells X)) (λX=>[])
theorem Zg7:Q06 pG Zhb:=oT (.cons Qon (.cons Qdu (.cons Qsd (.nil)))) Tryz.func295 Tryz.call295 [] [] 2
def Qeu(m:List Int)(entry access:Int):Tree (List Int):=
.an (Qdn m entry 4) (.lv (Q2b m entry 4) λ(x0:Bool)=> .br (!x0) (.lf m) (let E3:=bS 1 1&&bT 0 1&&decide (0<=wrap u32 (eQ entry 4)/\wrap u32 (eQ entry 4)<(m.length:Int)); .cn E3 (.cn E3 (let E4:=dB (wrap u32 (eQ entry 4));let E1:=dC m E4 (ior u32 (m.getD E4 0) 8); .br (access==3) (let E2:=bS 1 1&&bT 0 1&&decide (0<=wrap u32 (eQ entry 4)/\wrap u32 (eQ entry 4)<(↑(dG E1):Int)); .cn E2 (.cn E2 (.lf (dC E1 E4 (ior u32 (aK E1 E4 0) 16))))) (.lf E1)))))
def Qoj m entry access:=(Qeu m entry access).m
abbrev Qsv m entry access:=(Qeu m entry access).p
def Zjx:Q0e:=mT 296 [true,false,false] true [.one (.row 0), .one (.int .u32), .one (.int .i64)] [.arr 25 1 (.ints .u32)] (λa r=>Qeu (rowL .u32 r 0) (argI a 1) (argI a 2)) (λX=> .tup []) (λX=>[⟨false,25,1, .ints .u32 X⟩])
theorem Zer:Q06 pG Zjx:=oT (.cons Qkh (.nil)) Tryz.func296 Tryz.call296 [] [] 2
def Q8(c:Q05)(m:List Int)(va size access:Int):Tree (Int×Int×(List Int)):=
.lv (Qem access) λ(x0:Bool)=> .br (!x0) (.lf (0,5,m)) (let T1:Tree ((Int×Int×(List Int))):= .cn (decide (wrap u32 size≠0)) (.br (dA va (wrap u32 size) !=0) (.lf (0,3,m)) (.lv (Ql3 c) λ(x1:Bool)=> .br (!x1) (.an (Qdn m va size) (.lv (Q2b m va size) λ(x2:Bool)=> .br (!x2) (.lv (Q29 access) λ(x3:Int)=> .lf (0,x3,m)) (.lf (va,0,m)))) (.an (Qu9 m c.B5.a6 va access) (.lv (Q6s m c.B5.a6 va access) λ(x4:Q1b)=> .br (x4.F0 !=0) (.lf (0,x4.F0,m)) (.an (Qsv m x4.F3 access) (.lv (Qoj m x4.F3 access) λ(x5:List Int)=> .lf (x4.Addr,0,x5))))))); .br (size !=1) (.br (size !=4) (.lf (0,5,m)) T1) T1)
def Q17 c m va size access:=(Q8 c m va size access).m
abbrev Q8v c m va size access:=(Q8 c m va size access).p
def Zf1:Q0e:=mT 254 [false,true,false,false,false] true [.agg Q05.sig, .one (.row 0), .one (.int .u32), .one (.int .i64), .one (.int .i64)] [.arr 25 1 (.ints .u32)] (λa r=>Q8 (Q05.of (aC a 0)) (rowL .u32 r 0) (argI a 2) (argI a 3) (argI a 4)) (λX=> .tup [.int .u32 (X.1), .int .i64 (X.2.1)]) (λX=>[⟨false,25,1, .ints .u32 (X.2.2)⟩])
theorem Qst:Q06 pG Zf1:=oT (.cons Qsd (.cons Zam (.cons Qkh (.cons Qon (.cons Zg7 (.cons Zer (.nil))))))) Tryz.func254 Tryz.call254 [] [] 2
def Qlk(op:Int):Tree Bool:=
.br (decide (op>=57)) (.lf (decide (op<=64))) (.lf false)
def Q3j op:=(Qlk op).m
def Qvm:Q0e:=mS 255 [] true [.one (.int .i64)] [] (λa r=>Qlk (argI a 0)) (λX=> .bool X) (λX=>[])
theorem Qu3:Q06 pG Qvm:=oS (.nil) Tryz.func255 Tryz.call255 [] [] 2
def Qde(c:Q05):Tree Q05:=
.lv (Qc (iand u32 c.B5.a0 (8:Int) !=(0:Int))) λ(x0:Int)=> .lv (Qc (iand u32 c.B5.a0 (16:Int) !=(0:Int))) λ(x1:Int)=> .lf ({X:=c.X,Pc:=c.B5.a2,B5:={a0:=ior u32 (ior u32 (Qhc u32 c.B5.a0 3) (wrap u32 (1*x0))) (wrap u32 (2*x1)),a1:=c.B5.a1,a2:=c.B5.a2,a3:=c.B5.a3,a4:=c.B5.a4,a5:=c.B5.a5,a6:=c.B5.a6,a7:=c.B5.a7}})
def Qhz c:=(Qde c).m
def Zbv:Q0e:=mS 297 [] true [.agg Q05.sig] [] (λa r=>Qde (Q05.of (aC a 0))) (λX=> .agg (Q05.cells X)) (λX=>[])
theorem Z5r:Q06 pG Zbv:=oS (.cons Qru (.nil)) Tryz.func297 Tryz.call297 [] [] 2
def Qef(c:Q05)(r v:Int):Tree Q05:=
.br (decide (r>0)) (.br (decide (r<16)) (.cn (bT 0 1&&decide (0<=r/\r<(↑16:Int))) (.lf ({X:=A16.of 0 (dC (A16.l c.X) r.toNat v),Pc:=c.Pc,B5:=c.B5}))) (.lf c)) (.lf c)
def Q23 c r v:=(Qef c r v).m
abbrev Q3r c r v:=(Qef c r v).p
def Zna:Q0e:=mT 219 [] true [.agg Q05.sig, .one (.int .i64), .one (.int .u32)] [] (λa r=>Qef (Q05.of (aC a 0)) (argI a 1) (argI a 2)) (λX=> .agg (Q05.cells X)) (λX=>[])
theorem Qi1:Q06 pG Zna:=oT (.nil) Tryz.func219 Tryz.call219 [] [] 2
def Qd(c:Q05)(csr v:Int):Tree Q05:=
let E4:=bT 0 1&&decide (0<=csr/\csr<(↑8:Int));let T2:Tree (Q05):= .cn E4 (.lf ({X:=c.X,Pc:=c.Pc,B5:=A8.of 0 (dC (A8.l c.B5) csr.toNat (iand u32 v 31))})); .br (csr==0) T2 (.br (csr==7) T2 (.br (csr==6) (.cn E4 (.lf ({X:=c.X,Pc:=c.Pc,B5:=A8.of 0 (dC (A8.l c.B5) csr.toNat (iand u32 v 255))}))) (let T3:Tree (Q05):= .cn E4 (.lf ({X:=c.X,Pc:=c.Pc,B5:=A8.of 0 (dC (A8.l c.B5) csr.toNat (Qhc u32 v 3))})); .br (csr==1) T3 (.br (csr==2) T3 (let T1:Tree (Q05):= .cn E4 (.lf ({X:=c.X,Pc:=c.Pc,B5:=A8.of 0 (dC (A8.l c.B5) csr.toNat v)})); .br (csr==3) T1 (.br (csr==4) T1 (.br (csr==5) T1 (.lf c))))))))
def Qhq c csr v:=(Qd c csr v).m
abbrev Qr7 c csr v:=(Qd c csr v).p
def Zcx:Q0e:=mT 298 [] true [.agg Q05.sig, .one (.int .i64), .one (.int .u32)] [] (λa r=>Qd (Q05.of (aC a 0)) (argI a 1) (argI a 2)) (λX=> .agg (Q05.cells X)) (λX=>[])
theorem Zbm:Q06 pG Zcx:=oT (.nil) Tryz.func298 Tryz.call298 [] [] 2
def Q8a(c:Q05)(i:Q0m):Tree (Q05×Q18):=
.br (i.Op==56) (.lv (Q2y c 7 0) λ(x0:Q05)=> .lf (x0,{B6:=0,D1:=0,D9:=0,Value:=0})) (.br (i.Op==57) (.lv (Qhz c) λ(x1:Q05)=> .lf (x1,{B6:=0,D1:=0,D9:=0,Value:=0})) (.br (i.Op==58) (.cn (bT 0 1&&decide (0<=i.Imm/\i.Imm<(↑8:Int))) (let E3:=aK (A8.l c.B5) i.Imm.toNat 0; .an (Q3r c i.A E3) (.lv (Q23 c i.A E3) λ(x2:Q05)=> .lf ({X:=x2.X,Pc:=wrap u32 (x2.Pc+4),B5:=x2.B5},{B6:=0,D1:=0,D9:=0,Value:=0})))) (let E2:=bT 0 1&&decide (0<=i.A/\i.A<(↑16:Int)); .br (i.Op==59) (.cn E2 (let E4:=aK (A16.l c.X) i.A.toNat 0; .an (Qr7 c (wrap i64 i.Imm) E4) (.lv (Qhq c (wrap i64 i.Imm) E4) λ(x3:Q05)=> .lf ({X:=x3.X,Pc:=wrap u32 (x3.Pc+4),B5:=x3.B5},{B6:=0,D1:=0,D9:=0,Value:=0})))) (let E1:=({X:=c.X,Pc:=wrap u32 (c.Pc+4),B5:=c.B5}:Q05); .br (i.Op==60) (.lf (E1,{B6:=1,D1:=wrap i64 i.Imm,D9:=i.A,Value:=0})) (.br (i.Op==61) (.cn E2 (.lf (E1,{B6:=2,D1:=wrap i64 i.Imm,D9:=0,Value:=aK (A16.l c.X) i.A.toNat 0}))) (.br (i.Op==62) (.lf (E1,{B6:=3,D1:=0,D9:=0,Value:=0})) (.br (i.Op==63) (.lf (E1,{B6:=5,D1:=0,D9:=0,Value:=0})) (.br (i.Op==64) (.lf (E1,{B6:=4,D1:=0,D9:=0,Value:=0})) (.lf (E1,{B6:=0,D1:=0,D9:=0,Value:=0}))))))))))
def Qiz c i:=(Q8a c i).m
abbrev Qoe c i:=(Q8a c i).p
def Z9l:Q0e:=mT 256 [] true [.agg Q05.sig, .agg Q0m.sig] [] (λa r=>Q8a (Q05.of (aC a 0)) (Q0m.of (aC a 1))) (λX=> .tup [.agg (Q05.cells (X.1)), .agg (Q18.cells (X.2))]) (λX=>[])
theorem Z5w:Q06 pG Z9l:=oT (.cons Qk1 (.cons Z5r (.cons Qi1 (.cons Zbm (.nil))))) Tryz.func256 Tryz.call256 [] [] 2
def Qxl(op a b:Int):Tree Bool:=
.br (op==40) (.lf (a==b)) (.br (op==41) (.lf (a !=b)) (.br (op==42) (.lf (decide (wrap i32 a<wrap i32 b))) (.br (op==43) (.lf (decide (wrap i32 a>=wrap i32 b))) (.br (op==44) (.lf (decide (a<b))) (.lf (decide (a>=b)))))))
def Q2f op a b:=(Qxl op a b).m
def Zge:Q0e:=mS 299 [] true [.one (.int .i64), .one (.int .u32), .one (.int .u32)] [] (λa r=>Qxl (argI a 0) (argI a 1) (argI a 2)) (λX=> .bool X) (λX=>[])
theorem Zan:Q06 pG Zge:=oS (.nil) Tryz.func299 Tryz.call299 [] [] 2
def Qjd(c:Q05)(i:Q0m):Tree Q05:=
.br (i.Op==48) (.an (Q3r c i.A (wrap u32 (c.Pc+4))) (.lv (Q23 c i.A (wrap u32 (c.Pc+4))) λ(x0:Q05)=> .lf ({X:=x0.X,Pc:=wrap u32 (c.Pc+wrap u32 (4*wrap u32 i.Imm)),B5:=x0.B5}))) (let E1:=bT 0 1&&decide (0<=i.B/\i.B<(↑16:Int)); .br (i.Op==49) (.cn E1 (.an (Q3r c i.A (wrap u32 (c.Pc+4))) (.lv (Q23 c i.A (wrap u32 (c.Pc+4))) λ(x1:Q05)=> .lf ({X:=x1.X,Pc:=wrap u32 (aK (A16.l c.X) i.B.toNat 0+wrap u32 i.Imm),B5:=x1.B5})))) (.cn (bT 0 1&&decide (0<=i.A/\i.A<(↑16:Int))) (.cn E1 (.lv (Q2f i.Op (aK (A16.l c.X) i.A.toNat 0) (aK (A16.l c.X) i.B.toNat 0)) λ(x2:Bool)=> .br x2 (.lf ({X:=c.X,Pc:=wrap u32 (c.Pc+wrap u32 (4*wrap u32 i.Imm)),B5:=c.B5})) (.lf ({X:=c.X,Pc:=wrap u32 (c.Pc+4),B5:=c.B5}))))))
def Z36 c i:=(Qjd c i).m
abbrev Qtv c i:=(Qjd c i).p
def Zje:Q0e:=mT 257 [] true [.agg Q05.sig, .agg Q0m.sig] [] (λa r=>Qjd (Q05.of (aC a 0)) (Q0m.of (aC a 1))) (λX=> .agg (Q05.cells X)) (λX=>[])
theorem Zco:Q06 pG Zje:=oT (.cons Qi1 (.cons Zan (.nil))) Tryz.func257 Tryz.call257 [] [] 2
def Q7n(x n:Int):Tree Int:=
.br (decide (n<1)) (.lf 0) (.br (decide (n>=32)) (.lf x) (.cn (decide (0<=wrap u64 n)) (.cn (decide (0<=wrap u64 (wrap i64 (n-1)))) (let E1:=iand u32 x (wrap u32 (ishl u32 1 (wrap u64 n)-1)); .br (ishr u32 E1 (wrap u64 (wrap i64 (n-1)))==1) (.cn (decide (0<=wrap u64 n)) (.lf (ior u32 E1 (ishl u32 4294967295 (wrap u64 n))))) (.lf E1)))))
def Q3l x n:=(Q7n x n).m
abbrev Qca x n:=(Q7n x n).p
def Qve:Q0e:=mT 301 [] true [.one (.int .u32), .one (.int .i64)] [] (λa r=>Q7n (argI a 0) (argI a 1)) (λX=> .int .u32 X) (λX=>[])
theorem Qt7:Q06 pG Qve:=oT (.nil) Tryz.func301 Tryz.call301 [] [] 2
def Qa(c:Q05)(m:List Int)(i:Q0m):Tree (Q05×(List Int)):=
.cn (bT 0 1&&decide (0<=i.B/\i.B<(↑16:Int))) (let E4:=wrap u32 (aK (A16.l c.X) i.B.toNat 0+wrap u32 i.Imm);let E5:=aK (A16.l c.X) i.A.toNat 0;let E6:=bT 0 1&&decide (0<=i.A/\i.A<(↑16:Int));let E7:=({X:=c.X,Pc:=wrap u32 (c.Pc+4),B5:=c.B5}:Q05);let T1:Tree ((Q05×(List Int))):=let T3:Tree ((Q05×(List Int))):= .an (Q8v c m E4 4 3) (.lv (Q17 c m E4 4 3) λ(x0:Int×Int×List Int)=> .br (x0.2.1 !=0) (.lv (Q2y c x0.2.1 E4) λ(x1:Q05)=> .lf (x1,x0.2.2)) (.cn E6 (.an (Qfl x0.2.2 x0.1 4 E5) (.lv (Qa2 x0.2.2 x0.1 4 E5) λ(x2:List Int)=> .lf (E7,x2))))); .br (i.Op==35) T3 (.br (i.Op==36) T3 (.an (Q8v c m E4 4 2) (.lv (Q17 c m E4 4 2) λ(x6:Int×Int×List Int)=> .br (x6.2.1 !=0) (.lv (Q2y c x6.2.1 E4) λ(x7:Q05)=> .lf (x7,x6.2.2)) (.an (Qdq x6.2.2 x6.1 4) (.lv (Q1g x6.2.2 x6.1 4) λ(x8:Int×Bool)=> .br (i.Op==33) (.an (Qca x8.1 8) (.lv (Q3l x8.1 8) λ(x9:Int)=> .an (Q3r c i.A x9) (.lv (Q23 c i.A x9) λ(x10:Q05)=> .lf ({X:=x10.X,Pc:=wrap u32 (x10.Pc+4),B5:=x10.B5},x6.2.2)))) (.an (Q3r c i.A x8.1) (.lv (Q23 c i.A x8.1) λ(x11:Q05)=> .lf ({X:=x11.X,Pc:=wrap u32 (x11.Pc+4),B5:=x11.B5},x6.2.2)))))))); .br (i.Op==32) T1 (.br (i.Op==35) T1 (let T2:Tree ((Q05×(List Int))):= .an (Q8v c m E4 1 3) (.lv (Q17 c m E4 1 3) λ(x24:Int×Int×List Int)=> .br (x24.2.1 !=0) (.lv (Q2y c x24.2.1 E4) λ(x25:Q05)=> .lf (x25,x24.2.2)) (.cn E6 (.an (Qfl x24.2.2 x24.1 1 E5) (.lv (Qa2 x24.2.2 x24.1 1 E5) λ(x26:List Int)=> .lf (E7,x26))))); .br (i.Op==35) T2 (.br (i.Op==36) T2 (.an (Q8v c m E4 1 2) (.lv (Q17 c m E4 1 2) λ(x30:Int×Int×List Int)=> .br (x30.2.1 !=0) (.lv (Q2y c x30.2.1 E4) λ(x31:Q05)=> .lf (x31,x30.2.2)) (.an (Qdq x30.2.2 x30.1 1) (.lv (Q1g x30.2.2 x30.1 1) λ(x32:Int×Bool)=> .br (i.Op==33) (.an (Qca x32.1 8) (.lv (Q3l x32.1 8) λ(x33:Int)=> .an (Q3r c i.A x33) (.lv (Q23 c i.A x33) λ(x34:Q05)=> .lf ({X:=x34.X,Pc:=wrap u32 (x34.Pc+4),B5:=x34.B5},x30.2.2)))) (.an (Q3r c i.A x32.1) (.lv (Q23 c i.A x32.1) λ(x35:Q05)=> .lf ({X:=x35.X,Pc:=wrap u32 (x35.Pc+4),B5:=x35.B5},x30.2.2)))))))))))
def Q53 c m i:=(Qa c m i).m
abbrev Qkq c m i:=(Qa c m i).p
def Z3k:Q0e:=mT 258 [false,true,false] true [.agg Q05.sig, .one (.row 0), .agg Q0m.sig] [.arr 25 1 (.ints .u32)] (λa r=>Qa (Q05.of (aC a 0)) (rowL .u32 r 0) (Q0m.of (aC a 2))) (λX=> .agg (Q05.cells (X.1))) (λX=>[⟨false,25,1, .ints .u32 (X.2)⟩])
theorem Qzs:Q06 pG Z3k:=oT (.cons Qst (.cons Qk1 (.cons Z1 (.cons Qom (.cons Qt7 (.cons Qi1 (.nil))))))) Tryz.func258 Tryz.call258 [] [] 2
def Qyk(op:Int):Tree Int:=
.br (op==16) (.lf 1) (.br (op==17) (.lf 3) (.br (op==18) (.lf 4) (.br (op==19) (.lf 5) (.br (op==20) (.lf 6) (.br (op==21) (.lf 7) (.br (op==22) (.lf 8) (.br (op==23) (.lf 12) (.lf op))))))))
def Z7a op:=(Qyk op).m
def Zf8:Q0e:=mS 302 [] true [.one (.int .i64)] [] (λa r=>Qyk (argI a 0)) (λX=> .int .i64 X) (λX=>[])
theorem Zat:Q06 pG Zf8:=oS (.nil) Tryz.func302 Tryz.call302 [] [] 2
def Qa9(a b:Int):Tree (Int×Int):=
.br (b==0) (.lf (4294967295,a)) (.cn (decide (wrap i64 (wrap i32 b)≠0)) (.cn (decide (wrap i64 (wrap i32 b)≠0)) (.lf (wrap u32 (wrap i64 (eQ (wrap i64 (wrap i32 a)) (wrap i64 (wrap i32 b)))),wrap u32 (dA (wrap i64 (wrap i32 a)) (wrap i64 (wrap i32 b)))))))
def Qce a b:=(Qa9 a b).m
abbrev Qie a b:=(Qa9 a b).p
def Zbg:Q0e:=mT 303 [] true [.one (.int .u32), .one (.int .u32)] [] (λa r=>Qa9 (argI a 0) (argI a 1)) (λX=> .tup [.int .u32 (X.1), .int .u32 (X.2)]) (λX=>[])
theorem Z50:Q06 pG Zbg:=oT (.nil) Tryz.func303 Tryz.call303 [] [] 2
def Qlg(op a b:Int):Tree (Int×Bool):=
.lv (Z7a op) λ(x0:Int)=> .br (x0==1) (.lf (wrap u32 (a+b),true)) (.br (x0==2) (.lf (wrap u32 (a-b),true)) (.br (x0==3) (.lf (iand u32 a b,true)) (.br (x0==4) (.lf (ior u32 a b,true)) (.br (x0==5) (.lf (ixor u32 a b,true)) (.br (x0==6) (.lf (ishl u32 a (iand u32 b 31),true)) (.br (x0==7) (.lf (ishr u32 a (iand u32 b 31),true)) (.br (x0==8) (.lf (wrap u32 (ishr i32 (wrap i32 a) (iand u32 b 31)),true)) (.br (x0==9) (.lf (wrap u32 (a*b),true)) (.br (x0==10) (.an (Qie a b) (.lv (Qce a b) λ(x1:Int×Int)=> .lf (x1.1,true))) (.br (x0==11) (.an (Qie a b) (.lv (Qce a b) λ(x2:Int×Int)=> .lf (x2.2,true))) (.br (x0==12) (.lv (Qc (decide (wrap i32 a<wrap i32 b))) λ(x3:Int)=> .lf (x3,true)) (.br (x0==13) (.lv (Qc (decide (a<b))) λ(x4:Int)=> .lf (x4,true)) (.lf (0,false))))))))))))))
def Qdr op a b:=(Qlg op a b).m
abbrev Qnv op a b:=(Qlg op a b).p
def Zoj:Q0e:=mT 259 [] true [.one (.int .i64), .one (.int .u32), .one (.int .u32)] [] (λa r=>Qlg (argI a 0) (argI a 1) (argI a 2)) (λX=> .tup [.int .u32 (X.1), .bool (X.2)]) (λX=>[])
theorem Zhl:Q06 pG Zoj:=oT (.cons Zat (.cons Z50 (.cons Qru (.nil)))) Tryz.func259 Tryz.call259 [] [] 2
def Qo4(c:Q05)(m:List Int):Tree (Q05×Q18×(List Int)):=
.an (Q8v c m c.Pc 4 1) (.lv (Q17 c m c.Pc 4 1) λ(x0:Int×Int×List Int)=> .br (x0.2.1 !=0) (.lv (Q2y c x0.2.1 c.Pc) λ(x1:Q05)=> .lf (x1,{B6:=0,D1:=0,D9:=0,Value:=0},x0.2.2)) (.an (Qdq x0.2.2 x0.1 4) (.lv (Q1g x0.2.2 x0.1 4) λ(x2:Int×Bool)=> .lv (Q26 x2.1) λ(x3:Q0m×Bool)=> .br (!x3.2) (.lv (Q2y c 1 x2.1) λ(x4:Q05)=> .lf (x4,{B6:=0,D1:=0,D9:=0,Value:=0},x0.2.2)) (.lv (Q3j x3.1.Op) λ(x5:Bool)=>let T1:Tree ((Q05×Q18×(List Int))):= .br (decide (x3.1.Op>=56)) (.an (Qoe c x3.1) (.lv (Qiz c x3.1) λ(x7:Q05×Q18)=> .lf (x7.1,x7.2,x0.2.2))) (.br (decide (x3.1.Op>=40)) (.an (Qtv c x3.1) (.lv (Z36 c x3.1) λ(x8:Q05)=> .lf (x8,{B6:=0,D1:=0,D9:=0,Value:=0},x0.2.2))) (.br (decide (x3.1.Op>=32)) (.an (Qkq c x0.2.2 x3.1) (.lv (Q53 c x0.2.2 x3.1) λ(x9:Q05×List Int)=> .lf (x9.1,{B6:=0,D1:=0,D9:=0,Value:=0},x9.2))) (.br (x3.1.Op==24) (.an (Q3r c x3.1.A (ishl u32 (wrap u32 x3.1.Imm) 16)) (.lv (Q23 c x3.1.A (ishl u32 (wrap u32 x3.1.Imm) 16)) λ(x10:Q05)=> .lf ({X:=x10.X,Pc:=wrap u32 (x10.Pc+4),B5:=x10.B5},{B6:=0,D1:=0,D9:=0,Value:=0},x0.2.2))) (let E2:=aK (A16.l c.X) x3.1.B.toNat 0;let E3:=bT 0 1&&decide (0<=x3.1.B/\x3.1.B<(↑16:Int)); .br (decide (x3.1.Op<=13)) (.cn (bT 0 1&&decide (0<=x3.1.C/\x3.1.C<(↑16:Int))) (.cn E3 (let E4:=aK (A16.l c.X) x3.1.C.toNat 0; .an (Qnv x3.1.Op E2 E4) (.lv (Qdr x3.1.Op E2 E4) λ(x11:Int×Bool)=> .an (Q3r c x3.1.A x11.1) (.lv (Q23 c x3.1.A x11.1) λ(x12:Q05)=> .lf ({X:=x12.X,Pc:=wrap u32 (x12.Pc+4),B5:=x12.B5},{B6:=0,D1:=0,D9:=0,Value:=0},x0.2.2)))))) (.cn E3 (.an (Qnv x3.1.Op E2 (wrap u32 x3.1.Imm)) (.lv (Qdr x3.1.Op E2 (wrap u32 x3.1.Imm)) λ(x13:Int×Bool)=> .an (Q3r c x3.1.A x13.1) (.lv (Q23 c x3.1.A x13.1) λ(x14:Q05)=> .lf ({X:=x14.X,Pc:=wrap u32 (x14.Pc+4),B5:=x14.B5},{B6:=0,D1:=0,D9:=0,Value:=0},x0.2.2))))))))); .br x5 (.br (iand u32 c.B5.a0 (1:Int)==(0:Int)) (.lv (Q2y c 2 x2.1) λ(x6:Q05)=> .lf (x6,{B6:=0,D1:=0,D9:=0,Value:=0},x0.2.2)) T1) T1))))
def Qci c m:=(Qo4 c m).m
abbrev Z13 c m:=(Qo4 c m).p
def vB:Q0e:=mT 217 [false,true] true [.agg Q05.sig, .one (.row 0)] [.arr 25 1 (.ints .u32)] (λa r=>Qo4 (Q05.of (aC a 0)) (rowL .u32 r 0)) (λX=> .tup [.agg (Q05.cells (X.1)), .agg (Q18.cells (X.2.1))]) (λX=>[⟨false,25,1, .ints .u32 (X.2.2)⟩])
theorem Znr:Q06 pG vB:=oT (.cons Qst (.cons Qk1 (.cons Qom (.cons Qql (.cons Qu3 (.cons Z5w (.cons Zco (.cons Qzs (.cons Qi1 (.cons Zhl (.nil))))))))))) Tryz.func217 Tryz.call217 [] [] 2
end
noncomputable section
def Qik(steps:Int):Tree Int:=
.lf (if 4000<if 0>steps then 0 else steps then 4000 else if 0>steps then 0 else steps)
def Q0o steps:=(Qik steps).m
def Z6i(t:Q0i)(now:Int):Tree Bool:=
.br t.D2 (.lf (decide (now>=t.C8))) (.lf false)
def Q7h t now:=(Z6i t now).m
def Qec(m:Q00)(z:(Int)):Nat:=(32-z).toNat
def Q4r(m:Q00):Tree Q05:=
.an (Qgq m) (.lv (Q36 m) λ(x0:Int)=> .br (iand u32 m.B1.B5.a0 (2:Int)==(0:Int)) (.lf m.B1) (.br (x0==0) (.lf m.B1) (.lp inferInstance (Qec m 0+1) ((rZ/\rZ/\rE (x0:Int)/\rE (0:Int)/\True)/\(mE m (((Els.Nil (Els.ints u32 m.Mem)\/rE (1:Nat))/\rE m.Mem)) True)/\(rE (0:Int)/\rE (0:Int)/\rE (0:Int)/\rE (0:Int)/\rE (0:Int)/\rE (0:Int)/\rE (0:Int)/\rE (0:Int)/\rE (0:Int)/\rE (0:Int)/\rE (0:Int)/\rE (0:Int)/\rE (0:Int)/\rE (0:Int)/\rE (0:Int)/\rE (0:Int)/\rE (0:Int)/\rE (0:Int)/\rE (0:Int)/\rE (0:Int)/\rE (0:Int)/\rE (0:Int)/\rE (0:Int)/\rE (0:Int)/\rE (0:Int)/\True)/\True) 0 λ(v0:Int)=> .cn (decide (0<=wrap u64 v0)) (.br (iand u32 (ishr u32 x0 (wrap u64 v0)) (1:Int)==(0:Int)) (.nx ((rZ/\rZ/\rE (x0:Int)/\rE ((wrap i64 (v0+1)):Int)/\True)/\(mE m (((Els.Nil (Els.ints u32 m.Mem)\/rE (1:Nat))/\rE m.Mem)) True)/\(rE (0:Int)/\rE (0:Int)/\rE (0:Int)/\rE (0:Int)/\rE (0:Int)/\rE (0:Int)/\rE (0:Int)/\rE (0:Int)/\rE (0:Int)/\rE (0:Int)/\rE (0:Int)/\rE (0:Int)/\rE (0:Int)/\rE (0:Int)/\rE (0:Int)/\rE (0:Int)/\rE (0:Int)/\rE (0:Int)/\rE (0:Int)/\rE (0:Int)/\rE (0:Int)/\rE (0:Int)/\rE (0:Int)/\rE (0:Int)/\rE (0:Int)/\True)/\True) (Sum.inl (wrap i64 (v0+1)))) (.lv (Q2y m.B1 (wrap i64 (16+v0)) 0) λ(x1:Q05)=> .lf (Sum.inr x1))))))
def Q0t m:=(Q4r m).m
abbrev Qax m:=(Q4r m).p
def Qrs:LInv:={
 α:=(Int)
 F:=λst a=>([(1, .ptr 0 0 0),(2, .ptr 1 0 0),(3,(lk st 3)),(4, .int i64 a)],[⟨true,43,49, .gen [mB (cT st 1)]⟩,⟨true,29,25, .gen [[(cT st 2 0),(cT st 2 1),(cT st 2 2),(cT st 2 3),(cT st 2 4),(cT st 2 5),(cT st 2 6),(cT st 2 7),(cT st 2 8),(cT st 2 9),(cT st 2 10),(cT st 2 11),(cT st 2 12),(cT st 2 13),(cT st 2 14),(cT st 2 15),(cT st 2 16),(cT st 2 17),(cT st 2 18),(cT st 2 19),(cT st 2 20),(cT st 2 21),(cT st 2 22),(cT st 2 23),(cT st 2 24)]]⟩])
 a0:=λst=>(lk st 4).toInt
 ex0:=λst=>[]++[(rX st 1 0),(rX st 2 1)]}
def Qnu:List (Nat×LInv):=[(5,Qrs)]
def Quf:Q0e:=mT 186 [] true [.agg Q00.sig] [] (λa r=>Q4r (Q00.of (aC a 0))) (λX=> .agg (Q05.cells X)) (λX=>[])
theorem Qix:Q06 pG Quf:=oT (.cons Qo6 (.cons Qk1 (.nil))) Tryz.func186 Tryz.call186 [] Qnu 3
def Qg4(m:Q00):Tree Bool:=
.an (Qax m) (.lv (Q0t m) λ(x0:Q05)=> .br (iand u32 x0.B5.a0 (1:Int)==(0:Int)) (.lf false) (.an (Qdq m.Mem x0.Pc 4) (.lv (Q1g m.Mem x0.Pc 4) λ(x1:Int×Bool)=> .lv (Q26 x1.1) λ(x2:Q0m×Bool)=> .br x1.2 (.br x2.2 (.br (x2.1.Op==60) (.lf (x2.1.Imm==2)) (.lf false)) (.lf false)) (.lf false))))
def Qet m:=(Qg4 m).m
abbrev Qkl m:=(Qg4 m).p
def Zfn:Q0e:=mT 116 [] true [.agg Q00.sig] [] (λa r=>Qg4 (Q00.of (aC a 0))) (λX=> .bool X) (λX=>[])
theorem Zb1:Q06 pG Zfn:=oT (.cons Qix (.cons Qom (.cons Qql (.nil)))) Tryz.func116 Tryz.call116 [] [] 2
def Qwi(m:Q00):Tree Bool:=
.an (Z5o m) (.lv (Q0r m) λ(x0:Bool)=> .br x0 (.lf false) (.an (Qkl m) (.lv (Qet m) λ(x1:Bool)=> .lf x1)))
def Q0g m:=(Qwi m).m
def Q3o(c:Q0d)(port:Int):Tree (Q0d×Int):=
let T1:Tree ((Q0d×Int)):= .br (port==0) (.cn (decide ((0:Int)<=(1:Int)/\1<=(c.D3.length:Int)/\(c.D3.length:Int)<=(c.D3.length:Int))) (.cn (decide ((0:Int)<=(0:Int)/\0<(c.D3.length:Int))) (.lf ({D3:=cW (dB (c.D3.length:Int)-dB 1) (cX (dB 1) c.D3)},wrap u32 (↑(eS (c.D3.getD (dB 0) (0:UInt8))):Int))))) (.br (port==1) (.lf (c,wrap u32 (c.D3.length:Int))) (.lf (c,0))); .br (port==0) (.br ((c.D3.length:Int)==(0:Int)) (.lf (c,4294967295)) T1) T1
def Q74 c port:=(Q3o c port).m
theorem Qtn(c:Q0d)(port:Int):(Q3o c port).p:=by
 unfold Tree.p Q3o
 repeat'(first|exact trivial|refine w_br (λ_=> ?_) (λ_=> ?_)|refine w_cn ?_ ?_|refine w_an ?_ ?_|refine w_lv (λ_ _=> ?_)|refine w_nx ?_|refine w_lf ?_|refine And.intro ?_ ?_)
 all_goals(exact fin0)
def Qzn:Q0e:=mS 260 [] true [.agg Q0d.sig, .one (.int .i64)] [] (λa r=>Q3o (Q0d.of (aC a 0)) (argI a 1)) (λX=> .tup [.agg (Q0d.cells (X.1)), .int .u32 (X.2)]) (λX=>[])
theorem Qv3:Q06 pG Qzn:=oS (.nil) Tryz.func260 Tryz.call260 [] [] 2 (λ_ _ _=>by kernel_rfl) (λa r=>Qtn (Q0d.of (aC a 0)) (argI a 1)) (λ_ X=>by kernel_rfl)
def Qfa(t:Q0i):Tree Int:=
.br t.D5 (.lf 1) (.lf 0)
def Qk2 t:=(Qfa t).m
def Z4u:Q0e:=mS 261 [] true [.agg Q0i.sig] [] (λa r=>Qfa (Q0i.of (aC a 0))) (λX=> .int .u32 X) (λX=>[])
theorem Z2t:Q06 pG Z4u:=oS (.nil) Tryz.func261 Tryz.call261 [] [] 2
def Qh2(d0:Q0f)(port:Int):Tree Int:=
.br (port==4) (.lf d0.C2) (.br (port==5) (.lf d0.Frame) (.br (port==6) (.lf (wrap u32 d0.C0)) (.lf 0)))
def Qm9 d0 port:=(Qh2 d0 port).m
def Zar:Q0e:=mS 262 [] true [.agg Q0f.sig, .one (.int .i64)] [] (λa r=>Qh2 (Q0f.of (aC a 0)) (argI a 1)) (λX=> .int .u32 X) (λX=>[])
theorem Z5y:Q06 pG Zar:=oS (.nil) Tryz.func262 Tryz.call262 [] [] 2
def Qga(n:Q0q)(port:Int):Tree Int:=
.br (port==7) (.lf n.Frame) (.br (port==8) (.lf n.F1) (.br (port==9) (.br n.C7 (.br n.B8 (.lf (wrap u32 ((1:Int)+(2:Int)))) (.lf 1)) (.br n.B8 (.lf (wrap u32 ((0:Int)+(2:Int)))) (.lf 0))) (.lf 0)))
def Ql6 n port:=(Qga n port).m
def Zdc:Q0e:=mS 263 [] true [.agg Q0q.sig, .one (.int .i64)] [] (λa r=>Qga (Q0q.of (aC a 0)) (argI a 1)) (λX=> .int .u32 X) (λX=>[])
theorem Z8v:Q06 pG Zdc:=oS (.nil) Tryz.func263 Tryz.call263 [] [] 2
def Q6c(b:Q09)(port:Int):Tree Int:=
.br (port==10) (.lf b.D0) (.br (port==11) (.lv (Qf0 b) λ(x0:Int)=> .lf (wrap u32 x0)) (.lf 0))
def Q73 b port:=(Q6c b port).m
def Qyu:Q0e:=mS 264 [] true [.agg Q09.sig, .one (.int .i64)] [] (λa r=>Q6c (Q09.of (aC a 0)) (argI a 1)) (λX=> .int .u32 X) (λX=>[])
theorem Qvr:Q06 pG Qyu:=oS (.cons Qt9 (.nil)) Tryz.func264 Tryz.call264 [] [] 2
def Qo0(m:Q00)(port clock:Int):Tree (Int×Q00):=
.br (decide (port<=1)) (.lv (Q74 m.A4 port) λ(x0:Q0d×Int)=> .lf (x0.2,{B1:=m.B1,Mem:=m.Mem,A4:=x0.1,B0:=m.B0,B2:=m.B2,C6:=m.C6,A2:=m.A2,A1:=m.A1,A7:=m.A7,A9:=m.A9})) (.br (port==2) (.lf (clock,m)) (.br (port==3) (.lv (Qk2 m.B0) λ(x1:Int)=> .lf (x1,m)) (.br (decide (port<=6)) (.lv (Qm9 m.B2 port) λ(x2:Int)=> .lf (x2,m)) (.br (decide (port<=9)) (.lv (Ql6 m.C6 port) λ(x3:Int)=> .lf (x3,m)) (.lv (Q73 m.A2 port) λ(x4:Int)=> .lf (x4,m))))))
def Qj4 m port clock:=(Qo0 m port clock).m
def qC:Q0e:=mS 218 [true,false,false] true [.ptr 0, .one (.int .i64), .one (.int .u32)] [.box 43 49 (Q00.sigW (.row 1)), .arr 25 1 (.ints .u32)] (λa r=>Qo0 (Q00.ofW (r.getD 0 default).cs (rowL .u32 r 1)) (argI a 1) (argI a 2)) (λX=> .int .u32 (X.1)) (λX=>[⟨true,43,49, .gen [(Q00.cellsW (X.2) (.all 1))]⟩,⟨false,25,1, .ints .u32 (X.2).Mem⟩])
theorem Zm8:Q06 pG qC:=oS (.cons Qv3 (.cons Z2t (.cons Z5y (.cons Z8v (.cons Qvr (.nil)))))) Tryz.func218 Tryz.call218 [.row 25 1 (.ints .u32)] [] 2
def Qwr(deadline:Int):Tree Q0i:=
.br (deadline==0) (.lf ({D2:=false,C8:=0,D5:=false})) (.lf ({D2:=true,C8:=deadline,D5:=false}))
def Z05 deadline:=(Qwr deadline).m
def Zo:Q0e:=mS 265 [] true [.one (.int .u32)] [] (λa r=>Qwr (argI a 0)) (λX=> .agg (Q0i.cells X)) (λX=>[])
theorem Zj2:Q06 pG Zo:=oS (.nil) Tryz.func265 Tryz.call265 [] [] 2
def Qtp(x n:Int)(z:(Int)×(List Int)):Prop:=0<=z.1/\(z.2.length:Int)=z.1/\(z.1<=n\/z.1=0)
def Qf6(x n:Int)(z:(Int)×(List Int)):Nat:=(n-z.1).toNat
def Qhj(x n:Int):Tree (List UInt8):=
.lp inferInstance (Qf6 x n (0,[])+1) ((rE (x:Int)/\rE (n:Int)/\True/\rE (0:Int)/\True)/\rE ([]:List Int)/\True) (0,[]) λ(v0:Int×List Int)=> .br (decide (v0.1<n)) (.cn (decide (0<=wrap u64 (wrap i64 (8*v0.1)))) (.cn (decide (1*(v0.2.length+1)<=140737488355328)) (.nx ((rE (x:Int)/\rE (n:Int)/\True/\rE ((wrap i64 (v0.1+1)):Int)/\True)/\rE ((v0.2++[wrap u8 (ishr u32 x (wrap u64 (wrap i64 (8*v0.1))))]):List Int)/\True) (Sum.inl (wrap i64 (v0.1+1),v0.2++[wrap u8 (ishr u32 x (wrap u64 (wrap i64 (8*v0.1))))]))))) (.lf (Sum.inr (bytesOf v0.2)))
def Zav x n:=(Qhj x n).m
def Qkb(x n:Int):Prop:=
n<=1000000000000
theorem Zes(x n:Int)(hw:Qkb x n):(Qhj x n).p:=by
 simp only[Qkb]at hw
 unfold Tree.p Qhj
 repeat'(first|refine w_lp (inv:=Qtp x n) (μ:=Qf6 x n) ?_ (cK _) (λ_ _=> ?_)|exact trivial|refine w_br (λ_=> ?_) (λ_=> ?_)|refine w_cn ?_ ?_|refine w_an ?_ ?_|refine w_lv (λ_ _=> ?_)|refine w_nx ?_|refine w_lf ?_|refine And.intro ?_ ?_)
 all_goals((try simp only[Qtp,Qf6]at*);exact fin0)
def Zhe:LInv:={
 α:=(Int)×(List Int)
 F:=λst a=>([(0,(lk st 0)),(1,(lk st 1)),(5, .all 0),(6, .int i64 a.1)],[⟨false,5,1, .ints u8 a.2⟩])
 a0:=λst=>((lk st 6).toInt,(Q7d st.rows (rN st 5)))
 ex0:=λst=>[]++[(rX st 5 0)]}
def Zae:List (Nat×LInv):=[(3,Zhe)]
def Zn2:Q0e:=mkP 315 [] true [.one (.int .u32), .one (.int .i64)] [] (λa r=>Qkb (argI a 0) (argI a 1)) (λa r=>Zav (argI a 0) (argI a 1)) (λX=> .str X) (λX=>[])
theorem Zid:Q06 pG Zn2:=Q0p drawn Q0l (.nil) Tryz.func315 Tryz.call315 (λa r=>Qhj (argI a 0) (argI a 1)) [] Zae 3 (hp:=λa r h=>Zes (argI a 0) (argI a 1) h)
def Qin(m:List Int)(frame:Int)(z:(Int)×(List Int)):Nat:=(32-z.1).toNat
def Q98(m:List Int)(frame:Int):Tree ((List UInt8)×Bool):=
.br (decide (frame<0)) (.lf ([],false)) (.lv (Q3x m) λ(x0:Int)=> .br (decide (frame>=x0)) (.lf ([],false)) (.lp inferInstance (Qin m frame (0,[])+1) ((((Els.Nil (Els.ints u32 m)\/rE (1:Nat))/\rE (m:List Int))/\rE (frame:Int)/\True/\rE (0:Int)/\True)/\rE ([]:List Int)/\True) (0,[]) λ(v0:Int×List Int)=> .br (decide (v0.1<32)) (.cn (bS 1 1&&bT 0 1&&decide (0<=wrap i64 (wrap i64 (frame*32)+v0.1)/\wrap i64 (wrap i64 (frame*32)+v0.1)<(m.length:Int))) (let E1:=m.getD (dB (wrap i64 (wrap i64 (frame*32)+v0.1))) 0; .an (Qkb E1 4) (.lv (Zav E1 4) λ(x1:List UInt8)=> .cn (decide (1*(v0.2.length+dG (Qb8 x1))<=140737488355328)) (.nx ((((Els.Nil (Els.ints u32 m)\/rE (1:Nat))/\rE (m:List Int))/\rE (frame:Int)/\True/\rE ((wrap i64 (v0.1+1)):Int)/\True)/\rE ((v0.2++Qb8 x1):List Int)/\True) (Sum.inl (wrap i64 (v0.1+1),v0.2++Qb8 x1)))))) (.lf (Sum.inr (bytesOf v0.2,true)))))
def Qi7 m frame:=(Q98 m frame).m
abbrev Qhd m frame:=(Q98 m frame).p
def Zen:LInv:={
 α:=(Int)×(List Int)
 F:=λst a=>([(0,(lk st 0)),(1,(lk st 1)),(6, .all 0),(7, .int i64 a.1)],[⟨false,5,1, .ints u8 a.2⟩])
 a0:=λst=>((lk st 7).toInt,(Q7d st.rows (rN st 6)))
 ex0:=λst=>[]++[(rX st 6 0)]}
def Z5m:List (Nat×LInv):=[(5,Zen)]
def Zjk:Q0e:=mT 304 [] true [.one (.ints .u32), .one (.int .i64)] [] (λa r=>Q98 (argL .u32 a 0) (argI a 1)) (λX=> .tup [.str (X.1), .bool (X.2)]) (λX=>[])
theorem Qxy:Q06 pG Zjk:=oT (.cons Qdu (.cons Zid (.nil))) Tryz.func304 Tryz.call304 [] Z5m 3
def Qqx(d0:Q0f)(at0:Int):Tree (Q04×Bool):=
.br (d0.C0 !=1) (.lf ({B6:=0,At:=0,C2:=0,C9:=[]},false)) (.br (d0.D8==1) (.lf ({B6:=3,At:=at0,C2:=d0.B7,C9:=[]},true)) (.br (d0.D8==2) (.lf ({B6:=4,At:=at0,C2:=d0.B7,C9:=d0.C4},true)) (.lf ({B6:=0,At:=0,C2:=0,C9:=[]},false))))
def Qk0 d0 at0:=(Qqx d0 at0).m
def Z4q:Q0e:=mS 305 [] true [.agg Q0f.sig, .one (.int .u64)] [] (λa r=>Qqx (Q0f.of (aC a 0)) (argI a 1)) (λX=> .tup [.agg (Q04.cells (X.1)), .bool (X.2)]) (λX=>[])
theorem Z0z:Q06 pG Z4q:=oS (.nil) Tryz.func305 Tryz.call305 [] [] 2
def Q8u(d0:Q0f)(m:List Int)(port v at0:Int):Tree (Q0f×(List Q04)):=
.br (port==4) (.lf ({Blocks:=d0.Blocks,C2:=v,Frame:=d0.Frame,C0:=d0.C0,D8:=d0.D8,B7:=d0.B7,B3:=d0.B3,C4:=d0.C4},[])) (.br (port==5) (.lf ({Blocks:=d0.Blocks,C2:=d0.C2,Frame:=v,C0:=d0.C0,D8:=d0.D8,B7:=d0.B7,B3:=d0.B3,C4:=d0.C4},[])) (.br (port !=6) (.lf (d0,[])) (let T1:Tree ((Q0f×(List Q04))):= .br (d0.C0==0) (let T2:Tree ((Q0f×(List Q04))):= .lf ({Blocks:=d0.Blocks,C2:=d0.C2,Frame:=d0.Frame,C0:=3,D8:=d0.D8,B7:=d0.B7,B3:=d0.B3,C4:=d0.C4},[]); .br (decide (d0.C2>=d0.Blocks)) T2 (.lv (Q2c m d0.Frame) λ(x0:Bool)=> .br (!x0) T2 (.br (v==2) (.an (Qhd m (wrap i64 d0.Frame)) (.lv (Qi7 m (wrap i64 d0.Frame)) λ(x1:List UInt8×Bool)=>let E4:=({Blocks:=d0.Blocks,C2:=d0.C2,Frame:=d0.Frame,C0:=1,D8:=wrap i64 v,B7:=d0.C2,B3:=d0.Frame,C4:=x1.1}:Q0f); .lv (Qk0 E4 at0) λ(x2:Q04×Bool)=> .lf (E4,[x2.1]))) (let E5:=({Blocks:=d0.Blocks,C2:=d0.C2,Frame:=d0.Frame,C0:=1,D8:=wrap i64 v,B7:=d0.C2,B3:=d0.Frame,C4:=[]}:Q0f); .lv (Qk0 E5 at0) λ(x3:Q04×Bool)=> .lf (E5,[x3.1]))))) (.lf (d0,[])); .br (v==0) (let T3:Tree ((Q0f×(List Q04))):= .lf ({Blocks:=d0.Blocks,C2:=d0.C2,Frame:=d0.Frame,C0:=0,D8:=d0.D8,B7:=d0.B7,B3:=d0.B3,C4:=d0.C4},[]); .br (d0.C0==2) T3 (.br (d0.C0==3) T3 (.br (v==1) T1 (.br (v==2) T1 (.lf (d0,[])))))) (.br (v==1) T1 (.br (v==2) T1 (.lf (d0,[])))))))
def Qk4 d0 m port v at0:=(Q8u d0 m port v at0).m
abbrev Qmu d0 m port v at0:=(Q8u d0 m port v at0).p
def Z5i:Q0e:=mT 266 [] true [.agg Q0f.sig, .one (.ints .u32), .one (.int .i64), .one (.int .u32), .one (.int .u64)] [] (λa r=>Q8u (Q0f.of (aC a 0)) (argL .u32 a 1) (argI a 2) (argI a 3) (argI a 4)) (λX=> .tup [.agg (Q0f.cells (X.1)), .sl 4 (.recs .apiOutput (X.2)) true]) (λX=>[])
theorem Z15:Q06 pG Z5i:=oT (.cons Qgb (.cons Qxy (.cons Z0z (.nil)))) Tryz.func266 Tryz.call266 [.sl (.recs .apiOutput) true] [] 2
def Qas(n:Q0q)(m:List Int)(port v at0:Int):Tree (Q0q×(List Q04)):=
.br (port==7) (.lf ({Frame:=v,E0:=n.E0,C7:=n.C7,B9:=n.B9,B8:=n.B8,F1:=n.F1},[])) (.br (port==8) (.lf ({Frame:=n.Frame,E0:=v,C7:=n.C7,B9:=n.B9,B8:=n.B8,F1:=n.F1},[])) (.br (port !=9) (.lf (n,[])) (.br (v==0) (.lf ({Frame:=n.Frame,E0:=n.E0,C7:=n.C7,B9:=n.B9,B8:=false,F1:=0},[])) (let T1:Tree ((Q0q×(List Q04))):= .br (v==2) (.lv (Q2c m n.Frame) λ(x2:Bool)=> .br x2 (.br (!n.C7) (.br (!n.B8) (.lf ({Frame:=n.Frame,E0:=n.E0,C7:=true,B9:=n.Frame,B8:=n.B8,F1:=n.F1},[])) (.lf (n,[]))) (.lf (n,[]))) (.lf (n,[]))) (.lf (n,[])); .br (v==1) (.br (decide (n.E0>=1)) (.br (decide (n.E0<=128)) (.lv (Q2c m n.Frame) λ(x0:Bool)=> .br x0 (.an (Qhd m (wrap i64 n.Frame)) (.lv (Qi7 m (wrap i64 n.Frame)) λ(x1:List UInt8×Bool)=> .cn (decide ((0:Int)<=(0:Int)/\0<=n.E0/\n.E0<=(x1.1.length:Int))) (.lf (n,[{B6:=2,At:=at0,C2:=0,C9:=cW (dB n.E0-dB 0) (cX (dB 0) x1.1)}])))) T1) T1) T1) T1))))
def Qm7 n m port v at0:=(Qas n m port v at0).m
abbrev Qot n m port v at0:=(Qas n m port v at0).p
def Za1:Q0e:=mT 267 [] true [.agg Q0q.sig, .one (.ints .u32), .one (.int .i64), .one (.int .u32), .one (.int .u64)] [] (λa r=>Qas (Q0q.of (aC a 0)) (argL .u32 a 1) (argI a 2) (argI a 3) (argI a 4)) (λX=> .tup [.agg (Q0q.cells (X.1)), .sl 4 (.recs .apiOutput (X.2)) true]) (λX=>[])
theorem Z5j:Q06 pG Za1:=oT (.cons Qgb (.cons Qxy (.nil))) Tryz.func267 Tryz.call267 [.sl (.recs .apiOutput) true] [] 2
def Qid(b:Q09)(m:List Int)(port v:Int)(z:(Int)×(List Int)):Nat:=(32-z.1).toNat
def Q4y(b:Q09)(m:List Int)(port v:Int):Tree (Q09×(List Int)):=
let T1:Tree ((Q09×(List Int))):= .br (port==11) (.br (decide (v<32)) (.cn (decide (0<=v)) (.lf ({D0:=b.D0,C3:=Qhc u32 b.C3 (ishl u32 1 v)},m))) (.lf (b,m))) (.lf (b,m)); .br (port==10) (.lv (Q2c m v) λ(x0:Bool)=> .br x0 (.cn (decide (0<=v)) (.br (iand u32 (ishr u32 b.C3 v) (1:Int)==(0:Int)) (.cn (decide (0<=v)) (.lp inferInstance (Qid b m port v (0,m)+1) ((True/\rE (v:Int)/\rZ/\rZ/\rE (0:Int)/\True)/\rE (m:List Int)/\(rE b.D0/\rE ((ior u32 b.C3 (ishl u32 1 v)):Int)/\True)/\(rE (0:Int)/\rE (0:Int)/\True)/\True) (0,m) λ(v0:Int×List Int)=> .br (decide (v0.1<32)) (let E2:=wrap i64 (wrap i64 v*32)+v0.1; .cn (bS 1 1&&bT 0 1&&decide (0<=wrap i64 E2/\wrap i64 E2<(v0.2.length:Int))) (.nx ((True/\rE (v:Int)/\rZ/\rZ/\rE ((wrap i64 (v0.1+1)):Int)/\True)/\rE ((dC v0.2 (dB (wrap i64 (wrap i64 (wrap i64 v*32)+v0.1))) 0):List Int)/\(rE b.D0/\rE ((ior u32 b.C3 (ishl u32 1 v)):Int)/\True)/\(rE (0:Int)/\rE (0:Int)/\True)/\True) (Sum.inl (wrap i64 (v0.1+1),dC v0.2 (dB (wrap i64 E2)) 0)))) (.lf (Sum.inr ({D0:=b.D0,C3:=ior u32 b.C3 (ishl u32 1 v)},v0.2))))) T1)) T1) T1
def Q7q b m port v:=(Q4y b m port v).m
abbrev Qsg b m port v:=(Q4y b m port v).p
def Zgk:LInv:={
 α:=(Int)×(List Int)
 F:=λst a=>([(1, .all 0),(3,(lk st 3)),(4, .ptr 1 0 0),(8, .ptr 2 0 0),(9, .int i64 a.1)],[⟨false,25,1, .ints u32 a.2⟩,⟨true,40,2, .gen [[(cT st 4 0),(cT st 4 1)]]⟩,⟨true,40,2, .gen [[(cT st 8 0),(cT st 8 1)]]⟩])
 a0:=λst=>((lk st 9).toInt,(Q7d st.rows 0))
 ex0:=λst=>[0]++[(rX st 4 1),(rX st 8 2)]}
def Z56:List (Nat×LInv):=[(4,Zgk)]
def Zha:Q0e:=mT 268 [false,true,false,false] true [.agg Q09.sig, .one (.row 0), .one (.int .i64), .one (.int .u32)] [.arr 25 1 (.ints .u32)] (λa r=>Q4y (Q09.of (aC a 0)) (rowL .u32 r 0) (argI a 2) (argI a 3)) (λX=> .agg (Q09.cells (X.1))) (λX=>[⟨false,25,1, .ints .u32 (X.2)⟩])
theorem Zh:Q06 pG Zha:=oT (.cons Qgb (.nil)) Tryz.func268 Tryz.call268 [] Z56 3
def Qht(m:Q00)(port v:Int):Tree ((List Q04)×Q00):=
.br (port==0) (.lf ([{B6:=1,At:=m.A1,C2:=0,C9:=[(λ(n:Int)=>eT n.toNat) (wrap u8 v)]}],m)) (.br (decide (port<=2)) (.lf ([],m)) (.br (port==3) (.lv (Z05 v) λ(x0:Q0i)=> .lf ([],{B1:=m.B1,Mem:=m.Mem,A4:=m.A4,B0:=x0,B2:=m.B2,C6:=m.C6,A2:=m.A2,A1:=m.A1,A7:=m.A7,A9:=m.A9})) (.br (decide (port<=6)) (.an (Qmu m.B2 m.Mem port v m.A1) (.lv (Qk4 m.B2 m.Mem port v m.A1) λ(x1:Q0f×List Q04)=> .lf (x1.2,{B1:=m.B1,Mem:=m.Mem,A4:=m.A4,B0:=m.B0,B2:=x1.1,C6:=m.C6,A2:=m.A2,A1:=m.A1,A7:=m.A7,A9:=m.A9}))) (.br (decide (port<=9)) (.an (Qot m.C6 m.Mem port v m.A1) (.lv (Qm7 m.C6 m.Mem port v m.A1) λ(x2:Q0q×List Q04)=> .lf (x2.2,{B1:=m.B1,Mem:=m.Mem,A4:=m.A4,B0:=m.B0,B2:=m.B2,C6:=x2.1,A2:=m.A2,A1:=m.A1,A7:=m.A7,A9:=m.A9}))) (.an (Qsg m.A2 m.Mem port v) (.lv (Q7q m.A2 m.Mem port v) λ(x3:Q09×List Int)=> .lf ([],{B1:=m.B1,Mem:=x3.2,A4:=m.A4,B0:=m.B0,B2:=m.B2,C6:=m.C6,A2:=x3.1,A1:=m.A1,A7:=m.A7,A9:=m.A9})))))))
def Qf2 m port v:=(Qht m port v).m
abbrev Qxx m port v:=(Qht m port v).p
def Zoa:Q0e:=mT 220 [true,false,false] true [.ptr 0, .one (.int .i64), .one (.int .u32)] [.box 43 49 (Q00.sigW (.row 1)), .arr 25 1 (.ints .u32)] (λa r=>Qht (Q00.ofW (r.getD 0 default).cs (rowL .u32 r 1)) (argI a 1) (argI a 2)) (λX=> .sl 4 (.recs .apiOutput (X.1)) true) (λX=>[⟨true,43,49, .gen [(Q00.cellsW (X.2) (.all 1))]⟩,⟨false,25,1, .ints .u32 (X.2).Mem⟩])
theorem Zjj:Q06 pG Zoa:=oT (.cons Zj2 (.cons Z15 (.cons Z5j (.cons Zh (.nil))))) Tryz.func220 Tryz.call220 [.sl (.recs .apiOutput) true, .row 25 1 (.ints .u32)] [] 2
def Qbs(m:Q00)(clock:Int):Tree ((List Q04)×Q00):=
.an (Qax m) (.lv (Q0t m) λ(x0:Q05)=> .an (Z13 x0 m.Mem) (.lv (Qci x0 m.Mem) λ(x1:Q05×Q18×List Int)=>let E1:=({B1:=x1.1,Mem:=x1.2.2,A4:=m.A4,B0:=m.B0,B2:=m.B2,C6:=m.C6,A2:=m.A2,A1:=m.A1,A7:=false,A9:=m.A9}:Q00); .br (x1.2.1.B6==1) (.lv (Qj4 E1 x1.2.1.D1 clock) λ(x2:Int×Q00)=> .an (Q3r x2.2.B1 x1.2.1.D9 x2.1) (.lv (Q23 x2.2.B1 x1.2.1.D9 x2.1) λ(x3:Q05)=> .lf ([],{B1:=x3,Mem:=x2.2.Mem,A4:=x2.2.A4,B0:=x2.2.B0,B2:=x2.2.B2,C6:=x2.2.C6,A2:=x2.2.A2,A1:=wrap u64 (x2.2.A1+1),A7:=x2.2.A7,A9:=x2.2.A9}))) (.br (x1.2.1.B6==2) (.an (Qxx E1 x1.2.1.D1 x1.2.1.Value) (.lv (Qf2 E1 x1.2.1.D1 x1.2.1.Value) λ(x4:List Q04×Q00)=> .lf (x4.1,{B1:=x4.2.B1,Mem:=x4.2.Mem,A4:=x4.2.A4,B0:=x4.2.B0,B2:=x4.2.B2,C6:=x4.2.C6,A2:=x4.2.A2,A1:=wrap u64 (x4.2.A1+1),A7:=x4.2.A7,A9:=x4.2.A9}))) (.br (x1.2.1.B6==3) (.lf ([],{B1:=x1.1,Mem:=x1.2.2,A4:=m.A4,B0:=m.B0,B2:=m.B2,C6:=m.C6,A2:=m.A2,A1:=wrap u64 (m.A1+1),A7:=true,A9:=m.A9})) (.br (x1.2.1.B6==4) (.lf ([],{B1:=x1.1,Mem:=x1.2.2,A4:=m.A4,B0:=m.B0,B2:=m.B2,C6:=m.C6,A2:=m.A2,A1:=wrap u64 (m.A1+1),A7:=false,A9:=true})) (.lf ([],{B1:=x1.1,Mem:=x1.2.2,A4:=m.A4,B0:=m.B0,B2:=m.B2,C6:=m.C6,A2:=m.A2,A1:=wrap u64 (m.A1+1),A7:=false,A9:=m.A9})))))))
def Q0j m clock:=(Qbs m clock).m
abbrev Qn7 m clock:=(Qbs m clock).p
def Z4t:Q0e:=mT 160 [true,false] true [.ptr 0, .one (.int .u32)] [.box 43 49 (Q00.sigW (.row 1)), .arr 25 1 (.ints .u32)] (λa r=>Qbs (Q00.ofW (r.getD 0 default).cs (rowL .u32 r 1)) (argI a 1)) (λX=> .sl 4 (.recs .apiOutput (X.1)) true) (λX=>[⟨true,43,49, .gen [(Q00.cellsW (X.2) (.all 1))]⟩,⟨false,25,1, .ints .u32 (X.2).Mem⟩])
theorem Z2p:Q06 pG Z4t:=oT (.cons Qix (.cons Znr (.cons Zm8 (.cons Qi1 (.cons Zjj (.nil)))))) Tryz.func160 Tryz.call160 [.sl (.recs .apiOutput) true, .row 25 1 (.ints .u32)] [] 2
end
noncomputable section
instance sumInhZg {α β:Type} [Inhabited β]:Inhabited (α⊕β):=⟨.inr default⟩
