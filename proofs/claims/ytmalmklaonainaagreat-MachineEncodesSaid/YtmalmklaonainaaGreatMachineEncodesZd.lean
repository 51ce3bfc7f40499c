import Derived.Test.YtmalmklaonainaaGreatMachineEncodesYz
open UInt8 renaming toNat->eZ, ofNat->fB
open List renaming take->dC, drop->dD, length->dL, getD->aK
open Int renaming toNat->dG, tdiv->eX
open Nat renaming lt_succ_self->cO, beq->bS, blt->bT
set_option maxRecDepth 100000
set_option linter.all false
namespace Go.Proofs.YtmalmklaonainaaGreat
open Go Go.GD Go.IntKind
noncomputable section
instance sumInhZd {α β:Type} [Inhabited β]:Inhabited (α⊕β):=⟨.inr default⟩
def Qy0(src:List UInt8)(z:(Int)×(Int)×(List (List UInt8))):Nat:=(src.length-z.2.1).toNat
def Qe5(src:List UInt8):Tree (List (List UInt8)):=
.lp inferInstance (Qy0 src (0,0,[])+1) ((rE (src:List UInt8)/\True/\rE (0:Int)/\rE (0:Int)/\True)/\rE ([]:List (RK.T RK.str))/\True) (0,0,[]) λ(v0:Int×Int×List (List UInt8))=>let E1:=decide (16*(v0.2.2.length+1)<=140737488355328); .br (decide (v0.2.1<(src.length:Int))) (.cn (decide (0<=v0.2.1/\v0.2.1<(src.length:Int))) (.br ((↑(eZ (src.getD v0.2.1.toNat (0:UInt8))):Int)==(10:Int)) (.cn (decide (0<=v0.1/\v0.1<=v0.2.1/\v0.2.1<=(src.length:Int))) (.cn E1 (.nx ((rE (src:List UInt8)/\True/\rE ((wrap i64 (v0.2.1+1)):Int)/\rE ((wrap i64 (v0.2.1+1)):Int)/\True)/\rE ((v0.2.2++[dC (dG v0.2.1-dG v0.1) (dD v0.1.toNat src)]):List (RK.T RK.str))/\True) (Sum.inl (wrap i64 (v0.2.1+1),wrap i64 (v0.2.1+1),v0.2.2++[dC (dG v0.2.1-dG v0.1) (dD v0.1.toNat src)]))))) (.nx ((rE (src:List UInt8)/\True/\rE v0.1/\rE ((wrap i64 (v0.2.1+1)):Int)/\True)/\rE v0.2.2/\True) (Sum.inl (v0.1,wrap i64 (v0.2.1+1),v0.2.2))))) (.br (decide (v0.1<(src.length:Int))) (.cn (decide (0<=v0.1/\v0.1<=(src.length:Int)/\(src.length:Int)<=(src.length:Int))) (.cn E1 (.lf (Sum.inr (v0.2.2++[dC (dG (src.length:Int)-dG v0.1) (dD v0.1.toNat src)]))))) (.lf (Sum.inr v0.2.2)))
def Qud src:=(Qe5 src).m
abbrev Qj6 src:=(Qe5 src).p
def Z9s:LInv:={
 α:=(Int)×(Int)×(List (List UInt8))
 F:=λst a=>([(0,(lk st 0)),(3, .all 0),(4, .int i64 a.1),(5, .int i64 a.2.1)],[⟨false,9,1, .recs RK.str a.2.2⟩])
 a0:=λst=>((lk st 4).toInt,(lk st 5).toInt,(Q68 RK.str st.rows (rN st 3)))
 ex0:=λst=>[]++[(rX st 3 0)]}
def Z20:List (Nat×LInv):=[(4,Z9s)]
def Zct:Q0b:=mT 189 [] true [.one (.str)] [] (λa r=>Qe5 (argS a 0)) (λX=> .all 0) (λX=>[⟨false,9,1, .recs .str X⟩])
theorem Z8s:Q04 pG Zct:=oT (.nil) Tryz.func189 Tryz.call189 [.row 9 1 (.recs .str)] Z20 3
def Qte(c:Int):Tree Bool:=
.br (decide (c>=97)) (.lf (decide (c<=122))) (.lf false)
def Qgk c:=(Qte c).m
def Z7t:Q0b:=mS 282 [] true [.one (.int .u8)] [] (λa r=>Qte (argI a 0)) (λX=> .bool X) (λX=>[])
theorem Qq1:Q04 pG Z7t:=oS (.nil) Tryz.func282 Tryz.call282 [] [] 2
def Qx(c:Int):Tree Bool:=
.br (decide (c>=48)) (.lf (decide (c<=57))) (.lf false)
def Qd7 c:=(Qx c).m
def Zb9:Q0b:=mS 283 [] true [.one (.int .u8)] [] (λa r=>Qx (argI a 0)) (λX=> .bool X) (λX=>[])
theorem Qsh:Q04 pG Zb9:=oS (.nil) Tryz.func283 Tryz.call283 [] [] 2
def Qul(s:List UInt8)(z:(Bool)×(Int)×(List Q0f)):Nat:=(s.length-z.2.1).toNat
def Quq(s:List UInt8)(v0:Bool×Int×List Q0f)(z:(Int)):Nat:=(s.length-z).toNat
def Qva(s:List UInt8)(v0:Bool×Int×List Q0f)(z:(Int)):Nat:=(s.length-z).toNat
def Qcj(s:List UInt8):Tree ((List Q0f)×Bool):=
.lp inferInstance (Qul s (true,0,[])+1) ((rE (s:List UInt8)/\True/\rE (true:Bool)/\rE (0:Int)/\True)/\rE ([]:List (RK.T RK.vmfleetref1Token))/\True) (true,0,[]) λ(v0:Bool×Int×List Q0f)=> .br (decide (v0.2.1<(s.length:Int))) (.cn (decide (0<=v0.2.1/\v0.2.1<(s.length:Int))) (let E7:=(↑(eZ (s.getD v0.2.1.toNat (0:UInt8))):Int); .br (E7==(32:Int)) (.nx ((rE (s:List UInt8)/\True/\rE (true:Bool)/\rE ((wrap i64 (v0.2.1+1)):Int)/\True)/\rE v0.2.2/\True) (Sum.inl (true,wrap i64 (v0.2.1+1),v0.2.2))) (.lv (Qgk E7) λ(x0:Bool)=>let E10:=decide (32*(v0.2.2.length+1)<=140737488355328);let E13:=dD v0.2.1.toNat s; .br x0 (.lp inferInstance (Quq s v0 v0.2.1+1) ((rE (s:List UInt8)/\True/\rE v0.1/\rE v0.2.1/\rE v0.2.1/\True)/\rE v0.2.2/\True) v0.2.1 λ(v1:Int)=>let T3:Tree ((Int)⊕((Bool×Int×List Q0f)⊕(((List Q0f)×Bool)))):= .cn (decide (0<=v0.2.1/\v0.2.1<=v1/\v1<=(s.length:Int))) (.cn E10 (.nx ((rE (s:List UInt8)/\True/\rE (false:Bool)/\rE (v1:Int)/\True)/\rE ((v0.2.2++[{kind:=1,D3:=dC (dG v1-dG v0.2.1) (dD v0.2.1.toNat s),gap:=v0.1}]):List (RK.T RK.vmfleetref1Token))/\True) (Sum.inr (Sum.inl (false,v1,v0.2.2++[{kind:=1,D3:=dC (dG v1-dG v0.2.1) E13,gap:=v0.1}]))))); .br (decide (v1<(s.length:Int))) (let E11:=decide (0<=v1/\v1<(s.length:Int)); .cn E11 (let E8:=(↑(eZ (s.getD v1.toNat (0:UInt8))):Int); .lv (Qgk E8) λ(x1:Bool)=>let T5:Tree ((Int)⊕((Bool×Int×List Q0f)⊕(((List Q0f)×Bool)))):= .nx ((rE (s:List UInt8)/\True/\rE v0.1/\rE ((wrap i64 (v1+1)):Int)/\rE v0.2.1/\True)/\rE v0.2.2/\True) (Sum.inl (wrap i64 (v1+1))); .br x1 T5 (.cn E11 (.lv (Qd7 E8) λ(x2:Bool)=> .br x2 T5 (.cn E11 (.br (E8==(95:Int)) T5 T3)))))) T3) (.lv (Qd7 E7) λ(x3:Bool)=>let T2:Tree ((Bool×Int×List Q0f)⊕(((List Q0f)×Bool))):= .lp inferInstance (Qva s v0 (wrap i64 (v0.2.1+1))+1) ((rE (s:List UInt8)/\True/\rE v0.1/\rE ((wrap i64 (v0.2.1+1)):Int)/\rE v0.2.1/\True)/\rE v0.2.2/\True) (wrap i64 (v0.2.1+1)) λ(v1:Int)=>let T4:Tree ((Int)⊕((Bool×Int×List Q0f)⊕(((List Q0f)×Bool)))):= .cn (decide (0<=v0.2.1/\v0.2.1<=v1/\v1<=(s.length:Int))) (.cn E10 (.nx ((rE (s:List UInt8)/\True/\rE (false:Bool)/\rE (v1:Int)/\True)/\rE ((v0.2.2++[{kind:=2,D3:=dC (dG v1-dG v0.2.1) (dD v0.2.1.toNat s),gap:=v0.1}]):List (RK.T RK.vmfleetref1Token))/\True) (Sum.inr (Sum.inl (false,v1,v0.2.2++[{kind:=2,D3:=dC (dG v1-dG v0.2.1) E13,gap:=v0.1}]))))); .br (decide (v1<(s.length:Int))) (let E12:=decide (0<=v1/\v1<(s.length:Int)); .cn E12 (let E9:=(↑(eZ (s.getD v1.toNat (0:UInt8))):Int); .lv (Qgk E9) λ(x4:Bool)=>let T6:Tree ((Int)⊕((Bool×Int×List Q0f)⊕(((List Q0f)×Bool)))):= .nx ((rE (s:List UInt8)/\True/\rE v0.1/\rE ((wrap i64 (v1+1)):Int)/\rE v0.2.1/\True)/\rE v0.2.2/\True) (Sum.inl (wrap i64 (v1+1))); .br x4 T6 (.cn E12 (.lv (Qd7 E9) λ(x5:Bool)=> .br x5 T6 (.cn E12 (.br (E9==(95:Int)) T6 T4)))))) T4; .br x3 T2 (.br (E7==(45:Int)) T2 (let T1:Tree ((Bool×Int×List Q0f)⊕(((List Q0f)×Bool))):= .cn (decide (0<=v0.2.1/\v0.2.1<=wrap i64 (v0.2.1+1)/\wrap i64 (v0.2.1+1)<=(s.length:Int))) (.cn E10 (.nx ((rE (s:List UInt8)/\True/\rE (false:Bool)/\rE ((wrap i64 (v0.2.1+1)):Int)/\True)/\rE ((v0.2.2++[{kind:=3,D3:=dC (dG (wrap i64 (v0.2.1+1))-dG v0.2.1) (dD v0.2.1.toNat s),gap:=v0.1}]):List (RK.T RK.vmfleetref1Token))/\True) (Sum.inl (false,wrap i64 (v0.2.1+1),v0.2.2++[{kind:=3,D3:=dC (dG (wrap i64 (v0.2.1+1))-dG v0.2.1) E13,gap:=v0.1}])))); .br (E7==(44:Int)) T1 (.br (E7==(58:Int)) T1 (.br (E7==(40:Int)) T1 (.br (E7==(41:Int)) T1 (.br (E7==(46:Int)) T1 (.lf (Sum.inr ([],false))))))))))))) (.lf (Sum.inr (v0.2.2,true)))
def Z2o s:=(Qcj s).m
abbrev Qhk s:=(Qcj s).p
def Z3k:LInv:={
 α:=(Bool)×(Int)×(List Q0f)
 F:=λst a=>([(0,(lk st 0)),(4, .all 0),(5, .bool a.1),(6, .int i64 a.2.1)],[⟨false,311,3, .recs RK.vmfleetref1Token a.2.2⟩])
 a0:=λst=>((lk st 5).toBool,(lk st 6).toInt,(Q68 RK.vmfleetref1Token st.rows (rN st 4)))
 ex0:=λst=>[]++[(rX st 4 0)]}
def Z3v:LInv:={
 α:=(Int)
 F:=λst a=>([(0,(lk st 0)),(4, .all 0),(5,(lk st 5)),(6, .int i64 a),(8,(lk st 8))],[⟨false,311,3,esOf st.rows (rN st 4)⟩])
 a0:=λst=>(lk st 6).toInt
 ex0:=λst=>[]++[(rX st 4 0)]}
def Z4d:LInv:={
 α:=(Int)
 F:=λst a=>([(0,(lk st 0)),(4, .all 0),(5,(lk st 5)),(6, .int i64 a),(8,(lk st 8))],[⟨false,311,3,esOf st.rows (rN st 4)⟩])
 a0:=λst=>(lk st 6).toInt
 ex0:=λst=>[]++[(rX st 4 0)]}
def Qy9:List (Nat×LInv):=[(4,Z3k),(12,Z3v),(17,Z4d)]
def Zar:Q0b:=mT 246 [] true [.one (.str)] [] (λa r=>Qcj (argS a 0)) (λX=> .tup [.all 0, .bool (X.2)]) (λX=>[⟨false,311,3, .recs .vmfleetref1Token (X.1)⟩])
theorem Z3g:Q04 pG Zar:=oT (.cons Qq1 (.cons Qsh (.nil))) Tryz.func246 Tryz.call246 [.row 311 3 (.recs .vmfleetref1Token)] Qy9 3
 def digT (p:Int->Prop) (r:Int->List UInt8) (n:Int):Tree (List UInt8):=
 .br (decide (n<(10:Int))) (.lf ([(λ(n:Int)=>fB n.toNat) (wrap u8 (wrap u64 ((48:Int)+n)))])) (.an (p (wrap u64 (eX n (10:Int)))) (.lv (r (wrap u64 (eX n (10:Int)))) λ(x0:List UInt8)=> .cn (decide (x0.length+dL [(λ(n:Int)=>fB n.toNat) (wrap u8 (wrap u64 ((48:Int)+Int.tmod n (10:Int))))]<=maxLen)) (.lf (x0++[(λ(n:Int)=>fB n.toNat) (wrap u8 (wrap u64 ((48:Int)+Int.tmod n (10:Int))))]))))
 def digF:Nat->Int->List UInt8
   |0,_=>[]
   |k+1,n=>(digT (λ_=>True) (digF k) n).m
 def digP (k:Nat) (n:Int):Prop:=0<=n/\n<10^k/\n<18446744073709551616/\0<k/\k<=30
 def digM (k:Nat):Q0b:=mkP 123 [] true [.one (.int .u64)] [] (λargs rows=>digP k (argI args 0)) (λargs rows=>digF k (argI args 0)) (λX=> .str X) (λX=>[])
 theorem digF_len: ∀k n,(digF k n).length<=k
   |0,_=>Nat.le_refl _
   | k+1,n=>by
     show(bif decide (n<10) then _ else letv (digF k _) λx0=>x0++_).length<=k+1
     have:=digF_len k (wrap u64 (eX n 10))
     cases decide (n<10)
     . simp [letv,Tree.m];omega
     . simp [Tree.m]
 theorem digM_ok: ∀k,Q04 pG (digM k)
   |0=>Zdb Tryz.call123 (λargs rows h=>absurd h.2.2.2.1 (Nat.lt_irrefl 0)) (λ_ X=>by kernel_rfl)
   | k + 1=>by
     refine Q0j drawn Q0g (.cons (digM_ok k) .nil) Tryz.func123 Tryz.call123 (λargs rows=>digT (digP k) (digF k) (argI args 0)) [] [] 2 (λ_ _ _=>by kernel_rfl) (λ_ _=>rfl) (λargs rows h=> ?_) (λ_ X=>by kernel_rfl)
     obtain⟨h0,h1,h2,h3,h4⟩:=h
     generalize argI args 0=n at*
     refine w_br (λ_=>trivial) (λhn=> ?_)
     have hn:=oN hn
     have e:wrap u64 (eX n 10)=n/10:=by rw[wrap_u64,Int.tdiv_eq_ediv_of_nonneg h0];omega
     refine w_an (show digP k _ from ?_) (w_lv λx hx=>w_cn (dY ?_) trivial)
     . rw[e]
       rw[Int.pow_succ]at h1
       have hk:0<k:=by
         rcases Nat.eq_zero_or_pos k with rfl|h
         . simp at h1;omega
         . exact h
       exact⟨by omega,by omega,by omega,hk,by omega⟩
     . have:=digF_len k (wrap u64 (eX n 10))
       rw[<-hx]at this
       simp [maxLen];omega
def Qdg(n:Int):(List UInt8):=
digF 20 n
def Q2t(n:Int):Prop:=
0<=n/\n<18446744073709551616
def Qlu(n:Int):List D:=[.int .u64 n]
def Qlz(n:Int):List Row:=[]
def Qhw(X:List UInt8):D:= .str X
def Qhd(X:List UInt8):List Row:=[]
def Qn6:List PT:=[.one (.int .u64)]
def Qm0:List RT:=[]
def Z29(args:List D)(rows:List Row):(List UInt8):=Qdg (argI args 0)
def Z2x(args:List D)(rows:List Row):Prop:=Q2t (argI args 0)
def Z7q:Q0b:=mkP 123 [] true Qn6 Qm0 Z2x Z29 Qhw Qhd
theorem Qv8(n:Int)(hw:Q2t n):Q41 pG 123 (Qlu n) (Qlz n) (Qhw (Qdg n)) (Qhd (Qdg n)):=by
 have h20:(18446744073709551616:Int)<=10^20:=by decide
 exact zy (args:=[.int .u64 n]) (rows:=[]) (digM_ok 20) (by kernel_rfl) ⟨hw.1,Int.lt_of_lt_of_le hw.2 h20,hw.2,by decide,by decide⟩
set_option maxRecDepth 100000 in
theorem Qy7(args:List D)(rows:List Row):Qeh Qn6 args 0=Qlu (argI args 0):=by kernel_rfl
set_option maxRecDepth 100000 in
theorem Qve(args:List D)(rows:List Row):Q58 Qm0 rows 0=Qlz (argI args 0):=by kernel_rfl
set_option maxRecDepth 100000 in
theorem Z4x(X:List UInt8):(ffB (Qhw X)&&ffBR (Qhd X))=true:=by kernel_rfl
theorem Z53:Q04 pG Z7q:=Zdb Tryz.call123 (λargs rows hp=>by rw[Qy7 args rows,Qve args rows];exact Qv8 (argI args 0) hp) (λ_ X=>Z4x X)
def Q60(n:Int):Tree (List UInt8):=
.br (decide (n<0)) (let E1:=wrap u64 (wrap u64 (wrap i64 (0-wrap i64 (n+1)))+1); .an (Q2t E1) (.lv (Qdg E1) λ(x0:List UInt8)=> .cn (decide (1+x0.length<=maxLen)) (.lf ((45:UInt8)::x0)))) (.an (Q2t (wrap u64 n)) (.lv (Qdg (wrap u64 n)) λ(x1:List UInt8)=> .lf x1))
def Qn4 n:=(Q60 n).m
abbrev Qf n:=(Q60 n).p
def Z4g:Q0b:=mT 35 [] true [.one (.int .i64)] [] (λa r=>Q60 (argI a 0)) (λX=> .str X) (λX=>[])
theorem Z1l:Q04 pG Z4g:=oT (.cons Z53 (.nil)) Tryz.func35 Tryz.call35 [] [] 2
def Qd5(r:Int):Tree (List UInt8):=
.an (Qf r) (.lv (Qn4 r) λ(x0:List UInt8)=> .cn (decide (1+x0.length<=maxLen)) (.lf ((114:UInt8)::x0)))
def Zjh r:=(Qd5 r).m
abbrev Qn0 r:=(Qd5 r).p
def Zm1:Q0b:=mT 310 [] true [.one (.int .i64)] [] (λa r=>Qd5 (argI a 0)) (λX=> .str X) (λX=>[])
theorem Zfw:Q04 pG Zm1:=oT (.cons Z1l (.nil)) Tryz.func310 Tryz.call310 [] [] 2
def Qp4(s:List UInt8)(z:(Int)):Prop:=0<=z/\z<=16
def Qei(s:List UInt8)(z:(Int)):Nat:=(16-z).toNat
def Q9i(s:List UInt8):Tree (Int×Bool):=
.lp inferInstance (Qei s 0+1) ((rE (s:List UInt8)/\rE (0:Int)/\True)/\True) 0 λ(v0:Int)=> .br (decide (v0<16)) (.an (Qn0 v0) (.lv (Zjh v0) λ(x0:List UInt8)=> .br (decide (s=x0)) (.lf (Sum.inr (v0,true))) (.nx ((rE (s:List UInt8)/\rE ((wrap i64 (v0+1)):Int)/\True)/\True) (Sum.inl (wrap i64 (v0+1)))))) (.lf (Sum.inr (0,false)))
def Qh s:=(Q9i s).m
theorem Qqv(s:List UInt8):(Q9i s).p:=by
 unfold Tree.p Q9i
 have dp: ∀x,Q2t (wrap .u64 x):=λx=>by unfold Q2t;rw[wrap_u64];omega
 have dl: ∀x,(Qdg x).length<=20:=λx=>digF_len 20 x
 have hd: ∀x,(Q60 x).w (λr=>r.length<=21):=λx=>by
   unfold Q60
   refine w_br (λ_=>w_an (dp _) (w_lv λx0 h0=>w_cn (dY ?_) ?_)) (λ_=>w_an (dp _) (w_lv λx1 h1=> ?_))
   . have:=dl (wrap .u64 (wrap .u64 (wrap .i64 (0-wrap .i64 (x+1)))+1));rw[<-h0]at this;simp [maxLen];omega
   . have:=dl (wrap .u64 (wrap .u64 (wrap .i64 (0-wrap .i64 (x+1)))+1));rw[<-h0]at this;show(_::x0).length<=21;simp;omega
   . rw[h1];exact Nat.le_trans (dl _) (by decide)
 have hr: ∀x,(Qd5 x).p:=λx=>by
   unfold Tree.p Qd5
   refine w_an (Tree.pp (hd x)).1 (w_lv λx0 h0=>w_cn (dY ?_) trivial)
   have:(Qn4 x).length<=21:=(Tree.pp (hd x)).2
   rw[<-h0]at this;simp [maxLen];omega
 refine w_lp (inv:=Qp4 s) (μ:=Qei s) ⟨by decide,by decide⟩ (cO _) (λz hz=> ?_)
 obtain⟨z1,z2⟩:=hz
 refine w_br (λhb=>w_an (hr _) (w_lv λx0 _=>w_br (λ_=>trivial) (λ_=>w_nx ?_))) (λ_=>trivial)
 have hb:=oY hb
 show(0<=i64.wrap (z+1)/\i64.wrap (z+1)<=16)/\(16-i64.wrap (z+1)).toNat<(16-z).toNat
 rw[wrap_i64];omega
def Qs6:LInv:={
 α:=(Int)
 F:=λst a=>([(0,(lk st 0)),(4, .int i64 a)],[])
 a0:=λst=>(lk st 4).toInt
 ex0:=λst=>[]++[]}
def Qpd:List (Nat×LInv):=[(2,Qs6)]
def Qut:Q0b:=mS 284 [] true [.one (.str)] [] (λa r=>Q9i (argS a 0)) (λX=> .tup [.int .i64 (X.1), .bool (X.2)]) (λX=>[])
theorem Qio:Q04 pG Qut:=oS (.cons Zfw (.nil)) Tryz.func284 Tryz.call284 [] Qpd 3 (λ_ _ _=>by kernel_rfl) (λa r=>Qqv (argS a 0)) (λ_ X=>by kernel_rfl)
def Qhi(s:List UInt8):Tree Bool:=
.lv (Qh s) λ(x0:Int×Bool)=> .br (decide ((s.length:Int)>=(1:Int))) (.br (decide ((s.length:Int)<=(12:Int))) (.cn (decide ((0:Int)<=(0:Int)/\0<(s.length:Int))) (.lv (Qgk (↑(eZ (s.getD (dG 0) (0:UInt8))):Int)) λ(x1:Bool)=> .br x1 (.lf (!x0.2)) (.lf false))) (.lf false)) (.lf false)
def Z1k s:=(Qhi s).m
abbrev Qft s:=(Qhi s).p
def Zid:Q0b:=mT 247 [] true [.one (.str)] [] (λa r=>Qhi (argS a 0)) (λX=> .bool X) (λX=>[])
theorem Qwg:Q04 pG Zid:=oT (.cons Qio (.cons Qq1 (.nil))) Tryz.func247 Tryz.call247 [] [] 2
def Q85(op:Int):Tree (List UInt8):=
let T1:Tree ((List UInt8)):=let T3:Tree ((List UInt8)):= .br (op==48) (.lf ([(106:UInt8),97,108])) (.br (op==49) (.lf ([(106:UInt8),97,108,114])) (.br (decide (op>=56)) (.br (decide (op<=64)) (.cn (bS 1 1&&bT 0 1&&decide (0<=wrap i64 (op-56)/\wrap i64 (op-56)<(↑9:Int))) (.lf (aK [[(101:UInt8),99,97,108,108],[(101:UInt8),114,101,116],[(99:UInt8),115,114,114],[(99:UInt8),115,114,119],[(105:UInt8),110],[(111:UInt8),117,116],[(119:UInt8),102,105],[(102:UInt8),108,117,115,104],[(104:UInt8),97,108,116]] (dG (wrap i64 (op-56))) (RK.dflt RK.str)))) (.lf ([]))) (.lf ([])))); .br (decide (op>=40)) (.br (decide (op<=45)) (.cn (bS 1 1&&bT 0 1&&decide (0<=wrap i64 (op-40)/\wrap i64 (op-40)<(↑6:Int))) (.lf (aK [[(98:UInt8),101,113],[(98:UInt8),110,101],[(98:UInt8),108,116],[(98:UInt8),103,101],[(98:UInt8),108,116,117],[(98:UInt8),103,101,117]] (dG (wrap i64 (op-40))) (RK.dflt RK.str)))) T3) T3;let T2:Tree ((List UInt8)):=let T4:Tree ((List UInt8)):= .br (decide (op>=32)) (.br (decide (op<=36)) (.cn (bS 1 1&&bT 0 1&&decide (0<=wrap i64 (op-32)/\wrap i64 (op-32)<(↑5:Int))) (.lf (aK [[(108:UInt8),119],[(108:UInt8),98],[(108:UInt8),98,117],[(115:UInt8),119],[(115:UInt8),98]] (dG (wrap i64 (op-32))) (RK.dflt RK.str)))) T1) T1; .br (decide (op>=16)) (.br (decide (op<=24)) (.cn (bS 1 1&&bT 0 1&&decide (0<=wrap i64 (op-16)/\wrap i64 (op-16)<(↑9:Int))) (.lf (aK [[(97:UInt8),100,100,105],[(97:UInt8),110,100,105],[(111:UInt8),114,105],[(120:UInt8),111,114,105],[(115:UInt8),104,108,105],[(115:UInt8),104,114,105],[(115:UInt8),97,114,105],[(115:UInt8),108,116,105],[(108:UInt8),117,105]] (dG (wrap i64 (op-16))) (RK.dflt RK.str)))) T4) T4; .br (decide (op>=1)) (.br (decide (op<=13)) (.cn (bS 1 1&&bT 0 1&&decide (0<=wrap i64 (op-1)/\wrap i64 (op-1)<(↑13:Int))) (.lf (aK [[(97:UInt8),100,100],[(115:UInt8),117,98],[(97:UInt8),110,100],[(111:UInt8),114],[(120:UInt8),111,114],[(115:UInt8),104,108],[(115:UInt8),104,114],[(115:UInt8),97,114],[(109:UInt8),117,108],[(100:UInt8),105,118],[(114:UInt8),101,109],[(115:UInt8),108,116],[(115:UInt8),108,116,117]] (dG (wrap i64 (op-1))) (RK.dflt RK.str)))) T2) T2
def Qtb op:=(Q85 op).m
abbrev Qde op:=(Q85 op).p
def Z2u:Q0b:=mT 286 [] true [.one (.int .i64)] [] (λa r=>Q85 (argI a 0)) (λX=> .str X) (λX=>[])
theorem Qy1:Q04 pG Z2u:=oT (.nil) Tryz.func286 Tryz.call286 [] [] 2
def Qpe(s:List UInt8)(z:(Int)):Nat:=(65-z).toNat
def Q7d(s:List UInt8):Tree Int:=
.lp inferInstance (Qpe s 1+1) ((rE (s:List UInt8)/\rE (1:Int)/\True)/\True) 1 λ(v0:Int)=> .br (decide (v0<=64)) (.lv (Q23 v0) λ(x0:Int)=> .br (decide (x0>0)) (.an (Qde v0) (.lv (Qtb v0) λ(x1:List UInt8)=> .br (decide (x1=s)) (.lf (Sum.inr v0)) (.nx ((rE (s:List UInt8)/\rE ((wrap i64 (v0+1)):Int)/\True)/\True) (Sum.inl (wrap i64 (v0+1)))))) (.nx ((rE (s:List UInt8)/\rE ((wrap i64 (v0+1)):Int)/\True)/\True) (Sum.inl (wrap i64 (v0+1))))) (.lf (Sum.inr 0))
def Q7q s:=(Q7d s).m
abbrev Q2x s:=(Q7d s).p
def Qvm:LInv:={
 α:=(Int)
 F:=λst a=>([(0,(lk st 0)),(3, .int i64 a)],[])
 a0:=λst=>(lk st 3).toInt
 ex0:=λst=>[]++[]}
def Qqx:List (Nat×LInv):=[(2,Qvm)]
def Qxk:Q0b:=mT 250 [] true [.one (.str)] [] (λa r=>Q7d (argS a 0)) (λX=> .int .i64 X) (λX=>[])
theorem Qk7:Q04 pG Qxk:=oT (.cons Qeg (.cons Qy1 (.nil))) Tryz.func250 Tryz.call250 [] Qqx 3
def Qa7(what:List UInt8):Tree ((List UInt8)×Bool):=
.an (Q2x what) (.lv (Q7q what) λ(x0:Int)=> .br (decide (what=[(46:UInt8),119,111,114,100])) (.lf ([(120:UInt8)],true)) (.br (decide (what=[(46:UInt8),115,112,97,99,101])) (.lf ([(110:UInt8)],true)) (.br (decide (what=[(108:UInt8),105])) (.lf ([(114:UInt8),44,120],true)) (.br (decide (what=[(109:UInt8),118])) (.lf ([(114:UInt8),44,114],true)) (.br (decide (what=[(110:UInt8),111,112])) (.lf ([],true)) (.br (x0==0) (.lf ([],false)) (let T1:Tree (((List UInt8)×Bool)):= .br (x0==48) (.lf ([(114:UInt8),44,120],true)) (.lv (Q23 x0) λ(x1:Int)=> .br (x1==1) (.lf ([],true)) (.br (x1==2) (.lf ([(114:UInt8),44,114,44,114],true)) (.br (decide (x1>=6)) (.lf ([(114:UInt8),44,110],true)) (.lf ([(114:UInt8),44,114,44,110],true)))));let T2:Tree (((List UInt8)×Bool)):= .br (decide (x0>=40)) (.br (decide (x0<=45)) (.lf ([(114:UInt8),44,114,44,120],true)) T1) T1; .br (decide (x0>=32)) (.br (decide (x0<=36)) (.lf ([(114:UInt8),44,110,40,114,41],true)) T2) T2)))))))
def Qet what:=(Qa7 what).m
abbrev Q5h what:=(Qa7 what).p
def Z4t:Q0b:=mT 248 [] true [.one (.str)] [] (λa r=>Qa7 (argS a 0)) (λX=> .tup [.str (X.1), .bool (X.2)]) (λX=>[])
theorem Qzq:Q04 pG Z4t:=oT (.cons Qk7 (.cons Qeg (.nil))) Tryz.func248 Tryz.call248 [] [] 2
def Qtx(s:List UInt8)(z:(Int)×(Int)):Nat:=(s.length-z.2).toNat
def Qki(s:List UInt8)(z:(Int)×(Int)):Nat:=(s.length-z.2).toNat
def Qby(s:List UInt8):Tree (Int×Bool):=
let E7:=decide ((0:Int)<=(0:Int)/\0<(s.length:Int));let E8:=(↑(eZ (s.getD (dG 0) (0:UInt8))):Int);let T1:Tree ((Int×Bool)):=let T2:Tree ((Int×Bool)):= .br (decide (wrap i64 ((s.length:Int)-(0:Int))<1)) (.lf (0,false)) (.br (decide (wrap i64 ((s.length:Int)-(0:Int))>10)) (.lf (0,false)) (.lp inferInstance (Qki s (0,0)+1) ((rE (s:List UInt8)/\rE (0:Int)/\rE (0:Int)/\rE (0:Int)/\True)/\True) (0,0) λ(v0:Int×Int)=> .br (decide (v0.2<(s.length:Int))) (let E9:=decide (0<=v0.2/\v0.2<(s.length:Int)); .cn E9 (let E5:=(↑(eZ (s.getD v0.2.toNat (0:UInt8))):Int); .lv (Qd7 E5) λ(x2:Bool)=> .br (!x2) (.lf (Sum.inr (0,false))) (.cn E9 (.nx ((rE (s:List UInt8)/\rE (0:Int)/\rE ((wrap i64 (wrap i64 (10*v0.1)+wrap i64 (wrap u8 ((↑(eZ (s.getD v0.2.toNat (0:UInt8))):Int)-(48:Int))))):Int)/\rE ((wrap i64 (v0.2+1)):Int)/\True)/\True) (Sum.inl (wrap i64 (wrap i64 (10*v0.1)+wrap i64 (wrap u8 (E5-(48:Int)))),wrap i64 (v0.2+1))))))) (.br (decide (v0.1>=(-2147483648))) (.lf (Sum.inr (v0.1,decide (v0.1<=4294967295)))) (.lf (Sum.inr (v0.1,false)))))); .br (decide ((s.length:Int)>(0:Int))) (.cn E7 (.br (E8==(45:Int)) (.br (decide (wrap i64 ((s.length:Int)-(1:Int))<1)) (.lf (0,false)) (.br (decide (wrap i64 ((s.length:Int)-(1:Int))>10)) (.lf (0,false)) (.lp inferInstance (Qki s (0,1)+1) ((rE (s:List UInt8)/\rE (1:Int)/\rE (0:Int)/\rE (1:Int)/\True)/\True) (0,1) λ(v0:Int×Int)=> .br (decide (v0.2<(s.length:Int))) (let E10:=decide (0<=v0.2/\v0.2<(s.length:Int)); .cn E10 (let E6:=(↑(eZ (s.getD v0.2.toNat (0:UInt8))):Int); .lv (Qd7 E6) λ(x1:Bool)=> .br (!x1) (.lf (Sum.inr (0,false))) (.cn E10 (.nx ((rE (s:List UInt8)/\rE (1:Int)/\rE ((wrap i64 (wrap i64 (10*v0.1)+wrap i64 (wrap u8 ((↑(eZ (s.getD v0.2.toNat (0:UInt8))):Int)-(48:Int))))):Int)/\rE ((wrap i64 (v0.2+1)):Int)/\True)/\True) (Sum.inl (wrap i64 (wrap i64 (10*v0.1)+wrap i64 (wrap u8 (E6-(48:Int)))),wrap i64 (v0.2+1))))))) (.br (decide (wrap i64 (0-v0.1)>=(-2147483648))) (.lf (Sum.inr (wrap i64 (0-v0.1),decide (wrap i64 (0-v0.1)<=4294967295)))) (.lf (Sum.inr (wrap i64 (0-v0.1),false))))))) T2)) T2; .br (decide ((s.length:Int)>(2:Int))) (.cn E7 (.br (E8==(48:Int)) (.cn (decide ((0:Int)<=(1:Int)/\1<(s.length:Int))) (.br ((↑(eZ (s.getD (dG 1) (0:UInt8))):Int)==(120:Int)) (.br (decide ((s.length:Int)>(10:Int))) (.lf (0,false)) (.lp inferInstance (Qtx s (0,2)+1) ((rE (s:List UInt8)/\rE (0:Int)/\rE (2:Int)/\True)/\True) (0,2) λ(v0:Int×Int)=> .br (decide (v0.2<(s.length:Int))) (let E4:=decide (0<=v0.2/\v0.2<(s.length:Int)); .cn E4 (let E3:=(↑(eZ (s.getD v0.2.toNat (0:UInt8))):Int); .lv (Qd7 E3) λ(x0:Bool)=> .br x0 (.cn E4 (.nx ((rE (s:List UInt8)/\rE ((wrap i64 (wrap i64 (16*v0.1)+wrap i64 (wrap u8 ((↑(eZ (s.getD v0.2.toNat (0:UInt8))):Int)-(48:Int))))):Int)/\rE ((wrap i64 (v0.2+1)):Int)/\True)/\True) (Sum.inl (wrap i64 (wrap i64 (16*v0.1)+wrap i64 (wrap u8 (E3-(48:Int)))),wrap i64 (v0.2+1))))) (.cn E4 (.br (decide (E3>=(97:Int))) (.cn E4 (.br (decide (E3<=(102:Int))) (.cn E4 (.nx ((rE (s:List UInt8)/\rE ((wrap i64 (wrap i64 (wrap i64 (16*v0.1)+wrap i64 (wrap u8 ((↑(eZ (s.getD v0.2.toNat (0:UInt8))):Int)-(97:Int))))+10)):Int)/\rE ((wrap i64 (v0.2+1)):Int)/\True)/\True) (Sum.inl (wrap i64 (wrap i64 (wrap i64 (16*v0.1)+wrap i64 (wrap u8 (E3-(97:Int))))+10),wrap i64 (v0.2+1))))) (.lf (Sum.inr (0,false))))) (.lf (Sum.inr (0,false))))))) (.lf (Sum.inr (v0.1,true))))) T1)) T1)) T1
def Z24 s:=(Qby s).m
abbrev Qhx s:=(Qby s).p
def Z48:LInv:={
 α:=(Int)×(Int)
 F:=λst a=>([(0,(lk st 0)),(4, .int i64 a.1),(5, .int i64 a.2)],[])
 a0:=λst=>((lk st 4).toInt,(lk st 5).toInt)
 ex0:=λst=>[]++[]}
def Z3n:LInv:={
 α:=(Int)×(Int)
 F:=λst a=>([(0,(lk st 0)),(6,(lk st 6)),(7, .int i64 a.1),(8, .int i64 a.2)],[])
 a0:=λst=>((lk st 7).toInt,(lk st 8).toInt)
 ex0:=λst=>[]++[]}
def Qxw:List (Nat×LInv):=[(6,Z48),(21,Z3n)]
def Z97:Q0b:=mT 285 [] true [.one (.str)] [] (λa r=>Qby (argS a 0)) (λX=> .tup [.int .i64 (X.1), .bool (X.2)]) (λX=>[])
theorem Z3z:Q04 pG Z97:=oT (.cons Qsh (.nil)) Tryz.func285 Tryz.call285 [] Qxw 3
def Qsb(l:List Q0f)(p:List UInt8)(z:(Int)×(List Q0p)):Nat:=(l.length-z.1).toNat
def Qa4(l:List Q0f)(p:List UInt8):Tree ((List Q0p)×Bool):=
.br ((l.length:Int) !=(p.length:Int)) (.lf ([],false)) (.lp inferInstance (Qsb l p (0,[])+1) ((nR RK.vmfleetref1Token 3 l/\rE (p:List UInt8)/\True/\rE (0:Int)/\True)/\rE ([]:List (RK.T RK.vmfleetref1Arg))/\True) (0,[]) λ(v0:Int×List Q0p)=> .br (decide (v0.1<(l.length:Int))) (.cn (bS 3 3&&bT 0 3&&decide (0<=v0.1/\v0.1<(l.length:Int))) (let E6:=decide (0<=v0.1/\v0.1<(p.length:Int)); .cn E6 (let E3:=l.getD v0.1.toNat (RK.dflt RK.vmfleetref1Token);let E4:=(↑(eZ (p.getD v0.1.toNat (0:UInt8))):Int);let E5:=decide (32*(v0.2.length+1)<=140737488355328); .br (E4==(114:Int)) (.lv (Qh E3.D3) λ(x0:Int×Bool)=> .br (E3.kind !=1) (.lf (Sum.inr ([],false))) (.br (!x0.2) (.lf (Sum.inr ([],false))) (.cn E5 (.nx ((nR RK.vmfleetref1Token 3 l/\rE (p:List UInt8)/\True/\rE ((wrap i64 (v0.1+1)):Int)/\True)/\rE ((v0.2++[{reg:=x0.1,num:=0,label:=[]}]):List (RK.T RK.vmfleetref1Arg))/\True) (Sum.inl (wrap i64 (v0.1+1),v0.2++[{reg:=x0.1,num:=0,label:=[]}])))))) (let T1:Tree ((Int×List Q0p)⊕(((List Q0p)×Bool))):= .an (Qhx E3.D3) (.lv (Z24 E3.D3) λ(x2:Int×Bool)=> .br (E3.kind !=2) (.lf (Sum.inr ([],false))) (.br (!x2.2) (.lf (Sum.inr ([],false))) (.cn E5 (.nx ((nR RK.vmfleetref1Token 3 l/\rE (p:List UInt8)/\True/\rE ((wrap i64 (v0.1+1)):Int)/\True)/\rE ((v0.2++[{reg:=0,num:=x2.1,label:=[]}]):List (RK.T RK.vmfleetref1Arg))/\True) (Sum.inl (wrap i64 (v0.1+1),v0.2++[{reg:=0,num:=x2.1,label:=[]}]))))));let T2:Tree ((Int×List Q0p)⊕(((List Q0p)×Bool))):= .cn E6 (.br (E4==(120:Int)) (.br (E3.kind==1) (.an (Qft E3.D3) (.lv (Z1k E3.D3) λ(x1:Bool)=> .br x1 (.cn E5 (.nx ((nR RK.vmfleetref1Token 3 l/\rE (p:List UInt8)/\True/\rE ((wrap i64 (v0.1+1)):Int)/\True)/\rE ((v0.2++[{reg:=0,num:=0,label:=(l.getD v0.1.toNat (RK.dflt RK.vmfleetref1Token)).D3}]):List (RK.T RK.vmfleetref1Arg))/\True) (Sum.inl (wrap i64 (v0.1+1),v0.2++[{reg:=0,num:=0,label:=E3.D3}])))) T1)) T1) T1); .br (E4==(110:Int)) T2 (.br (E4==(120:Int)) T2 (.br (E3.kind !=3) (.lf (Sum.inr ([],false))) (.cn (decide (0<=v0.1/\v0.1<=wrap i64 (v0.1+1)/\wrap i64 (v0.1+1)<=(p.length:Int))) (.br (!decide (E3.D3=dC (dG (wrap i64 (v0.1+1))-dG v0.1) (dD v0.1.toNat p))) (.lf (Sum.inr ([],false))) (.nx ((nR RK.vmfleetref1Token 3 l/\rE (p:List UInt8)/\True/\rE ((wrap i64 (v0.1+1)):Int)/\True)/\rE v0.2/\True) (Sum.inl (wrap i64 (v0.1+1),v0.2))))))))))) (.lf (Sum.inr (v0.2,true))))
def Qe4 l p:=(Qa4 l p).m
abbrev Q5f l p:=(Qa4 l p).p
def Z0o:LInv:={
 α:=(Int)×(List Q0p)
 F:=λst a=>([(0,(lk st 0)),(1,(lk st 1)),(6, .all 0),(7, .int i64 a.1)],[⟨false,183,3, .recs RK.vmfleetref1Arg a.2⟩])
 a0:=λst=>((lk st 7).toInt,(Q68 RK.vmfleetref1Arg st.rows (rN st 6)))
 ex0:=λst=>[]++[(rX st 6 0)]}
def Qua:List (Nat×LInv):=[(5,Z0o)]
def Z4j:Q0b:=mT 249 [] true [.one (.recs .vmfleetref1Token), .one (.str)] [] (λa r=>Qa4 (argR .vmfleetref1Token a 0) (argS a 1)) (λX=> .tup [.all 0, .bool (X.2)]) (λX=>[⟨false,183,3, .recs .vmfleetref1Arg (X.1)⟩])
theorem Z0q:Q04 pG Z4j:=oT (.cons Qio (.cons Qwg (.cons Z3z (.nil)))) Tryz.func249 Tryz.call249 [.row 183 3 (.recs .vmfleetref1Arg)] Qua 3
def Qus(s:List UInt8)(z:(List UInt8)×(Int)):Nat:=(s.length-z.2).toNat
def Qc7(s:List UInt8):Tree ((List UInt8)×Q09×Bool):=
.lp inferInstance (Qus s (s,0)+1) ((rE (s:List UInt8)/\rE ([]:List UInt8)/\rZ/\rE (false:Bool)/\rE (0:Int)/\True)/\(rE ([]:List UInt8)/\rE (0:Int)/\True/\rE (0:Int)/\rE (0:Int)/\rE (0:Int)/\True)/\True) (s,0) λ(v0:List UInt8×Int)=> .br (decide (v0.2<(v0.1.length:Int))) (.cn (decide (0<=v0.2/\v0.2<(v0.1.length:Int))) (.br ((↑(eZ (v0.1.getD v0.2.toNat (0:UInt8))):Int)==(59:Int)) (.cn (decide ((0:Int)<=(0:Int)/\0<=v0.2/\v0.2<=(v0.1.length:Int))) (.nx ((rE ((dC (dG v0.2-dG 0) (dD (dG 0) v0.1)):List UInt8)/\rE ([]:List UInt8)/\rZ/\rE (false:Bool)/\rE ((wrap i64 (v0.2+1)):Int)/\True)/\(rE ([]:List UInt8)/\rE (0:Int)/\True/\rE (0:Int)/\rE (0:Int)/\rE (0:Int)/\True)/\True) (Sum.inl (dC (dG v0.2-dG 0) (dD (dG 0) v0.1),wrap i64 (v0.2+1))))) (.nx ((rE v0.1/\rE ([]:List UInt8)/\rZ/\rE (false:Bool)/\rE ((wrap i64 (v0.2+1)):Int)/\True)/\(rE ([]:List UInt8)/\rE (0:Int)/\True/\rE (0:Int)/\rE (0:Int)/\rE (0:Int)/\True)/\True) (Sum.inl (v0.1,wrap i64 (v0.2+1)))))) (.an (Qhk v0.1) (.lv (Z2o v0.1) λ(x0:List Q0f×Bool)=> .br (!x0.2) (.lf (Sum.inr ([],{what:=[],op:=0,l:=[],D6:=0,at_:=0,size:=0},false))) (let E9:=x0.1.getD (dG 0) (RK.dflt RK.vmfleetref1Token);let T1:Tree ((List UInt8×Int)⊕(((List UInt8)×Q09×Bool))):= .an (Q5h E9.D3) (.lv (Qet E9.D3) λ(x27:List UInt8×Bool)=> .br (!x27.2) (.lf (Sum.inr ([],{what:=[],op:=0,l:=[],D6:=0,at_:=0,size:=0},false))) (let E20:=dG (x0.1.length:Int)-dG 1;let T6:Tree ((List UInt8×Int)⊕(((List UInt8)×Q09×Bool))):=let E31:=dC E20 (dD (dG 1) x0.1); .an (Q5f E31 x27.1) (.lv (Qe4 E31 x27.1) λ(x28:List Q0p×Bool)=> .br (!x28.2) (.lf (Sum.inr ([],{what:=[],op:=0,l:=[],D6:=0,at_:=0,size:=0},false))) (.an (Q2x E9.D3) (.lv (Q7q E9.D3) λ(x29:Int)=> .br (decide (E9.D3=[(108:UInt8),105])) (.lf (Sum.inr ([],{what:=E9.D3,op:=x29,l:=x28.1,D6:=0,at_:=0,size:=2},true))) (.br (decide (E9.D3=[(46:UInt8),115,112,97,99,101])) (let E13:=bS 3 3&&bT 0 3&&decide ((0:Int)<=(0:Int)/\0<(x28.1.length:Int)); .cn E13 (let E21:=x28.1.getD (dG 0) (RK.dflt RK.vmfleetref1Arg); .br (decide (E21.num<0)) (.lf (Sum.inr ([],{what:=[],op:=0,l:=[],D6:=0,at_:=0,size:=0},false))) (.cn E13 (.br (decide (E21.num>1024)) (.lf (Sum.inr ([],{what:=[],op:=0,l:=[],D6:=0,at_:=0,size:=0},false))) (.cn E13 (.lf (Sum.inr ([],{what:=E9.D3,op:=x29,l:=x28.1,D6:=0,at_:=0,size:=E21.num},true)))))))) (.lf (Sum.inr ([],{what:=E9.D3,op:=x29,l:=x28.1,D6:=0,at_:=0,size:=1},true))))))); .br (decide ((↑E20:Int)>(0:Int))) (.cn (bS 3 3&&bT 0 3&&decide ((0:Int)<=(0:Int)/\0<(↑E20:Int))) (.br (!(x0.1.getD (dG 1+dG 0) (RK.dflt RK.vmfleetref1Token)).gap) (.lf (Sum.inr ([],{what:=[],op:=0,l:=[],D6:=0,at_:=0,size:=0},false))) T6)) T6));let E25:=dG (x0.1.length:Int)-dG 2;let E8:=(↑E25:Int);let E10:=x0.1.getD (dG 2+dG 0) (RK.dflt RK.vmfleetref1Token);let E12:=x0.1.getD (dG 1) (RK.dflt RK.vmfleetref1Token);let E16:=bS 3 3&&bT 0 3&&decide ((0:Int)<=(0:Int)/\0<(x0.1.length:Int));let E17:=bS 3 3&&bT 0 3&&decide ((0:Int)<=(1:Int)/\1<(x0.1.length:Int));let E19:=bS 3 3&&bT 0 3&&decide ((0:Int)<=(2:Int)/\2<=(x0.1.length:Int)/\(x0.1.length:Int)<=(x0.1.length:Int));let E28:=bS 3 3&&bT 0 3&&decide ((0:Int)<=(0:Int)/\0<E8);let E30:=decide ((x0.1.length:Int)>=(2:Int));let T3:Tree ((List UInt8×Int)⊕(((List UInt8)×Q09×Bool))):= .br ((x0.1.length:Int)==(0:Int)) (.lf (Sum.inr ([],{what:=[],op:=0,l:=[],D6:=0,at_:=0,size:=0},true))) (.cn E16 (.cn (bS 3 3&&bT 0 3&&decide ((0:Int)<=(1:Int)/\1<=(x0.1.length:Int)/\(x0.1.length:Int)<=(x0.1.length:Int))) (.br (decide (E9.D3=[(46:UInt8)])) (.br E30 (.cn E17 (.br (!E12.gap) (.cn E17 (.cn (decide (1+dL E12.D3<=maxLen)) (.cn E19 (.an (Q5h ((46:UInt8)::E12.D3)) (.lv (Qet ([(46:UInt8)]++E12.D3)) λ(x22:List UInt8×Bool)=> .br (!x22.2) (.lf (Sum.inr ([],{what:=[],op:=0,l:=[],D6:=0,at_:=0,size:=0},false))) (let T7:Tree ((List UInt8×Int)⊕(((List UInt8)×Q09×Bool))):=let E32:=dC E25 (dD (dG 2) x0.1); .an (Q5f E32 x22.1) (.lv (Qe4 E32 x22.1) λ(x23:List Q0p×Bool)=> .br (!x23.2) (.lf (Sum.inr ([],{what:=[],op:=0,l:=[],D6:=0,at_:=0,size:=0},false))) (.an (Q2x ((46:UInt8)::E12.D3)) (.lv (Q7q ([(46:UInt8)]++E12.D3)) λ(x24:Int)=> .br (decide ([(46:UInt8)]++E12.D3=[(46:UInt8),115,112,97,99,101])) (let E14:=bS 3 3&&bT 0 3&&decide ((0:Int)<=(0:Int)/\0<(x23.1.length:Int)); .cn E14 (let E22:=x23.1.getD (dG 0) (RK.dflt RK.vmfleetref1Arg); .br (decide (E22.num<0)) (.lf (Sum.inr ([],{what:=[],op:=0,l:=[],D6:=0,at_:=0,size:=0},false))) (.cn E14 (.br (decide (E22.num>1024)) (.lf (Sum.inr ([],{what:=[],op:=0,l:=[],D6:=0,at_:=0,size:=0},false))) (.cn E14 (.lf (Sum.inr ([],{what:=(46:UInt8)::E12.D3,op:=x24,l:=x23.1,D6:=0,at_:=0,size:=E22.num},true)))))))) (.lf (Sum.inr ([],{what:=(46:UInt8)::E12.D3,op:=x24,l:=x23.1,D6:=0,at_:=0,size:=1},true)))))); .br (decide (E8>(0:Int))) (.cn E28 (.br (!E10.gap) (.lf (Sum.inr ([],{what:=[],op:=0,l:=[],D6:=0,at_:=0,size:=0},false))) T7)) T7)))))) T1)) T1) T1))); .br E30 (.cn E17 (.br (decide (E12.D3=[(58:UInt8)])) (.cn E16 (.cn E16 (.br (E9.kind !=1) (.lf (Sum.inr ([],{what:=[],op:=0,l:=[],D6:=0,at_:=0,size:=0},false))) (.an (Qft E9.D3) (.lv (Z1k E9.D3) λ(x1:Bool)=> .br (!x1) (.lf (Sum.inr ([],{what:=[],op:=0,l:=[],D6:=0,at_:=0,size:=0},false))) (.cn E19 (.br (E8==(0:Int)) (.lf (Sum.inr (E9.D3,{what:=[],op:=0,l:=[],D6:=0,at_:=0,size:=0},true))) (.cn E28 (.cn (bS 3 3&&bT 0 3&&decide ((0:Int)<=(1:Int)/\1<=E8/\E8<=E8)) (let T2:Tree ((List UInt8×Int)⊕(((List UInt8)×Q09×Bool))):= .an (Q5h E10.D3) (.lv (Qet E10.D3) λ(x7:List UInt8×Bool)=> .br (!x7.2) (.lf (Sum.inr ([],{what:=[],op:=0,l:=[],D6:=0,at_:=0,size:=0},false))) (let T4:Tree ((List UInt8×Int)⊕(((List UInt8)×Q09×Bool))):=let E26:=dC (dG E8-dG 1) (dD (dG 2+dG 1) x0.1); .an (Q5f E26 x7.1) (.lv (Qe4 E26 x7.1) λ(x8:List Q0p×Bool)=> .br (!x8.2) (.lf (Sum.inr ([],{what:=[],op:=0,l:=[],D6:=0,at_:=0,size:=0},false))) (.an (Q2x E10.D3) (.lv (Q7q E10.D3) λ(x9:Int)=> .br (decide (E10.D3=[(108:UInt8),105])) (.lf (Sum.inr (E9.D3,{what:=E10.D3,op:=x9,l:=x8.1,D6:=0,at_:=0,size:=2},true))) (.br (decide (E10.D3=[(46:UInt8),115,112,97,99,101])) (let E15:=bS 3 3&&bT 0 3&&decide ((0:Int)<=(0:Int)/\0<(x8.1.length:Int)); .cn E15 (let E23:=x8.1.getD (dG 0) (RK.dflt RK.vmfleetref1Arg); .br (decide (E23.num<0)) (.lf (Sum.inr ([],{what:=[],op:=0,l:=[],D6:=0,at_:=0,size:=0},false))) (.cn E15 (.br (decide (E23.num>1024)) (.lf (Sum.inr ([],{what:=[],op:=0,l:=[],D6:=0,at_:=0,size:=0},false))) (.cn E15 (.lf (Sum.inr (E9.D3,{what:=E10.D3,op:=x9,l:=x8.1,D6:=0,at_:=0,size:=E23.num},true)))))))) (.lf (Sum.inr (E9.D3,{what:=E10.D3,op:=x9,l:=x8.1,D6:=0,at_:=0,size:=1},true))))))); .br (decide ((↑(dG E8-dG 1):Int)>(0:Int))) (.cn (bS 3 3&&bT 0 3&&decide ((0:Int)<=(0:Int)/\0<(↑(dG E8-dG 1):Int))) (.br (!(x0.1.getD (dG 2+dG 1+dG 0) (RK.dflt RK.vmfleetref1Token)).gap) (.lf (Sum.inr ([],{what:=[],op:=0,l:=[],D6:=0,at_:=0,size:=0},false))) T4)) T4)); .br (decide (E10.D3=[(46:UInt8)])) (.br (decide (E8>=(2:Int))) (let E29:=bS 3 3&&bT 0 3&&decide ((0:Int)<=(1:Int)/\1<E8); .cn E29 (let E11:=x0.1.getD (dG 2+dG 1) (RK.dflt RK.vmfleetref1Token); .br (!E11.gap) (.cn E29 (.cn (decide (1+dL E11.D3<=maxLen)) (.cn (bS 3 3&&bT 0 3&&decide ((0:Int)<=(2:Int)/\2<=E8/\E8<=E8)) (.an (Q5h ((46:UInt8)::E11.D3)) (.lv (Qet ([(46:UInt8)]++E11.D3)) λ(x2:List UInt8×Bool)=> .br (!x2.2) (.lf (Sum.inr ([],{what:=[],op:=0,l:=[],D6:=0,at_:=0,size:=0},false))) (let T5:Tree ((List UInt8×Int)⊕(((List UInt8)×Q09×Bool))):=let E27:=dC (dG E8-dG 2) (dD (dG 2+dG 2) x0.1); .an (Q5f E27 x2.1) (.lv (Qe4 E27 x2.1) λ(x3:List Q0p×Bool)=> .br (!x3.2) (.lf (Sum.inr ([],{what:=[],op:=0,l:=[],D6:=0,at_:=0,size:=0},false))) (.an (Q2x ((46:UInt8)::E11.D3)) (.lv (Q7q ([(46:UInt8)]++E11.D3)) λ(x4:Int)=> .br (decide ([(46:UInt8)]++E11.D3=[(46:UInt8),115,112,97,99,101])) (let E18:=bS 3 3&&bT 0 3&&decide ((0:Int)<=(0:Int)/\0<(x3.1.length:Int)); .cn E18 (let E24:=x3.1.getD (dG 0) (RK.dflt RK.vmfleetref1Arg); .br (decide (E24.num<0)) (.lf (Sum.inr ([],{what:=[],op:=0,l:=[],D6:=0,at_:=0,size:=0},false))) (.cn E18 (.br (decide (E24.num>1024)) (.lf (Sum.inr ([],{what:=[],op:=0,l:=[],D6:=0,at_:=0,size:=0},false))) (.cn E18 (.lf (Sum.inr (E9.D3,{what:=(46:UInt8)::E11.D3,op:=x4,l:=x3.1,D6:=0,at_:=0,size:=E24.num},true)))))))) (.lf (Sum.inr (E9.D3,{what:=(46:UInt8)::E11.D3,op:=x4,l:=x3.1,D6:=0,at_:=0,size:=1},true)))))); .br (decide ((↑(dG E8-dG 2):Int)>(0:Int))) (.cn (bS 3 3&&bT 0 3&&decide ((0:Int)<=(0:Int)/\0<(↑(dG E8-dG 2):Int))) (.br (!(x0.1.getD (dG 2+dG 2+dG 0) (RK.dflt RK.vmfleetref1Token)).gap) (.lf (Sum.inr ([],{what:=[],op:=0,l:=[],D6:=0,at_:=0,size:=0},false))) T5)) T5)))))) T2)) T2) T2)))))))))) T3)) T3)))
def Z0z s:=(Qc7 s).m
abbrev Qh7 s:=(Qc7 s).p
def Z4s:LInv:={
 α:=(List UInt8)×(Int)
 F:=λst a=>([(0, .str a.1),(2,(lk st 2)),(3, .ptr 0 0 0),(4,(lk st 4)),(5, .int i64 a.2)],[⟨true,181,6, .gen [[(cT st 3 0),(cT st 3 1),(cT st 3 2),(cT st 3 3),(cT st 3 4),(cT st 3 5)]]⟩])
 a0:=λst=>((lk st 0).toStr,(lk st 5).toInt)
 ex0:=λst=>[]++[(rX st 3 0)]}
def Qxj:List (Nat×LInv):=[(2,Z4s)]
def Z7n:Q0b:=mT 190 [] false [.one (.str)] [] (λa r=>Qc7 (argS a 0)) (λX=> .tup [.str (X.1), .agg (Q09.cells (X.2.1)), .bool (X.2.2)]) (λX=>[])
theorem Z3x:Q04 pG Z7n:=oT (.cons Z3g (.cons Qwg (.cons Qzq (.cons Z0q (.cons Qk7 (.nil)))))) Tryz.func190 Tryz.call190 [.sl (.recs .vmfleetref1Arg) false] Qxj 3 (hff:=nofun)
def Qjm(l:List Q1w)(label:List UInt8)(z:(Int)):Prop:=0<=z/\z<=l.length
def Qcg(l:List Q1w)(label:List UInt8)(z:(Int)):Nat:=(l.length-z).toNat
def Qdu(l:List Q1w)(label:List UInt8):Tree (Int×Bool):=
.lp inferInstance (Qcg l label 0+1) ((nR RK.apiSymbol 2 l/\rE (label:List UInt8)/\rE (0:Int)/\True)/\True) 0 λ(v0:Int)=> .br (decide (v0<(l.length:Int))) (let E1:=bS 2 2&&bT 0 2&&decide (0<=v0/\v0<(l.length:Int)); .cn E1 (let E2:=l.getD v0.toNat (RK.dflt RK.apiSymbol); .br (decide (E2.Name=label)) (.cn E1 (.lf (Sum.inr (E2.Addr,true)))) (.nx ((nR RK.apiSymbol 2 l/\rE (label:List UInt8)/\rE ((wrap i64 (v0+1)):Int)/\True)/\True) (Sum.inl (wrap i64 (v0+1)))))) (.lf (Sum.inr (0,false)))
def Qn5 l label:=(Qdu l label).m
def Q30(l:List Q1w)(label:List UInt8):Prop:=
l.length<=1000000000000
theorem Qxo(l:List Q1w)(label:List UInt8)(hw:Q30 l label):(Qdu l label).p:=by
 simp only[Q30]at hw
 unfold Tree.p Qdu
 repeat'(first|refine w_lp (inv:=Qjm l label) (μ:=Qcg l label) ?_ (cO _) (λ_ _=> ?_)|exact trivial|refine w_br (λ_=> ?_) (λ_=> ?_)|refine w_cn ?_ ?_|refine w_an ?_ ?_|refine w_lv (λ_ _=> ?_)|refine w_nx ?_|refine w_lf ?_|refine And.intro ?_ ?_)
 all_goals((try simp only[Qjm,Qcg]at*);exact fin0)
def Z0c:LInv:={
 α:=(Int)
 F:=λst a=>([(0,(lk st 0)),(1,(lk st 1)),(6, .int i64 a)],[])
 a0:=λst=>(lk st 6).toInt
 ex0:=λst=>[]++[]}
def Qu1:List (Nat×LInv):=[(2,Z0c)]
def Z4v:Q0b:=mkP 125 [] true [.one (.recs .apiSymbol), .one (.str)] [] (λa r=>Q30 (argR .apiSymbol a 0) (argS a 1)) (λa r=>Qn5 (argR .apiSymbol a 0) (argS a 1)) (λX=> .tup [.int .u32 (X.1), .bool (X.2)]) (λX=>[])
theorem Qn7:Q04 pG Z4v:=Q0j drawn Q0g (.nil) Tryz.func125 Tryz.call125 (λa r=>Qdu (argR .apiSymbol a 0) (argS a 1)) [] Qu1 3 (hp:=λa r h=>Qxo (argR .apiSymbol a 0) (argS a 1) h)
def Z32(src:List UInt8)(z:(Int)×(Int)×(List Q1w)×(List Q09)):Nat:=((Qud src).length-z.2.1).toNat
def Qhn(src:List UInt8):Tree ((List Q1w)×(List Q09)×Q13):=
.br (decide ((src.length:Int)>(8192:Int))) (.lf ([],[],{Err:=300,Line:=0})) (.an (Qj6 src) (.lv (Qud src) λ(x0:List (List UInt8))=> .lp inferInstance (Z32 src (0,0,[],[])+1) ((rZ/\True/\True/\rE (0:Int)/\True/\rE (0:Int)/\True)/\(rE (0:Int)/\rE (0:Int)/\True)/\rE (x0:List (RK.T RK.str))/\rE ([]:List (RK.T RK.apiSymbol))/\rE ([]:List (RK.T RK.vmfleetref1Statement))/\True) (0,0,[],[]) λ(v0:Int×Int×List Q1w×List Q09)=> .br (decide (v0.2.1<(x0.length:Int))) (.cn (bS 1 1&&bT 0 1&&decide (0<=v0.2.1/\v0.2.1<(x0.length:Int))) (let E3:=x0.getD v0.2.1.toNat (RK.dflt RK.str); .an (Qh7 E3) (.lv (Z0z E3) λ(x1:List UInt8×Q09×Bool)=> .br (!x1.2.2) (.lf (Sum.inr ([],[],{Err:=301,Line:=wrap i64 (v0.2.1+1)}))) (let E1:=({Err:=305,Line:=wrap i64 (v0.2.1+1)}:Q13);let E2:=decide (72*(v0.2.2.2.length+1)<=140737488355328);let E4:=decide (wrap i64 (v0.1+x1.2.1.size)>1024); .br (!decide (x1.1=[])) (.an (Q30 v0.2.2.1 x1.1) (.lv (Qn5 v0.2.2.1 x1.1) λ(x2:Int×Bool)=> .br x2.2 (.lf (Sum.inr ([],[],{Err:=303,Line:=wrap i64 (v0.2.1+1)}))) (.cn (decide (24*(v0.2.2.1.length+1)<=140737488355328)) (let E5:=({Name:=x1.1,Addr:=wrap u32 (wrap i64 (4*v0.1))}:Q1w); .br (!decide (x1.2.1.what=[])) (.cn E2 (.br E4 (.lf (Sum.inr ([],[],E1))) (.nx ((rZ/\True/\True/\rE ((wrap i64 (v0.1+x1.2.1.size)):Int)/\True/\rE ((wrap i64 (v0.2.1+1)):Int)/\True)/\(rE (0:Int)/\rE (0:Int)/\True)/\rE (x0:List (RK.T RK.str))/\rE ((v0.2.2.1++[{Name:=x1.1,Addr:=wrap u32 (wrap i64 (4*v0.1))}]):List (RK.T RK.apiSymbol))/\rE ((v0.2.2.2++[{what:=x1.2.1.what,op:=x1.2.1.op,l:=x1.2.1.l,D6:=wrap i64 (v0.2.1+1),at_:=v0.1,size:=x1.2.1.size}]):List (RK.T RK.vmfleetref1Statement))/\True) (Sum.inl (wrap i64 (v0.1+x1.2.1.size),wrap i64 (v0.2.1+1),v0.2.2.1++[E5],v0.2.2.2++[{what:=x1.2.1.what,op:=x1.2.1.op,l:=x1.2.1.l,D6:=wrap i64 (v0.2.1+1),at_:=v0.1,size:=x1.2.1.size}]))))) (.br (decide (v0.1>1024)) (.lf (Sum.inr ([],[],E1))) (.nx ((rZ/\True/\True/\rE v0.1/\True/\rE ((wrap i64 (v0.2.1+1)):Int)/\True)/\(rE (0:Int)/\rE (0:Int)/\True)/\rE (x0:List (RK.T RK.str))/\rE ((v0.2.2.1++[{Name:=x1.1,Addr:=wrap u32 (wrap i64 (4*v0.1))}]):List (RK.T RK.apiSymbol))/\rE v0.2.2.2/\True) (Sum.inl (v0.1,wrap i64 (v0.2.1+1),v0.2.2.1++[E5],v0.2.2.2)))))))) (.br (!decide (x1.2.1.what=[])) (.cn E2 (.br E4 (.lf (Sum.inr ([],[],E1))) (.nx ((rZ/\True/\True/\rE ((wrap i64 (v0.1+x1.2.1.size)):Int)/\True/\rE ((wrap i64 (v0.2.1+1)):Int)/\True)/\(rE (0:Int)/\rE (0:Int)/\True)/\rE (x0:List (RK.T RK.str))/\rE v0.2.2.1/\rE ((v0.2.2.2++[{what:=x1.2.1.what,op:=x1.2.1.op,l:=x1.2.1.l,D6:=wrap i64 (v0.2.1+1),at_:=v0.1,size:=x1.2.1.size}]):List (RK.T RK.vmfleetref1Statement))/\True) (Sum.inl (wrap i64 (v0.1+x1.2.1.size),wrap i64 (v0.2.1+1),v0.2.2.1,v0.2.2.2++[{what:=x1.2.1.what,op:=x1.2.1.op,l:=x1.2.1.l,D6:=wrap i64 (v0.2.1+1),at_:=v0.1,size:=x1.2.1.size}]))))) (.br (decide (v0.1>1024)) (.lf (Sum.inr ([],[],E1))) (.nx ((rZ/\True/\True/\rE v0.1/\True/\rE ((wrap i64 (v0.2.1+1)):Int)/\True)/\(rE (0:Int)/\rE (0:Int)/\True)/\rE (x0:List (RK.T RK.str))/\rE v0.2.2.1/\rE v0.2.2.2/\True) (Sum.inl (v0.1,wrap i64 (v0.2.1+1),v0.2.2.1,v0.2.2.2))))))))) (.lf (Sum.inr (v0.2.2.1,v0.2.2.2,{Err:=0,Line:=0})))))
def Qzn src:=(Qhn src).m
abbrev Qkm src:=(Qhn src).p
def Zey:LInv:={
 α:=(Int)×(Int)×(List Q1w)×(List Q09)
 F:=λst a=>([(4, .ptr 0 0 0),(5, .all 2),(6, .all 3),(7, .int i64 a.1),(8, .all 1),(9, .int i64 a.2.1)],[⟨true,59,2, .gen [[(cT st 4 0),(cT st 4 1)]]⟩,⟨false,9,1,esOf st.rows (rN st 8)⟩,⟨false,257,2, .recs RK.apiSymbol a.2.2.1⟩,⟨false,181,6, .recs RK.vmfleetref1Statement a.2.2.2⟩])
 a0:=λst=>((lk st 7).toInt,(lk st 9).toInt,(Q68 RK.apiSymbol st.rows (rN st 5)),(Q68 RK.vmfleetref1Statement st.rows (rN st 6)))
 ex0:=λst=>[]++[(rX st 4 0),(rX st 8 1),(rX st 5 2),(rX st 6 3)]}
def Z3c:List (Nat×LInv):=[(8,Zey)]
def Zhm:Q0b:=mT 124 [] false [.one (.str)] [] (λa r=>Qhn (argS a 0)) (λX=> .tup [.all 0, .all 1, .agg (Q13.cells (X.2.2))]) (λX=>[⟨false,257,2, .recs .apiSymbol (X.1)⟩,⟨false,181,6, .recs .vmfleetref1Statement (X.2.1)⟩])
theorem Zfi:Q04 pG Zhm:=oT (.cons Z8s (.cons Z3x (.cons Qn7 (.nil)))) Tryz.func124 Tryz.call124 [.row 257 2 (.recs .apiSymbol), .row 181 6 (.recs .vmfleetref1Statement)] Z3c 3 (hff:=nofun)
def Qia(st:Q09)(v:Int):Tree (Int×Bool):=
.lv (Q23 st.op) λ(x0:Int)=> .lv (Qkj x0) λ(x1:Int×Int)=>let E7:=st.l.getD (dG 0) (RK.dflt RK.vmfleetref1Arg);let E8:=st.l.getD (dG 1) (RK.dflt RK.vmfleetref1Arg);let E9:=bS 3 3&&bT 0 3&&decide ((0:Int)<=(0:Int)/\0<(st.l.length:Int));let E10:=bS 3 3&&bT 0 3&&decide ((0:Int)<=(1:Int)/\1<(st.l.length:Int));let E11:=st.l.getD (dG 2) (RK.dflt RK.vmfleetref1Arg);let E12:=bS 3 3&&bT 0 3&&decide ((0:Int)<=(2:Int)/\2<(st.l.length:Int)); .br (x0==2) (.cn E9 (.cn E10 (.cn E12 (let T2:Tree ((Int×Bool)):= .br (decide (0<x1.1)) (.lf (0,false)) (.br (decide (0>x1.2)) (.lf (0,false)) (.lv (Q18 {Op:=st.op,A:=E7.reg,B:=E8.reg,C:=E11.reg,Imm:=wrap i32 0}) λ(x2:Int×Bool)=> .lf (x2.1,x2.2))); .br (x0==2) T2 (.br (x0==1) T2 (.br (decide (v<x1.1)) (.lf (0,false)) (.br (decide (v>x1.2)) (.lf (0,false)) (.lv (Q18 {Op:=st.op,A:=E7.reg,B:=E8.reg,C:=E11.reg,Imm:=wrap i32 v}) λ(x4:Int×Bool)=> .lf (x4.1,x4.2))))))))) (let T1:Tree ((Int×Bool)):= .br (decide (x0>=6)) (.cn E9 (let T5:Tree ((Int×Bool)):= .br (decide (0<x1.1)) (.lf (0,false)) (.br (decide (0>x1.2)) (.lf (0,false)) (.lv (Q18 {Op:=st.op,A:=E7.reg,B:=0,C:=0,Imm:=wrap i32 0}) λ(x8:Int×Bool)=> .lf (x8.1,x8.2))); .br (x0==2) T5 (.br (x0==1) T5 (.br (decide (v<x1.1)) (.lf (0,false)) (.br (decide (v>x1.2)) (.lf (0,false)) (.lv (Q18 {Op:=st.op,A:=E7.reg,B:=0,C:=0,Imm:=wrap i32 v}) λ(x10:Int×Bool)=> .lf (x10.1,x10.2))))))) (.br (x0 !=1) (.cn E9 (.cn E10 (let T3:Tree ((Int×Bool)):= .br (decide (0<x1.1)) (.lf (0,false)) (.br (decide (0>x1.2)) (.lf (0,false)) (.lv (Q18 {Op:=st.op,A:=E7.reg,B:=E8.reg,C:=0,Imm:=wrap i32 0}) λ(x11:Int×Bool)=> .lf (x11.1,x11.2))); .br (x0==2) T3 (.br (x0==1) T3 (.br (decide (v<x1.1)) (.lf (0,false)) (.br (decide (v>x1.2)) (.lf (0,false)) (.lv (Q18 {Op:=st.op,A:=E7.reg,B:=E8.reg,C:=0,Imm:=wrap i32 v}) λ(x13:Int×Bool)=> .lf (x13.1,x13.2)))))))) (let T6:Tree ((Int×Bool)):= .br (decide (0<x1.1)) (.lf (0,false)) (.br (decide (0>x1.2)) (.lf (0,false)) (.lv (Q18 {Op:=st.op,A:=0,B:=0,C:=0,Imm:=wrap i32 0}) λ(x14:Int×Bool)=> .lf (x14.1,x14.2))); .br (x0==2) T6 (.br (x0==1) T6 (.br (decide (v<x1.1)) (.lf (0,false)) (.br (decide (v>x1.2)) (.lf (0,false)) (.lv (Q18 {Op:=st.op,A:=0,B:=0,C:=0,Imm:=wrap i32 v}) λ(x16:Int×Bool)=> .lf (x16.1,x16.2))))))); .br (decide (st.op>=32)) (.br (decide (st.op<=36)) (.cn E9 (.cn E12 (.cn E10 (let T4:Tree ((Int×Bool)):= .br (decide (0<x1.1)) (.lf (0,false)) (.br (decide (0>x1.2)) (.lf (0,false)) (.lv (Q18 {Op:=st.op,A:=E7.reg,B:=E11.reg,C:=0,Imm:=wrap i32 0}) λ(x5:Int×Bool)=> .lf (x5.1,x5.2))); .br (x0==2) T4 (.br (x0==1) T4 (.br (decide (E8.num<x1.1)) (.lf (0,false)) (.br (decide (E8.num>x1.2)) (.lf (0,false)) (.lv (Q18 {Op:=st.op,A:=E7.reg,B:=E11.reg,C:=0,Imm:=wrap i32 E8.num}) λ(x7:Int×Bool)=> .lf (x7.1,x7.2))))))))) T1) T1)
def Qo6 st v:=(Qia st v).m
abbrev Q9d st v:=(Qia st v).p
def Zi6:Q0b:=mT 126 [] true [.agg Q09.sig, .one (.int .i64)] [] (λa r=>Qia (Q09.of (aC a 0)) (argI a 1)) (λX=> .tup [.int .u32 (X.1), .bool (X.2)]) (λX=>[])
theorem Zdy:Q04 pG Zi6:=oT (.cons Qeg (.cons Qq8 (.cons Qdk (.nil)))) Tryz.func126 Tryz.call126 [] [] 2
