import Derived.Test.YthjfindbamdacaaGreatDoorAuditComparesFin1
open Nat renaming lt_succ_self->cO,le_refl->aO,pow_succ->fF,blt->bJ,zero_le->aT,beq->bT,lt_irrefl->fO,eq_zero_or_pos->fP
open List renaming replicate->cP,length_singleton->cX,append_assoc->dD,length_replicate->cU,length_cons->dI,length->dK,length_map->fG,map_append->bL,getD_eq_getElem?_getD->dC,getElem?_eq_getElem->cG,getElem_mem->fI,drop_eq_getElem_cons->aB,drop_eq_nil_of_le->aA,append_nil->cJ,mem_cons->cR,not_mem_nil->cS,nil_append->fJ,take->cZ,drop->dA,take_of_length_le->fK,length_drop->bF,getElem?_map->fL,length_set->dH,ext_getElem->bN,getElem_map->bO
open Int renaming tmod_eq_emod_of_nonneg->eF,toNat_natCast->eD,le_refl->fH,toNat_of_nonneg->eH,natCast_inj->fN
open Bool renaming true_and->fM,eq_iff_iff->eI
set_option maxRecDepth 100000
set_option linter.all false
namespace Go.Proofs.YthjfindbamdacaaGreatDoor
open Go Go.GD
open Go.IntKind(wrap i64 u32 wrap_i64 wrap_u32 wrap_u64 wrap_u8 wrap_i32)
attribute [local irreducible] Kp
def Tree.V{β:Type}(t:Tree β)(W:β->Prop):Prop:=W t.m
section
variable {α β:Type} {W:β->Prop} {c:Bool} {t e:Tree β}
theorem da{x:β}(h:W x):Tree.V (.lf x) W:=h
theorem EH{f:Prop}{x:β}{hf:f}(h:W x):Tree.V (.nx f x hf) W:=h
theorem dh(h:c=true->Tree.V t W)(g:c=false->Tree.V e W):Tree.V (.br c t e) W:=by
 cases c
 ·exact g rfl
 ·exact h rfl
theorem od(g:Tree.V t W):Tree.V (.cn c t) W:=g
theorem gv{p:Prop}(g:Tree.V t W):Tree.V (.an p t) W:=g
theorem fi{x:α}{k:α->Tree β}(h:∀y,y=x->Tree.V (k y) W):Tree.V (.lv x k) W:=h x rfl
theorem An{d:Inhabited β}{n:Nat}{f:Prop}{x:α}{k:α->Tree (α⊕β)}{hf:f}{inv:α->Prop}{μ:α->Nat}(h:inv x)(hn:μ x<n)(g:∀y,inv y->Tree.V (k y) (Sum.elim (λz=>inv z/\μ z<μ y) W)):Tree.V (.lp d n f x k hf) W:=by
 refine zay (P:=inv) (R:=W) (μ:=μ) (λa ha=>?_) n x h hn
 have:=g a ha
 unfold Tree.V at this
 revert this
 cases(k a).m with
 |inl z=>exactλh=>h
 |inr b=>exactλh=>h
end
structure e9(P:Nat)(m:au):Prop where
 ok:kH P m
 may:mF m=true
section
variable {P:Nat} {m:au} (h:e9 P m)
include h
theorem e9.v:sq m:=⟨h.ok.lS,h.ok.mem.u,h.ok.kJ,h.ok.si,h.ok.target,h.ok.pM⟩
theorem e9.s:pN P m:=⟨h.ok.lS,h.ok.mem,h.ok.kJ,h.ok.si,h.ok.target.1,h.ok.target.2⟩
theorem e9.IG:tj m=true:=(Lg h.v).symm.trans h.may
theorem Zkd{e:jX}(he:U e.N):e9 P (tn m e).2/\(tn m e).2.A0=m.A0:=by
 have o:kH P (tn m e).2:=Tree.post _ (qL h.ok he)
 have a:=(Tree.pp (Zki h.ok he)).2
 change(mF m=true->mF (Lq m e).1=true)/\(Lq m e).1.A0=m.A0/\_ at a
 have e1:Oa m e=((tn m e).2,(tn m e).1):=by
  simp only[Oa,S5,Tree.m,dj,Ln,h.IG];rfl
 rw[Z89 h.v e,e1]at a
 exact⟨⟨o,a.1 h.may⟩,a.2.1⟩
theorem Lr:sr m=false↔m.A4=false/\tl m=false/\m.A0<1152921504606846976:=by
 simp only[sr,IE,Tree.m,dj,h.IG]
 cases m.A4<;>cases tl m<;>simp
theorem Oc(hs:sr m=false){clock:Int}(hc:U clock):e9 P (ga m clock).2/\(ga m clock).2.A0=m.A0+1/\(ga m clock).1.length<=1:=by
 have o:=Tree.post _ (Sf h.ok hc)
 change(ga m clock).1.length<=1/\kH P (ga m clock).2/\(ga m clock).2.A0=wrap .u64 (m.A0+1)at o
 have s:=(Tree.pp (xi h.s h.ok.pM hc)).2
 change _/\Good P m (Am m clock).1 at s
 have e:Am m clock=((ga m clock).2,(ga m clock).1):=by rw[Zga h.v,Xk,hs];rfl
 rw[e]at s
 have Ns:=((Lr h).1 hs).2.2
 have h0:=h.ok.pM
 refine⟨⟨o.2.1,s.2.may h.may⟩,?_,o.1⟩
 rw[o.2.2,wrap_u64];omega
end
structure Od(P:Nat)(k:Int)(r:pj):Prop where
 m:e9 P r.B1
 clock:U r.Bk
 pM:r.B1.A0<=k
def okQ(l:List jX):Prop:=l.length<=16/\∀q∈l,U q.N
theorem Xn{i:List Int}(hu:∀w∈i,U w)(hl:i.length<=256):e9 8 (kI 8 4 i).1/\(kI 8 4 i).1.A0=0:=by
 obtain⟨a,b⟩:=(Tree.pp (Ib i hu hl)).2
 change kH 8 (kI 8 4 i).1 at a
 refine⟨⟨a,?_⟩,b⟩
 have e:(kI 8 4 i).2=true:=by
  have w:i64.wrap (8*32)=256:=by decide
  simp only[kI,Dl,Tree.m,w,dj,dN (show¬((i.length:Int)>256) by omega)]
  rfl
 obtain⟨a1,a2,a3,a4,a5,a6⟩:=xaL 8 4 i e
 exact(qaM _ 8 4 a1 a2 a3 a4 a5 _ a6).1
theorem zl{m:au}(h:e9 8 m)(hc:m.A0<=87):Tree.V (Q4 m [] 87) (λx=>x.2.2.2=0->e9 8 x.1/\x.1.A0<=87):=by
 have z:∀{k:Int} {p:Prop},k≠0->k=0->p:=λa b=>absurd b a
 unfold Q4
 refine fi λx0 _=>dh (λ_=>da (z (by decide))) λ_=>dh (λ_=>da (z (by decide))) λ_=>dh (λ_=>da (z (by decide))) λ_=>gv (fi λx1 _=>dh (λ_=>da (z (by decide))) λ_=>gv (fi λx2 hx=>?_))
 rw[Ln]at hx
 refine An (inv:=λv:au×List fm=>e9 8 v.1/\v.1.A0<=87) (μ:=MY m [] 87) ⟨by rw[hx];exact h,by rw[hx];exact hc⟩ (cO _) λv0 ⟨a1,a3⟩=>?_
 have a2:=a1.ok.pM
 refine dh (λhb=>dh (λhm=>?_) (λ_=>da λ_=>⟨a1,a3⟩)) (λ_=>da λ_=>⟨a1,a3⟩)
 have hb:=oY hb
 have hm:=oY hm
 refine An (inv:=λ_=>True) (μ:=MZ m [] 87 v0) trivial (cO _) λv1 _=>?_
 refine dh (λ_=>da λ_=>⟨a1,a3⟩) λhh=>gv (fi λx3 h3=>dh (λ_=>da λ_=>⟨a1,a3⟩) λhi=>gv (fi λx4 _=>dh (λ_=>da (z (by decide))) λ_=>gv (fi λx5 h5=>od (EH ?_))))
 obtain⟨b1,b2,_⟩:=Oc a1 ((Lr a1).2 ⟨hh,h3.symm.trans hi,hm⟩) (clock:=0) eh
 rw[<-h5]at b1 b2
 show(e9 8 x5.2/\x5.2.A0<=87)/\(87-x5.2.A0).toNat<(87-v0.1.A0).toNat
 exact⟨⟨b1,by omega⟩,by omega⟩
theorem Zdq(kind:Int)(l:List Int)(hl:l.length*8<=reachBytes)(h40:l.length<=60):e9 8 (IH kind l)/\(IH kind l).A0<=87:=by
 show Tree.V (BI kind l) (λm=>e9 8 m/\m.A0<=87)
 have code:=(Tree.pp (J8 l hl)).2
 change((Ls l).length:Int)=l.length/\∀w∈Ls l,U w at code
 obtain⟨b1,b2⟩:=code
 unfold BI
 refine gv (fi λx0 mU=>dh (λ_=>gv (fi λx1 e1=>?_)) (λhk=>?_))
 ·have eb:x1.1=jm:=by rw[e1];rfl
  obtain⟨q1,q2⟩:jm.length<=160/\∀w∈jm,U w:=Nh
  refine An (inv:=λv:List Int=>v.length<=160/\v=jm++cP (v.length-jm.length) 0) (μ:=Ni kind l) ⟨by rw[eb];exact q1,by rw[eb];simp⟩ (cO _) λv0 ⟨a1,a2⟩=>?_
  have a3:jm.length<=v0.length:=by rw[a2,lA];omega
  refine dh (λhb=>?_) (λhb=>?_)
  ·have hb:=oY hb
   refine od (EH ?_)
   show(_/\_)/\(_:Nat)<_
   refine⟨⟨by rw[lA,cX];omega,?_⟩,by show 160-(v0++[0]).length<160-v0.length;rw[lA,cX];omega⟩
   show v0++[0]=jm++cP ((v0++[0]).length-jm.length) 0
   rw[lA,cX,show v0.length+1-jm.length=(v0.length-jm.length)+1 by omega,List.replicate_succ',<-dD,<-a2]
  ·have hb:=oN hb
   have hv:v0=s9:=by
    unfold s9
    rw[show(160:Nat)=v0.length by omega]
    exact a2
   subst hv
   have hp:=yg
   have V4:∀w∈s9,U w:=λw hw=>(List.mem_append.1 hw).elim (q2 w) (sd _ w)
   refine gv (fi λx2 e2=>od ?_)
   rw[<-e2]at b1 b2
   have hu:∀w∈s9++x2,U w:=λw hw=>(List.mem_append.1 hw).elim (V4 w) (b2 w)
   have hlen:(s9++x2).length<=256:=by rw[lA];omega
   refine dh (λhb=>?_) (λhb=>?_)
   ·have hb:=oY hb;omega
   ·obtain⟨c1,c2⟩:=Xn hu hlen
    refine gv (fi λx3 h3=>?_)
    rw[<-h3]at c1 c2
    have rn:=zl c1 (by omega)
    refine dh (λ_=>gv (fi λx4 hx=>da ?_)) (λ_=>da ⟨c1,by omega⟩)
    have e:x3=kI 8 4 (s9++(x2++cP (96-x2.length) 0)):=by
     rw[h3]
     have Ih:(x2++cP (96-x2.length) (0:Int)).length=96:=by rw[lA,cU];omega
     refine zg _ _ hlen (by rw[lA,Ih];omega) ?_
     rw[lA,lA,Ih,hp,dD,dD,dD,show 256-(160+96)=0 by omega,show 256-(160+x2.length)=96-x2.length by omega]
     simp
    have h0:x4.2.2.2=0:=by
     rw[hx,e]
     exact zX _ (by rw[lA,cU];omega)
    exact(by rw[hx];exact rn:x4.2.2.2=0->e9 8 x4.1/\x4.1.A0<=87) h0
 ·have hk:=oN hk
  refine gv (fi λx2 e2=>od ?_)
  rw[<-e2]at b1 b2
  refine dh (λhb=>?_) (λhb=>?_)
  ·have hb:=oY hb;omega
  ·obtain⟨c1,c2⟩:=Xn b2 (by omega)
   refine gv (fi λx3 h3=>?_)
   rw[<-h3]at c1 c2
   exact dh (λh=>absurd (eq_of_beq h) (by omega)) (λ_=>da ⟨c1,by omega⟩)
theorem Zlr(w:Int):wrap .i64 (pP w).1.bh=(pP w).1.bh:=by
 show Tree.V (Gh w) (λr=>wrap .i64 r.1.bh=r.1.bh)
 have e:∀x,wrap .i64 (wrap .i32 x)=wrap .i32 x:=λx=>by rw[wrap_i64,wrap_i32];omega
 unfold Gh
 refine fi λx0 _=>?_
 have l:∀i:gj,wrap .i64 i.bh=i.bh->Tree.V (Tree.lv (Du i) λx=>.br (!x) (.lf ((⟨0,0,0,0,0⟩:gj),false)) (.lf (i,true))) (λr=>wrap .i64 r.1.bh=r.1.bh):=λi hi=>fi λx hx=>dh (λ_=>da rfl) (λhb=>da hi)
 exact dh (λ_=>da rfl) (λ_=>dh (λ_=>l _ rfl) (λ_=>dh (λ_=>l _ (e _)) (λ_=>dh (λ_=>l _ (e _)) (λ_=>l _ (e _)))))
def Ca(e:kD):Bool:=bif e.C4==1 then e.C6==2 else false
def ue(c:bg)(m:List Int):Bool:=
 bif bb .u32 c.B2.a0 1==0 then false else bif(kB m c.Pc 4).2 then bif(pP (kB m c.Pc 4).1).2 then bif(pP (kB m c.Pc 4).1).1.Op==60 then(pP (kB m c.Pc 4).1).1.bh==2 else false else false else false
theorem yl(m:au):py m=ue (mV m) m.Mem:=rfl
theorem zaE(c:bg)(i:gj):Ca (SI c i).2=(bif i.Op==60 then wrap .i64 i.bh==2 else false):=by
 show Tree.V (II c i) (λr=>Ca r.2=_)
 have no:∀{k:Int},i.Op=k->k≠60->∀e:kD,e.C4≠1->Ca e=(bif i.Op==60 then wrap .i64 i.bh==2 else false):=λh g e he=>by
  unfold Ca
  rw[h,show(_==(60:Int))=false from beq_false_of_ne g,show(e.C4==1)=false from beq_false_of_ne he];rfl
 have eq:∀{k:Int},(i.Op==k)=true->i.Op=k:=λh=>eq_of_beq h
 unfold II
 refine dh (λh=>fi λ_ _=>da (no (eq h) (by decide) _ (show(0:Int)≠1 by decide))) λ_=>dh (λh=>fi λ_ _=>da (no (eq h) (by decide) _ (show(0:Int)≠1 by decide))) λ_=>dh (λh=>od (gv (fi λ_ _=>da (no (eq h) (by decide) _ (show(0:Int)≠1 by decide))))) λ_=>dh (λh=>od (gv (fi λ_ _=>da (no (eq h) (by decide) _ (show(0:Int)≠1 by decide))))) λ_=>dh (λh=>da ?_) λEI=>?_
 ·show(bif(1:Int)==1 then wrap .i64 i.bh==2 else false)=_
  rw[h];rfl
 ·have n60:i.Op≠60:=λe=>by rw[e]at EI;cases EI
  refine dh (λh=>od (da (no (eq h) (by decide) _ (by show(2:Int)≠1;decide)))) λ_=>dh (λh=>da (no (eq h) (by decide) _ (show(3:Int)≠1 by decide))) λ_=>dh (λh=>da (no (eq h) (by decide) _ (show(5:Int)≠1 by decide))) λ_=>dh (λh=>da (no (eq h) (by decide) _ (show(4:Int)≠1 by decide))) λ_=>da (no rfl n60 _ (show(0:Int)≠1 by decide))
theorem qm(c:bg)(m:List Int)(i:gj):Ca (oD c m i).2.1=(bif i.Op==60 then wrap .i64 i.bh==2 else false):=by
 unfold oD
 cases h:decide (i.Op>=56)
 ·have h:=oN h
  rw[show(i.Op==60)=false from beq_false_of_ne (by omega)]
  cases decide (i.Op>=40)<;>cases decide (i.Op>=32)<;>cases i.Op==24<;>cases decide (i.Op<=13)<;>rfl
 ·exact zaE c i
theorem xL{P:Nat}{m:List Int}(h:ei P m){c:bg}(hc:ir c)(jL:c.B2.a0<=31):Ca (ua c m).2.1=ue c m:=by
 rw[Gr]
 unfold ue
 cases hk:bb .u32 c.B2.a0 1==0
 ·have hp:SG c=false:=by
   rw[Z62 hc.a0.1 jL,show Gm c=true from by show(bb .u32 c.B2.a0 1 !=0)=true;rw[bne,hk];rfl]
   rfl
  have wi:=KP h hc.pc (size:=4) (.inr rfl)
  have kn:KU 1=true:=rfl
  have p0:=hc.pc.1
  have tm:Int.tmod c.Pc (wrap .u32 4)=c.Pc%4:=by
   rw[show wrap .u32 4=4 from rfl,eF p0]
  have rc:Q1 c m c.Pc 4 1=bif c.Pc%4 !=0 then(0,3,m)else bif !rp m c.Pc 4 then(0,tg 1,m)else(c.Pc,0,m):=by
   simp only[Q1,Gn,Tree.m,dj,kn,hp,tm]
   rfl
  rw[rc]
  cases h4:(c.Pc%4 !=0)
  ·cases hw:rp m c.Pc 4
   ·have l2:(kB m c.Pc 4).2=false:=by
     simp only[kB,Ak,Tree.m,dj,hw];rfl
    rw[l2]
    show Ca (DC c (0,tg 1,m) _ _).2.1=false
    unfold DC
    rw[show((0,tg 1,m):Int×Int×List Int).2.1=tg 1 from rfl,show(tg 1 !=0)=true by decide]
    rfl
   ·have l2:(kB m c.Pc 4).2=true:=by
     simp only[kB,Ak,Tree.m,dj,hw];rfl
    rw[l2]
    show Ca (DC c (c.Pc,0,m) (kB m c.Pc 4).1 (pP (kB m c.Pc 4).1)).2.1=_
    have im:=Zlr (kB m c.Pc 4).1
    generalize kB m c.Pc 4=x at*
    generalize pP x.1=d at*
    unfold DC
    cases d.2
    ·rfl
    ·rw[hk]
     have:=qm c m d.1
     rw[im]at this
     cases Gf d.1.Op<;>exact this
  ·have hw:rp m c.Pc 4=false:=by
    rw[wi]
    refine dN λe=>?_
    rw[e.1]at h4;cases h4
   have l2:(kB m c.Pc 4).2=false:=by
    simp only[kB,Ak,Tree.m,dj,hw];rfl
   rw[l2];rfl
 ·have us :∀x w d,Ca (DC c x w d).2.1=false:=λx w d=>by
   unfold DC
   cases x.2.1 !=0
   ·cases d.2
    ·rfl
    ·cases hp:Gf d.1.Op
     ·have:=qm c x.2.2 d.1
      rw[show(d.1.Op==60)=false from beq_false_of_ne λe=>by rw[e]at hp;cases hp]at this
      exact this
     ·rw[hk];rfl
   ·rfl
  exact us _ _ _
theorem Zm5{m:au}(h:sq m):Oe m=Xo m:=by
 have rd:Xo m=bif sr m then false else py m:=rfl
 have pd:Oe m=bif !Ag m then false else Ca (Q7 (mW m).A9 (mW m).Mem).2.2:=rfl
 rw[rd,pd,S1 h]
 cases hs:sr m
 ·have hr:Ag m=true:=by rw[S1 h,hs];rfl
  obtain⟨hm,hh,Ns⟩:=Su hr
  obtain⟨g1,g2,g3,g4,g5⟩:=(Ga m).1 hm
  rcases(N6 m.Mem h.mem).2 with c|⟨P,hP,gl⟩
  ·exact absurd c g1
  have Xl:pN P m:=⟨h.lS,gl,h.kJ,h.si,h.ub.1,h.ub.2⟩
  obtain⟨b1,b2,b3,_⟩:=(Tree.pp (Wg Xl g2)).2
  change mi (mW m).A9 at b1
  change pN P (mW m)at b2
  have be:=Z6j h g2.st
  have S4:mi (mV m):=by have:=b1;rw[be]at this;exact this
  have Lp:ir (mV m):=by have:=b2.lS;rw[be]at this;exact this
  have ex:=Zej gl Lp S4.st
  rw[be,yl,<-xL gl Lp S4.st]
  show Ca (Q7 (mV m) m.Mem).2.2=_
  rw[ex];rfl
 ·rfl
theorem qan{m:au}(h:U m.A1.C0):Xp m:=by
 show(Gx m).p
 unfold Tree.p Gx
 refine aa (λ_=>cr ?_ (aq λ_ _=>trivial)) (λ_=>trivial)
 show(Gw m).p
 unfold Tree.p Gw
 exact bm (Zk0 h) λ_ _=>trivial
theorem Zjy{P:Nat}{m:au}(h:pN P m):(Of m).w (λ_=>True):=by
 unfold Of
 exact bm (Wj h.given) λ_ _=>aa (λ_=>trivial) (λ_=>bm (xT h) λx1 h1=>bm (zx h1.lS h1.mem) λx2 _=>aa (λ_=>trivial) (λ_=>trivial))
section
variable {P:Nat} {m:au} (h:e9 P m)
include h
theorem e9.len:m.Mem.length<=1024:=by have:=h.ok.mem.len;have:=h.ok.mem.p2;omega
theorem e9.app(e:jX):Lq m e=((tn m e).2,(tn m e).1):=by
 rw[Z89 h.v]
 simp only[Oa,S5,Tree.m,dj,Ln,h.IG];rfl
theorem e9.step(hs:sr m=false)(clock:Int):Am m clock=((ga m clock).2,(ga m clock).1):=by
 rw[Zga h.v,Xk,hs];rfl
theorem e9.idle:KJ m=tl m:=Zfb h.v
end
structure Jaa(P:Nat)(k:Int)(r:pj):Prop where
 g:Od P k r
 q:okQ r.Queue
 l:(r.Log.length:Int)<=3*k
structure Og(m:au):Prop where
 dl:U m.A7.B8
 bl:U m.A6.ab
 st: -9223372036854775808<=m.A6.B5/\m.A6.B5<9223372036854775808
 cm: -9223372036854775808<=m.A6.D1/\m.A6.D1<9223372036854775808
 ct:0<=m.A0/\m.A0<18446744073709551616
theorem jB.rfl:∀{l:List D},jB l l
 |[]=>trivial
 |_::_=>⟨gm.rfl,jB.rfl⟩
theorem jB.append:∀{a b a' b':List D},jB a a'->jB b b'->jB (a++b) (a'++b')
 |[],_,[],_,_,h=>h
 |_::_,_,_::_,_,h,g=>⟨h.1,jB.append h.2 g⟩
 |[],_,_::_,_,h,_=>h.elim
 |_::_,_,[],_,h,_=>h.elim
def wm(n:Nat):List Int:=if h:n<128 then[(n:Int)]else((n%128+128:Nat):Int)::wm (n/128)
termination_by n
decreasing_by omega
theorem xm{n:Nat}(h:n<128):wm n=[(n:Int)]:=by unfold wm;rw[dif_pos h]
theorem vY{n:Nat}(h:¬n<128):wm n=((n%128+128:Nat):Int)::wm (n/128):=by
 conv=>lhs;unfold wm
 rw[dif_neg h]
theorem Xq:∀(k n:Nat),n<128^(k+1)->(wm n).length<=k+1
 |0,n,h=>by rw[xm (by simpa using h)];exact aO _
 |k +1,n,h=>by
  by_cases g:n<128
  ·rw[xm g];exact Nat.le_add_left _ _
  ·rw[vY g,dI]
   have:=Xq k (n/128) (by rw[fF]at h;exact Nat.div_lt_of_lt_mul (by rw[Nat.mul_comm];exact h))
   omega
def wo(x:Int):List UInt8:=bytesOf (wm x.toNat)
theorem Z6l:∀s:List UInt8,bytesOf (jq s)=s
 |[]=>rfl
 |b::s=>by
  show UInt8.ofNat ((b.toNat:Int)).toNat::bytesOf (jq s)=_
  rw[Z6l s,eD,UInt8.ofNat_toNat]
theorem Oh:∀n:Fin 256,ie .u8 (n.val:Int) 128=((n.val%128+128:Nat):Int):=by decide
theorem zL{x:Int}(h:0<=x):ie .u8 (wrap .u8 x) 128=((x.toNat%128+128:Nat):Int):=by
 have e:wrap .u8 x=((x.toNat%256:Nat):Int):=by rw[wrap_u8];omega
 rw[e]
 have:=Oh ⟨x.toNat%256,Nat.mod_lt _ (by decide)⟩
 rw[this]
 show((x.toNat%256%128+128:Nat):Int)=_
 omega
theorem Xr{x:Int}(h:0<=x):bf .u64 x 7=((x.toNat/128:Nat):Int):=by
 have:bf .u64 x 7=x.fdiv 128:=rfl
 rw[this,Int.fdiv_eq_ediv_of_nonneg _ (by decide)];omega
theorem xaE{x:Int}(h0:0<=x)(h1:x<18446744073709551616):(Oi x).w (λs=>s=wo x):=by
 have hl:=Xq 9 x.toNat (by rw[show(128:Nat)^(9+1)=1180591620717411303424 by decide];omega)
 unfold Oi
 refine fg (inv:=λv:Int×List Int=>0<=v.1/\v.2++wm v.1.toNat=wm x.toNat) (μ:=Qed x) ⟨h0,rfl⟩ (cO _) λv ⟨a,b⟩=>?_
 obtain⟨y,o⟩:=v
 have a:0<=y:=a
 have b:o++wm y.toNat=wm x.toNat:=b
 have bl:=congrArg dK b
 rw[lA]at bl
 refine aa (λhb=>?_) (λhb=>?_)
 ·have hb:y>=128:=oY hb
  have g:¬y.toNat<128:=by omega
  rw[vY g]at b bl
  rw[dI]at bl
  refine ax (dY (by show 1*(o.length+1)<=_;omega)) (ek ?_)
  show(0<=bf .u64 y 7/\(o++[ie .u8 (wrap .u8 y) 128])++wm (bf .u64 y 7).toNat=wm x.toNat)/\(bf .u64 y 7).toNat<y.toNat
  rw[Xr a,zL a,eD]
  refine⟨⟨by omega,?_⟩,by omega⟩
  rw[dD];exact b
 ·have hb:¬y>=128:=oN hb
  have g:y.toNat<128:=by omega
  rw[xm g]at b bl
  refine ax (dY (by show 1*(o.length+1)<=_;rw[cX]at bl;omega)) ?_
  show bytesOf (o++[wrap .u8 y])=wo x
  unfold wo
  rw[<-b,show wrap .u8 y=((y.toNat:Nat):Int) by rw[wrap_u8];omega]
theorem Xs{x:Int}(h1:x<18446744073709551616):(wo x).length<=10:=by
 unfold wo bytesOf
 rw[fG]
 exact Xq 9 x.toNat (by rw[show(128:Nat)^(9+1)=1180591620717411303424 by decide];omega)
def lT(l:List Int):List UInt8:=l.flatMap wo
theorem GA:∀{l:List Int},(∀x∈l,x<18446744073709551616)->(lT l).length<=10*l.length
 |[],_=>aO _
 |x::l,h=>by
  have a:=Xs (h x (by simp))
  have b:=GA (l:=l) λy hy=>h y (by simp[hy])
  show(wo x++lT l).length<=_
  rw[lA,dI];omega
theorem Oj(x:Int)(l:List Int):lT (x::l)=wo x++lT l:=rfl
theorem zan(l m:List Int):lT (l++m)=lT l++lT m:=List.flatMap_append
theorem Zjf{b:List Int}{s:List UInt8}(h:b.length+s.length<=1000000):(Ok b s).w (λx=>x.2.2=b++jq s):=by
 unfold Ok
 refine aq λx0 e0=>?_
 have e0:x0=b:=e0
 subst e0
 refine ax (dY ?_) rfl
 have:(jq s).length=s.length:=fG ..
 omega
theorem lU(s:List UInt8):(jq s).length=s.length:=fG ..
theorem S6(s t:List UInt8):jq (s++t)=jq s++jq t:=bL
theorem S7{l:List Int}{i:Nat}(h:i<l.length):l.getD i 0=l[i]:=by rw[dC,cG h];rfl
theorem IJ{c l:List Int}(hl:∀x∈l,0<=x/\x<18446744073709551616)(hc:c.length+10*l.length<=1000000):(Ol c l).w (λx=>x=c++jq (lT l)):=by
 unfold Ol
 refine fg (inv:=λv:Int×List Int=>0<=v.1/\v.1<=l.length/\v.2++jq (lT (l.drop v.1.toNat))=c++jq (lT l)) (μ:=Q8s c l) ⟨fH 0,by show(0:Int)<=_;omega,rfl⟩ (cO _) λv ⟨a1,a2,a3⟩=>?_
 obtain⟨i,o⟩:=v
 have a1:0<=i:=a1
 have a2:i<=l.length:=a2
 have a3:o++jq (lT (l.drop i.toNat))=c++jq (lT l):=a3
 refine aa (λhb=>?_) (λhb=>?_)
 ·have hb:i<l.length:=oY hb
  have cj:i.toNat<l.length:=by omega
  have ew:i64.wrap (i+1)=i+1:=by rw[wrap_i64];omega
  have ed:=S7 cj
  have hm:=hl _ (fI cj)
  rw[aB cj,Oj,S6,<-ed]at a3
  rw[<-ed]at hm
  have len:=congrArg dK a3
  rw[lA,lA,lA,lU,lU,lU]at len
  have ul:=GA λy hy=>(hl y hy).2
  refine ax (by simp[bJ];omega) (bm (xaE hm.1 hm.2) λx0 e0=>?_)
  rw[e0]
  refine bm (Zjf (b:=o) (s:=wo (l.getD i.toNat 0)) (by omega)) λx1 e1=>ek ?_
  show(0<=i64.wrap (i+1)/\i64.wrap (i+1)<=l.length/\x1.2.2++jq (lT (l.drop (i64.wrap (i+1)).toNat))=c++jq (lT l))/\(l.length-i64.wrap (i+1)).toNat<(l.length-i).toNat
  rw[ew,e1,show(i+1).toNat=i.toNat+1 by omega,dD]
  exact⟨⟨by omega,by omega,a3⟩,by omega⟩
 ·have hb:¬i<l.length:=oN hb
  rw[aA (by omega)]at a3
  show o=_
  rw[<-a3];exact(cJ o).symm
theorem GB{x:Int}(h:U x):wrap .u64 x=x:=by have:=h.1;have:=h.2;rw[wrap_u64];omega
theorem Cb{c l:List Int}(hl:∀x∈l,U x)(hc:c.length+10*l.length<=900000):(Om c l).w (λx=>x=c++jq (lT l)):=by
 unfold Om
 refine fg (inv:=λv:Int×List Int=>0<=v.1/\v.1<=l.length/\v.2++jq (lT (l.drop v.1.toNat))=c++jq (lT l)) (μ:=Qa4 c l) ⟨fH 0,by show(0:Int)<=_;omega,rfl⟩ (cO _) λv ⟨a1,a2,a3⟩=>?_
 obtain⟨i,o⟩:=v
 have a1:0<=i:=a1
 have a2:i<=l.length:=a2
 have a3:o++jq (lT (l.drop i.toNat))=c++jq (lT l):=a3
 refine aa (λhb=>?_) (λhb=>?_)
 ·have hb:i<l.length:=oY hb
  have cj:i.toNat<l.length:=by omega
  have ew:i64.wrap (i+1)=i+1:=by rw[wrap_i64];omega
  have ed:=S7 cj
  have hm:=hl _ (fI cj)
  rw[aB cj,Oj,S6,<-ed]at a3
  rw[<-ed]at hm
  have len:=congrArg dK a3
  rw[lA,lA,lA,lU,lU,lU]at len
  have ul:=GA (l:=l) λy hy=>by have:=(hl y hy).2;omega
  have h2:=hm.2
  refine ax (by simp[bJ];omega) (bm (IJ (c:=o) (λx hx=>by rw[List.mem_singleton.1 hx,GB hm];exact⟨hm.1,by omega⟩) (by show o.length+10*1<=_;omega)) λx0 e0=>ek ?_)
  have e0:x0=o++jq (wo (l.getD i.toNat 0)):=by
   rw[e0,GB hm,Oj]
   show o++jq (wo _++[])=_
   rw[cJ]
  show(0<=i64.wrap (i+1)/\i64.wrap (i+1)<=l.length/\x0++jq (lT (l.drop (i64.wrap (i+1)).toNat))=c++jq (lT l))/\(l.length-i64.wrap (i+1)).toNat<(l.length-i).toNat
  rw[ew,e0,show(i+1).toNat=i.toNat+1 by omega,dD]
  exact⟨⟨by omega,by omega,a3⟩,by omega⟩
 ·have hb:¬i<l.length:=oN hb
  rw[aA (by omega)]at a3
  show o=_
  rw[<-a3];exact(cJ o).symm
def EJ(b:Bool):Int:=bif b then 1 else 0
theorem Lt{c:List Int}(b:Bool)(hc:c.length<=999000):(On c b).w (λx=>x=c++jq (lT [EJ b])):=by
 unfold On
 cases b
 ·exact aa (λh=>by cases h) λ_=>bm (IJ (c:=c) (l:=[0]) (λx hx=>by rw[List.mem_singleton.1 hx];decide) (by show c.length+10*1<=_;omega)) λx e=>e
 ·exact aa (λ_=>bm (IJ (c:=c) (l:=[1]) (λx hx=>by rw[List.mem_singleton.1 hx];decide) (by show c.length+10*1<=_;omega)) λx e=>e) λh=>by cases h
def Lu(s:List UInt8):List UInt8:=wo s.length++s
theorem Zld{c:List Int}{s:List UInt8}(hc:c.length+s.length<=900000):(Oo c s).w (λx=>x=c++jq (Lu s)):=by
 have ew:wrap .u64 ((s.length:Nat):Int)=s.length:=by rw[wrap_u64];omega
 have hu:=Xs (x:=(s.length:Int)) (by omega)
 unfold Oo
 refine bm (IJ (c:=c) (λx hx=>by rw[List.mem_singleton.1 hx,ew];omega) (by show c.length+10*1<=_;omega)) λx0 e0=>?_
 rw[ew]at e0
 have e0:x0=c++jq (wo s.length):=by
  rw[e0,Oj]
  show c++jq (wo _++[])=_
  rw[cJ]
 refine bm (Zjf (by rw[e0,lA,lU];omega)) λx1 e1=>?_
 show x1.2.2=_
 rw[e1,e0]
 unfold Lu
 rw[S6,dD]
def Oq(m:au):List Int:=fv.l m.A9.X++(m.A9.Pc::A8.l m.A9.B2)++[(m.Mem.length:Int)]
def Ot(m:au):List Int:=[EJ m.A7.C9,m.A7.B8,EJ m.A7.C8,m.A6.ab,m.A6.B9,m.A6.Frame,wrap .u64 m.A6.B5,wrap .u64 m.A6.D1,m.A6.B4,m.A6.B0]
def Ou(m:au):List Int:=[m.C1.Frame,m.C1.D6,EJ m.C1.C2,m.C1.B7,EJ m.C1.B3,m.C1.D8,m.A1.C3,m.A1.C0,m.A0,EJ m.A3,EJ m.A4]
def ss(m:au):List UInt8:=lT (Oq m)++(lT m.Mem++(Lu m.A2.C5++(lT (Ot m)++(Lu m.A6.B6++lT (Ou m)))))
theorem Zlf{m:au}(hv:sq m)(hr:Og m)(hm:m.Mem.length<=1100)(hk:m.A2.C5.length<=100000)(ho:m.A6.B6.length<=100000):(Ov m).w (λs=>s=ss m/\s.length<=400000):=by
 obtain⟨c1,c2,c3⟩:=hv.lS
 obtain⟨d1,d2,d3,d4⟩:=hv.kJ
 obtain⟨n1,n2,n3,n4⟩:=hv.si
 obtain⟨b1,b2⟩:=hv.ub
 obtain⟨r1,r2,r3,r4,r5⟩:=hr
 have one:∀{x:Int},U x->∀y∈[x],U y:=λh y hy=>by rw[List.mem_singleton.1 hy];exact h
 have kl:∀{s:List UInt8},s.length<=100000->(Lu s).length<=10+s.length:=fun{s} h=>by
  have:=Xs (x:=(s.length:Int)) (by omega)
  unfold Lu;rw[lA];omega
 have k1:=kl hk
 have k2:=kl ho
 have ws:∀{l:List Int},(∀x∈l,U x)->(lT l).length<=10*l.length:=λh=>GA λy hy=>by have:=(h y hy).2;omega
 have W:∀{x:Int},0<=wrap .u64 x/\wrap .u64 x<18446744073709551616:=fun{x}=>by rw[wrap_u64];omega
 have fl:∀b:Bool,(lT [EJ b]).length<=10:=λb=>GA (l:=[EJ b]) λy hy=>by rw[List.mem_singleton.1 hy];cases b<;>decide
 have ml:=ws hv.mem
 have eL:wrap .u64 ((m.Mem.length:Nat):Int)=m.Mem.length:=by rw[wrap_u64];omega
 have U3:∀x∈[m.A6.ab,m.A6.B9,m.A6.Frame],U x:=λx hx=>by
  simp only[cR,cS,or_false]at hx
  rcases hx with rfl|rfl|rfl<;>assumption
 have U2:∀{a b:Int},U a->U b->∀x∈[a,b],U x:=λha hb x hx=>by
  simp only[cR,cS,or_false]at hx
  rcases hx with rfl|rfl<;>assumption
 have S2:∀x∈[wrap .u64 m.A6.B5,wrap .u64 m.A6.D1],0<=x/\x<18446744073709551616:=λx hx=>by
  simp only[cR,cS,or_false]at hx
  rcases hx with rfl|rfl<;>exact W
 have sl:=GA (l:=[wrap .u64 m.A6.B5,wrap .u64 m.A6.D1]) λx hx=>(S2 x hx).2
 have L16:=ws (l:=fv.l m.A9.X) c1
 have L8:=ws (l:=A8.l m.A9.B2) c3
 have l16:(fv.l m.A9.X).length=16:=rfl
 have l8:(A8.l m.A9.B2).length=8:=rfl
 have p1:=ws (one c2)
 have e1:=GA (l:=[(m.Mem.length:Int)]) λx hx=>by rw[List.mem_singleton.1 hx];omega
 have q1:=ws (one r1)
 have q2:=ws U3
 have q3:=ws (U2 d3 d4)
 have q4:=ws (U2 n1 n2)
 have q5:=ws (one n3)
 have q6:=ws (one n4)
 have q7:=ws (U2 b1 b2)
 have q8:=GA (l:=[m.A0]) λx hx=>by rw[List.mem_singleton.1 hx];exact r5.2
 have f1:=fl m.A7.C9
 have f2:=fl m.A7.C8
 have f3:=fl m.C1.C2
 have f4:=fl m.C1.B3
 have f5:=fl m.A3
 have f6:=fl m.A4
 simp only[dI,List.length_nil]at sl p1 e1 q1 q2 q3 q4 q5 q6 q7 q8
 unfold Ov
 refine bm (Cb (c:=[]) (l:=fv.l m.A9.X) c1 (by rw[l16];decide)) λx0 g0=>?_
 have z0:x0.length<=160:=by rw[g0,lA,lU];show 0+_<=_;omega
 refine bm (Cb (one c2) (by show x0.length+10*1<=_;omega)) λx1 g1=>?_
 have z1:x1.length<=170:=by rw[g1,lA,lU];omega
 refine bm (Cb (l:=A8.l m.A9.B2) c3 (by rw[l8];omega)) λx2 g2=>?_
 have z2:x2.length<=250:=by rw[g2,lA,lU];omega
 rw[eL]
 refine bm (IJ (l:=[(m.Mem.length:Int)]) (λx hx=>by rw[List.mem_singleton.1 hx];omega) (by show x2.length+10*1<=_;omega)) λx3 g3=>?_
 have z3:x3.length<=260:=by rw[g3,lA,lU];omega
 refine bm (Cb hv.mem (by omega)) λx4 g4=>?_
 have z4:x4.length<=11500:=by rw[g4,lA,lU];omega
 refine bm (Zld (s:=m.A2.C5) (by omega)) λx5 g5=>?_
 have z5:x5.length<=111510:=by rw[g5,lA,lU];omega
 refine bm (Lt m.A7.C9 (by omega)) λx6 g6=>?_
 have z6:x6.length<=111520:=by rw[g6,lA,lU];omega
 refine bm (Cb (one r1) (by show x6.length+10*1<=_;omega)) λx7 g7=>?_
 have z7:x7.length<=111530:=by rw[g7,lA,lU];omega
 refine bm (Lt m.A7.C8 (by omega)) λx8 g8=>?_
 have z8:x8.length<=111540:=by rw[g8,lA,lU];omega
 refine bm (Cb U3 (by show x8.length+10*3<=_;omega)) λx9 g9=>?_
 have z9:x9.length<=111570:=by rw[g9,lA,lU];omega
 refine bm (IJ S2 (by show x9.length+10*2<=_;omega)) λkZ g10=>?_
 have z10:kZ.length<=111590:=by rw[g10,lA,lU];omega
 refine bm (Cb (U2 d3 d4) (by show kZ.length+10*2<=_;omega)) λnq g11=>?_
 have z11:nq.length<=111610:=by rw[g11,lA,lU];omega
 refine bm (Zld (s:=m.A6.B6) (by omega)) λpz g12=>?_
 have z12:pz.length<=211620:=by rw[g12,lA,lU];omega
 refine bm (Cb (U2 n1 n2) (by show pz.length+10*2<=_;omega)) λry g13=>?_
 have z13:ry.length<=211640:=by rw[g13,lA,lU];omega
 refine bm (Lt m.C1.C2 (by omega)) λuf g14=>?_
 have z14:uf.length<=211650:=by rw[g14,lA,lU];omega
 refine bm (Cb (one n3) (by show uf.length+10*1<=_;omega)) λIK g15=>?_
 have z15:IK.length<=211660:=by rw[g15,lA,lU];omega
 refine bm (Lt m.C1.B3 (by omega)) λug g16=>?_
 have z16:ug.length<=211670:=by rw[g16,lA,lU];omega
 refine bm (Cb (one n4) (by show ug.length+10*1<=_;omega)) λGC g17=>?_
 have z17:GC.length<=211680:=by rw[g17,lA,lU];omega
 refine bm (Cb (U2 b1 b2) (by show GC.length+10*2<=_;omega)) λGF g18=>?_
 have z18:GF.length<=211700:=by rw[g18,lA,lU];omega
 refine bm (IJ (l:=[m.A0]) (λx hx=>by rw[List.mem_singleton.1 hx];exact r5) (by show GF.length+10*1<=_;omega)) λS8 g19=>?_
 have z19:S8.length<=211710:=by rw[g19,lA,lU];omega
 refine bm (Lt m.A3 (by omega)) λS9 g20=>?_
 have z20:S9.length<=211720:=by rw[g20,lA,lU];omega
 refine bm (Lt m.A4 (by omega)) λEK g21=>?_
 have z21:EK.length<=211730:=by rw[g21,lA,lU];omega
 refine aq λEL e=>?_
 have e:EL.1=bytesOf EK:=congrArg Prod.fst e
 show EL.1=ss m/\EL.1.length<=400000
 rw[e]
 refine⟨?_,by show(EK.map _).length<=_;rw[fG];omega⟩
 rw[g21,g20,g19,g18,g17,g16,g15,g14,g13,g12,g11,g10,g9,g8,g7,g6,g5,g4,g3,g2,g1,g0]
 simp only[fJ,<-S6,Z6l]
 unfold ss Oq Ot Ou
 simp only[zan,Oj,dD,fJ,show lT []=[] from rfl,cJ]
structure kd(m:au):Prop where
 dl:U m.A7.B8
 bl:U m.A6.ab
theorem Zna(d:fe)(m:List Int)(port v dk:Int):(SV d m port v dk).1.ab=d.ab:=by
 show Tree.V (Gt d m port v dk) (λr=>r.1.ab=d.ab)
 unfold Gt
 repeat'(first
  |exact da rfl
  |exact fi λ_ _=>da rfl
  |refine dh (λ_=>?_) (λ_=>?_)
  |refine gv ?_
  |refine fi λ_ _=>?_)
theorem zm(d:fe)(m:List Int)(e:jX):(La d m e).1.ab=d.ab:=by
 show Tree.V (Gu d m e) (λr=>r.1.ab=d.ab)
 unfold Gu
 repeat'(first
  |exact da rfl
  |refine dh (λ_=>?_) (λ_=>?_)
  |refine gv ?_
  |refine fi λ_ _=>?_)
theorem xan(t:iS):(Xm t).1.B8=t.B8:=by
 show Tree.V (Ta t) (λr=>r.1.B8=t.B8)
 unfold Ta
 exact dh (λ_=>da rfl) λ_=>da rfl
theorem qaF{v:Int}(hv:U v):U (SU v).B8:=by
 show Tree.V (NZ v) (λr=>U r.B8)
 unfold NZ
 exact dh (λ_=>da eh) λ_=>da hv
theorem Ow{m:au}(h:kd m)(port clock:Int):kd (BX m port clock).2:=by
 show Tree.V (H8 m port clock) (λr=>kd r.2)
 unfold H8
 repeat'(first
  |exact da h
  |exact da ⟨h.dl,h.bl⟩
  |refine dh (λ_=>?_) (λ_=>?_)
  |refine fi λ_ _=>?_)
theorem zaF{m:au}(h:kd m)(port:Int){v:Int}(hv:U v):kd (DE m port v).2:=by
 show Tree.V (FW m port v) (λr=>kd r.2)
 unfold FW
 refine dh (λ_=>da h) λ_=>dh (λ_=>da h) λ_=>dh (λ_=>fi λx ex=>da ⟨by rw[ex];exact qaF hv,h.bl⟩) λ_=>dh (λ_=>gv (fi λx ex=>da ⟨h.dl,by show U x.1.ab;rw[ex,Zna];exact h.bl⟩)) λ_=>dh (λ_=>gv (fi λx ex=>da ⟨h.dl,h.bl⟩)) λ_=>gv (fi λx ex=>da ⟨h.dl,h.bl⟩)
theorem qZ{P:Nat}{m:au}(g:e9 P m)(h:kd m)(clock:Int):kd (ga m clock).2:=by
 have ic:ir (mV m):=(Tree.pp (VZ g.ok.lS)).2
 have dv:U (ua (mV m) m.Mem).2.1.Value:=(Tree.pp (H9 ic g.ok.mem)).2.2.1
 rw[yY]
 generalize ua (mV m) m.Mem=D at*
 have w:kd (BY m D.1 D.2.2):=⟨h.dl,h.bl⟩
 have i:=Ow w D.2.1.C6 clock
 have o:=zaF w D.2.1.C6 dv
 unfold BZ
 cases D.2.1.C4==1
 ·cases D.2.1.C4==2
  ·cases D.2.1.C4==3
   ·cases D.2.1.C4==4
    ·exact⟨h.dl,h.bl⟩
    ·exact⟨h.dl,h.bl⟩
   ·exact⟨h.dl,h.bl⟩
  ·exact⟨o.dl,o.bl⟩
 ·exact⟨i.dl,i.bl⟩
theorem xaF{m:au}(h:kd m)(e:jX):kd (tn m e).2:=by
 show Tree.V (Gz m e) (λr=>kd r.2)
 unfold Gz
 repeat'(first
  |exact da h
  |exact da ⟨h.dl,h.bl⟩
  |exact fi λx ex=>da ⟨by rw[ex,xan];exact h.dl,h.bl⟩
  |exact gv (fi λx ex=>da ⟨h.dl,by show U x.1.ab;rw[ex,zm];exact h.bl⟩)
  |exact gv (fi λx ex=>da ⟨h.dl,h.bl⟩)
  |refine dh (λ_=>?_) (λ_=>?_))
theorem qaG(i:List Int):kd (kI 8 4 i).1:=by
 show Tree.V (Dl 8 4 i) (λx=>kd x.1)
 unfold Dl
 repeat'(first
  |exact da ⟨eh,eh⟩
  |exact da ⟨eh,fj _⟩
  |refine dh (λ_=>?_) (λ_=>?_)
  |refine gv ?_
  |refine fi λ_ _=>?_)
theorem qao{m:au}(h:e9 8 m)(d:kd m):Tree.V (Q4 m [] 87) (λx=>kd x.1):=by
 have z:∀{x:au},x.A7.B8=0->x.A6.ab=0->kd x:=λa b=>⟨a▸eh,b▸eh⟩
 unfold Q4
 refine fi λx0 _=>dh (λ_=>da (z rfl rfl)) λ_=>dh (λ_=>da (z rfl rfl)) λ_=>dh (λ_=>da (z rfl rfl)) λ_=>gv (fi λx1 _=>dh (λ_=>da (z rfl rfl)) λ_=>gv (fi λx2 hx=>?_))
 rw[Ln]at hx
 refine An (inv:=λv:au×List fm=>e9 8 v.1/\kd v.1) (μ:=MY m [] 87) ⟨by rw[hx];exact h,by rw[hx];exact d⟩ (cO _) λv0 ⟨a1,a3⟩=>?_
 have a2:=a1.ok.pM
 refine dh (λhb=>dh (λhm=>?_) (λ_=>da a3)) (λ_=>da a3)
 have hb:=oY hb
 have hm:=oY hm
 refine An (inv:=λ_=>True) (μ:=MZ m [] 87 v0) trivial (cO _) λv1 _=>?_
 refine dh (λ_=>da a3) λhh=>gv (fi λx3 h3=>dh (λ_=>da a3) λhi=>gv (fi λx4 _=>dh (λ_=>da (z rfl rfl)) λ_=>gv (fi λx5 h5=>od (EH ?_))))
 obtain⟨b1,b2,_⟩:=Oc a1 ((Lr a1).2 ⟨hh,h3.symm.trans hi,hm⟩) (clock:=0) eh
 have b3:=qZ a1 a3 0
 rw[<-h5]at b1 b2 b3
 show(e9 8 x5.2/\kd x5.2)/\(87-x5.2.A0).toNat<(87-v0.1.A0).toNat
 exact⟨⟨b1,b3⟩,by omega⟩
theorem Zo0(kind:Int)(l:List Int)(hl:l.length*8<=reachBytes)(h40:l.length<=60):kd (IH kind l):=by
 show Tree.V (BI kind l) kd
 have code:=(Tree.pp (J8 l hl)).2
 change((Ls l).length:Int)=l.length/\∀w∈Ls l,U w at code
 obtain⟨b1,b2⟩:=code
 unfold BI
 have fin:∀{x3:au×Bool} {i:List Int},x3=kI 8 4 i->(∀w∈i,U w)->i.length<=256->kd x3.1/\kd (Ie x3.1 [] 87).1:=fun{x3 i} e hu hlen=>by
  obtain⟨c1,_⟩:=Xn hu hlen
  have d:=qaG i
  rw[<-e]at c1 d
  exact⟨d,qao c1 d⟩
 refine gv (fi λx0 mU=>dh (λ_=>gv (fi λx1 e1=>?_)) (λhk=>?_))
 ·have eb:x1.1=jm:=by rw[e1];rfl
  obtain⟨q1,q2⟩:jm.length<=160/\∀w∈jm,U w:=Nh
  refine An (inv:=λv:List Int=>v.length<=160/\∀w∈v,U w) (μ:=Ni kind l) ⟨by rw[eb];exact q1,by rw[eb];exact q2⟩ (cO _) λv0 ⟨a1,a2⟩=>?_
  refine dh (λhb=>?_) (λhb=>?_)
  ·have hb:=oY hb
   refine od (EH ?_)
   show(_/\_)/\(_:Nat)<_
   refine⟨⟨by rw[lA,cX];omega,λw hw=>?_⟩,by show 160-(v0++[0]).length<160-v0.length;rw[lA,cX];omega⟩
   rcases List.mem_append.1 hw with hw|hw
   ·exact a2 w hw
   ·rw[List.mem_singleton.1 hw];exact eh
  ·refine gv (fi λx2 e2=>od ?_)
   rw[<-e2]at b1 b2
   have hu:∀w∈v0++x2,U w:=λw hw=>(List.mem_append.1 hw).elim (a2 w) (b2 w)
   have hlen:(v0++x2).length<=256:=by rw[lA];omega
   refine dh (λhb=>?_) (λhb=>gv (fi λx3 h3=>dh (λ_=>gv (fi λx4 h4=>da (by rw[h4];exact(fin h3 hu hlen).2))) λ_=>da (fin h3 hu hlen).1))
   have hb:=oY hb;omega
 ·refine gv (fi λx2 e2=>od ?_)
  rw[<-e2]at b1 b2
  refine dh (λhb=>?_) (λhb=>gv (fi λx3 h3=>dh (λ_=>gv (fi λx4 h4=>da (by rw[h4];exact(fin h3 b2 (by omega)).2))) λ_=>da (fin h3 b2 (by omega)).1))
  have hb:=oY hb;omega
theorem Zll(d:fe)(cw:Int):j5 d cw=true->(0<=d.B5/\d.B5<=3)/\(0<=d.D1/\d.D1<=2)/\d.B6.length<=128:=by
 show Tree.V (u9 d cw) (λb=>b=true->(0<=d.B5/\d.B5<=3)/\(0<=d.D1/\d.D1<=2)/\d.B6.length<=128)
 have no:∀{p:Prop},(false=true->p):=λh=>by cases h
 have zero:∀{k:Int},(d.B5==k)=true->(0<=k/\k<=3)->(d.D1==0)=true->decide (d.B6=[])=true->(0<=d.B5/\d.B5<=3)/\(0<=d.D1/\d.D1<=2)/\d.B6.length<=128:=λa b c e=>by
  have a:=eq_of_beq a
  have c:=eq_of_beq c
  have e:=oY e
  exact⟨by omega,by omega,by rw[e];exact aT _⟩
 unfold u9
 refine dh (λ_=>da no) λ_=>dh (λs=>dh (λc=>dh (λ_=>dh (λ_=>da (zero s (by decide) c)) λ_=>da no) λ_=>da no) λ_=>da no) λ_=>dh (λs=>dh (λc=>dh (λ_=>dh (λ_=>da (zero s (by decide) c)) λ_=>da no) λ_=>da no) λ_=>da no) λ_=>dh (λs=>dh (λc=>dh (λ_=>dh (λ_=>da (zero s (by decide) c)) λ_=>da no) λ_=>da no) λ_=>da no) λ_=>dh (λs=>fi λx ex=>dh (λhx=>?_) λ_=>da no) λ_=>da no
 have s:=eq_of_beq s
 have cm:Nu d=true->(0<=d.D1/\d.D1<=2)/\d.B6.length<=128:=by
  show Tree.V (Il d) (λb=>b=true->(0<=d.D1/\d.D1<=2)/\d.B6.length<=128)
  unfold Il
  refine dh (λc=>da λe=>?_) λ_=>dh (λc=>da λe=>?_) λ_=>da no
  ·have c:=eq_of_beq c
   have e:=oY e
   exact⟨by omega,by rw[e];exact aT _⟩
  ·have c:=eq_of_beq c
   have e:=eq_of_beq e
   exact⟨by omega,by omega⟩
 obtain⟨c1,c2⟩:=cm (by rw[<-ex];exact hx)
 exact dh (λ_=>da λ_=>⟨by omega,c1,c2⟩) λ_=>da no
theorem ym{m:au}(h:se m=true):m.A2.C5.length<=16/\(0<=m.A6.B5/\m.A6.B5<=3)/\(0<=m.A6.D1/\m.A6.D1<=2)/\m.A6.B6.length<=128:=by
 have no:∀{p:Prop},(false=true->p):=λh=>by cases h
 refine(show Tree.V (Dn m) (λb=>b=true->m.A2.C5.length<=16/\(0<=m.A6.B5/\m.A6.B5<=3)/\(0<=m.A6.D1/\m.A6.D1<=2)/\m.A6.B6.length<=128) from ?_) h
 unfold Dn
 refine fi λx0 _=>fi λx1 e1=>dh (λh1=>fi λx2 _=>dh (λ_=>fi λx3 e3=>dh (λh3=>?_) λ_=>da no) λ_=>da no) λ_=>da no
 have k:m.A2.C5.length<=16:=by
  rw[e1]at h1
  have h1:decide ((m.A2.C5.length:Int)<=16)=true:=h1
  have:=oY h1;omega
 rw[e3]at h3
 have d:=Zll _ _ h3
 exact fi λx4 _=>dh (λ_=>gv (fi λx5 _=>da λ_=>⟨k,d⟩)) λ_=>da no
structure GG(m:au):Prop where
 r:Og m
 k:m.A2.C5.length<=100000
 o:m.A6.B6.length<=100000
theorem Zk5{P:Nat}{m:au}(g:e9 P m)(d:kd m):GG m:=by
 obtain⟨_,_,c,_,dv⟩:=(Ga m).1 g.may
 obtain⟨k,s,cm,o⟩:=ym dv
 have c0:=g.ok.pM
 exact⟨⟨d.dl,d.bl,by omega,by omega,by omega⟩,by omega,by omega⟩
theorem Xt(x:Int):0<=wrap .u64 x/\wrap .u64 x<18446744073709551616:=by rw[wrap_u64];omega
theorem qn(h0:Int)(s:List UInt8):Qo h0 s=Ox h0 s:=rfl
theorem zao{m:au}(hv:sq m)(e:GG m)(hm:m.Mem.length<=1100):Tb m/\Tc m=Qo 14695981039346656037 (ss m):=by
 refine Tree.pp (t:=Oy m) (W:=λr=>r=Qo 14695981039346656037 (ss m)) ?_
 unfold Oy
 exact bm (Zlf hv e.r hm e.k e.o) λx hx=>cr (show x.length<=1000000000000 by have:=hx.2;omega) (aq λy hy=>bu (by rw[hy,hx.1]))
theorem Zlb{l:List ep}{i:Nat}(h:i<l.length):l.getD i (RK.cz RK.aj)=l[i]:=by
 rw[dC,cG h];rfl
abbrev jH:=au×List fm×Int×Int
def lV:au:={A9:={X:={a0:=0,a1:=0,a2:=0,a3:=0,a4:=0,a5:=0,a6:=0,a7:=0,a8:=0,a9:=0,kj:=0,ko:=0,a12:=0,kp:=0,kq:=0,kr:=0},Pc:=0,B2:={a0:=0,a1:=0,a2:=0,a3:=0,a4:=0,a5:=0,a6:=0,a7:=0}},Mem:=[],A2:={C5:=[]},A7:={C9:=false,B8:=0,C8:=false},A6:={ab:=0,B9:=0,Frame:=0,B5:=0,D1:=0,B4:=0,B0:=0,B6:=[]},C1:={Frame:=0,D6:=0,C2:=false,B7:=0,B3:=false,D8:=0},A1:={C3:=0,C0:=0},A0:=0,A3:=false,A4:=false}
def iR(s:List ep)(i:Int):ep:=s.getD i.toNat (RK.cz RK.aj)
def mX(s:List ep):Nat->Int->au->Int×au
 |0,i,y=>(i,y)
 |n+1,i,y=>bif(decide (i<(s.length:Int))&&(((iR s i).At==y.A0)&&((iR s i).C7.C4 !=1)))then mX s n (i+1) (tn y (iR s i).C7).2 else(i,y)
def DF(go:Int->au->List fm->jH)(s:List ep)(i:Int)(y:au)(out:List fm):jH:=
 bif y.A4 then(y,out,i,0)else
 bif tl y then(bif decide (i<(s.length:Int))then(lV,[],0,1303)else(y,out,i,0))else
 bif decide (i<(s.length:Int))then
  (bif((iR s i).At==y.A0)==py y then
   (bif((iR s i).At==y.A0)then go (i+1) (ga y (iR s i).C7.N).2 (out++(ga y (iR s i).C7.N).1)else go i (ga y 0).2 (out++(ga y 0).1))
  else(lV,[],0,1302))
 else(bif false==py y then go i (ga y 0).2 (out++(ga y 0).1)else(lV,[],0,1302))
def iX(s:List ep)(u:Int):Nat->Int->au->List fm->jH
 |0,i,x,out=>(x,out,i,0)
 |k+1,i,x,out=>bif decide (x.A0<1152921504606846976)then DF (iX s u k) s (mX s (s.length-i).toNat i x).1 (mX s (s.length-i).toNat i x).2 out else(x,out,i,0)
def DG(s:List ep)(i:Nat):Bool:=!decide ((s.getD i (RK.cz RK.aj)).At<(s.getD (i-1) (RK.cz RK.aj)).At)&&!(((s.getD i (RK.cz RK.aj)).At==(s.getD (i-1) (RK.cz RK.aj)).At)&&((s.getD (i-1) (RK.cz RK.aj)).C7.C4==1))
def k9(s:List ep):Bool:=decide (∀i,i<s.length->1<=i->DG s i=true)
def mH(m:au)(s:List ep)(u:Int):Int:=
 if tj m=false then 1300 else if u<m.A0 then 1300 else if 4000<wrap .u64 (u-m.A0)then 1300 else if 400<s.length then 1300 else if k9 s=false then 1301 else if 0<s.length/\(iR s 0).At<m.A0 then 1301 else 0
def c6(m:au)(s:List ep)(u:Int):jH:=if mH m s u=0 then iX s u (u-m.A0).toNat 0 m []else(lV,[],0,mH m s u)
theorem Oz{β:Type}{c1 c2 c3 cc:Bool}{N T:Tree β}{W:β->Prop}(Xu:c1=true->cc=true)(hN:c1=true->c2=true->c3=true->N.w W)(hT:(c1&&(c2&&c3))=false->T.w W):(Tree.br c1 (.cn cc (.br c2 (.cn cc (.br c3 (.cn cc N) T)) T)) T).w W:=by
 refine aa (λh1=>ax (Xu h1) (aa (λh2=>ax (Xu h1) (aa (λh3=>ax (Xu h1) (hN h1 h2 h3)) λh3=>hT (by rw[h1,h2,h3];rfl))) λh2=>hT (by rw[h1,h2];rfl))) λh1=>hT (by rw[h1];rfl)
theorem bn3:∀a b:Bool,(!b==a)=true->(a==b)=false:=by decide
theorem bn4:∀a b:Bool,(!b==a)=false->(a==b)=true:=by decide
theorem Xv{s:List ep}(h:k9 s=true):∀i:Nat,i<s.length->1<=i->DG s i=true:=oY h
theorem xn{s:List ep}(h:k9 s=true):∀i:Nat,i<s.length->(iR s 0).At<=(s.getD i (RK.cz RK.aj)).At:=by
 intro i
 induction i with
 |zero=>intro _;exact fH _
 |succ i ih=>
  intro hi
  have h1:=Xv h (i+1) hi (by omega)
  have h2:=ih (by omega)
  unfold DG at h1
  rw[aE]at h1
  have h3:decide ((s.getD (i+1) (RK.cz RK.aj)).At<(s.getD i (RK.cz RK.aj)).At)=false:=by simpa using h1.1
  have h3:=oN h3
  omega
theorem Z5w{s:List ep}(hl:s.length<=1000000):(Lv s).w (λb=>b=k9 s):=by
 unfold Lv
 refine fg (inv:=λz:Int=>1<=z/\(z<=s.length\/z=1)/\∀j:Nat,(j:Int)<z->1<=j->DG s j=true) (μ:=Lw s) ⟨fH 1,.inr rfl,λj h1 h2=>by omega⟩ (cO _) λi ⟨a,b,c⟩=>?_
 have ew:i64.wrap (i+1)=i+1:=by rw[wrap_i64];omega
 have em:i64.wrap (i-1)=i-1:=by rw[wrap_i64];omega
 refine aa (λhb=>?_) (λhb=>bu ?_)
 rotate_left
 ·have hb:=oN hb
  exact(dY λj h1 h2=>c j (by omega) h2).symm
 have hb:i<s.length:=oY hb
 have e1:(i-1).toNat=i.toNat-1:=by omega
 have no:DG s i.toNat=false->false=k9 s:=λh=>(dN λk=>by rw[k i.toNat (by omega) (by omega)]at h;cases h).symm
 have nx:DG s i.toNat=true->(1<=i64.wrap (i+1)/\(i64.wrap (i+1)<=s.length\/i64.wrap (i+1)=1)/\∀j:Nat,(j:Int)<i64.wrap (i+1)->1<=j->DG s j=true)/\Lw s (i64.wrap (i+1))<Lw s i:=λh=>by
  show _/\(s.length-i64.wrap (i+1)).toNat<(s.length-i).toNat
  rw[ew]
  refine⟨⟨by omega,by omega,λj h1 h2=>?_⟩,by omega⟩
  by_cases e:(j:Int)<i
  ·exact c j e h2
  ·rw[show j=i.toNat by omega];exact h
 have c1:(bT 4 4&&bJ 0 4&&decide (0<=i64.wrap (i-1)/\i64.wrap (i-1)<(s.length:Int)))=true:=by rw[em];simp[bJ];omega
 have c2:(bT 4 4&&bJ 0 4&&decide (0<=i/\i<(s.length:Int)))=true:=by simp[bJ];omega
 have eP:DG s i.toNat=(!decide ((s.getD i.toNat (RK.cz RK.aj)).At<(s.getD (i64.wrap (i-1)).toNat (RK.cz RK.aj)).At)&&!(((s.getD i.toNat (RK.cz RK.aj)).At==(s.getD (i64.wrap (i-1)).toNat (RK.cz RK.aj)).At)&&((s.getD (i64.wrap (i-1)).toNat (RK.cz RK.aj)).C7.C4==1))):=by rw[em,e1];rfl
 refine ax c1 (ax c2 (aa (λh=>bu (no (by rw[eP,h];rfl))) λh=>aa (λh1=>aa (λh2=>bu (no (by rw[eP,h,h1,h2];rfl))) λh2=>ek (nx (by rw[eP,h,h1,h2];rfl))) λh1=>ek (nx (by rw[eP,h,h1];rfl))))
theorem OA{m:au}(hv:sq m){s:List ep}(hs:s.length<=1000000){u:Int}:(OB m s u).w (λx=>x=mH m s u):=by
 unfold OB
 refine cr (Tree.pp (Zl hv.ub.2)).1 (aq λx0 e0=>?_)
 have e0:x0=tj m:=e0.trans (Lg hv)
 refine aa (λh=>bu ?_) λhm=>aa (λh=>bu ?_) λh1=>aa (λh=>bu ?_) λh2=>aa (λh=>bu ?_) λh3=>cr (show s.length<=1000000000000 by omega) (aq λx1 e1=>?_)
 ·unfold mH;rw[if_pos (by rw[<-e0];simpa using h)]
 all_goals have kb:¬tj m=false:=by rw[<-e0];simpa using hm
 ·unfold mH;rw[if_neg kb,if_pos (oY h)]
 all_goals have oK:¬u<m.A0:=oN h1
 ·unfold mH;rw[if_neg kb,if_neg oK,if_pos (oY h)]
 all_goals have Lx:¬4000<wrap .u64 (u-m.A0):=oN h2
 ·unfold mH;rw[if_neg kb,if_neg oK,if_neg Lx,if_pos (by have:=oY h;omega)]
 have IL:¬400<s.length:=by have:=oN h3;omega
 have e1:x1=k9 s:=by rw[e1];exact Tree.post _ (Z5w (by omega))
 rw[e1]
 refine aa (λh=>bu ?_) λho=>?_
 ·unfold mH;rw[if_neg kb,if_neg oK,if_neg Lx,if_neg IL,if_pos (by simpa using h)]
 have iZ:k9 s=true:=by simpa using ho
 have ho2:¬k9 s=false:=by rw[iZ];simp
 refine fg (inv:=λi:Int=>0<=i/\i<=s.length/\(0<i->¬(iR s 0).At<m.A0)) (μ:=Qm m s u) ⟨fH 0,by omega,λh=>absurd h (Int.lt_irrefl 0)⟩ (cO _) λi ⟨v1,v2,v3⟩=>?_
 refine aa (λhb=>?_) (λhb=>bu ?_)
 ·have hb:=oY hb
  have cj:i.toNat<s.length:=by omega
  have of:=xn iZ i.toNat cj
  have ew:i64.wrap (i+1)=i+1:=by rw[wrap_i64];omega
  refine ax (by simp[bJ];omega) (aa (λh=>bu ?_) λh=>ek ?_)
  ·have h:=oY h
   show(1301:Int)=_
   unfold mH;rw[if_neg kb,if_neg oK,if_neg Lx,if_neg IL,if_neg ho2,if_pos ⟨by omega,by omega⟩]
  ·have h:=oN h
   show(0<=i64.wrap (i+1)/\i64.wrap (i+1)<=s.length/\(0<i64.wrap (i+1)->¬(iR s 0).At<m.A0))/\(s.length-i64.wrap (i+1)).toNat<(s.length-i).toNat
   rw[ew]
   refine⟨⟨by omega,by omega,λ_=>?_⟩,by omega⟩
   by_cases e:0<i
   ·exact v3 e
   ·have:i=0:=by omega
    subst this;exact h
 ·have hb:=oN hb
  show(0:Int)=_
  unfold mH;rw[if_neg kb,if_neg oK,if_neg Lx,if_neg IL,if_neg ho2,if_neg fun⟨q1,q2⟩=>v3 (by omega) q2]
theorem zn{m:au}(hv:sq m){s:List ep}(hs:s.length<=1000000)(hu:∀e∈s,U e.C7.N){u:Int}(u0:0<=u)(u1:u<18446744073709551616):(OC m s u).w (λr=>r=c6 m s u/\r.2.1.length<=4000/\r.1.Mem.length<=1024):=by
 unfold OC
 have m0:=hv.pM
 refine bm (OA hv hs) λx0 e0=>?_
 rw[e0]
 refine aa (λh=>bu ⟨?_,aT _,aT _⟩) λh=>?_
 ·have h:¬mH m s u=0:=by simpa using h
  unfold c6;rw[if_neg h];rfl
 have h0:mH m s u=0:=by simpa using h
 have hm:¬tj m=false:=λq=>by unfold mH at h0;rw[if_pos q]at h0;cases h0
 have h1:¬u<m.A0:=λq=>by unfold mH at h0;rw[if_neg hm,if_pos q]at h0;cases h0
 have h2:¬4000<wrap .u64 (u-m.A0):=λq=>by unfold mH at h0;rw[if_neg hm,if_neg h1,if_pos q]at h0;cases h0
 have mm:mF m=true:=by rw[Lg hv];simpa using hm
 obtain⟨P,gS,gM⟩:=wj hv mm
 have g:e9 P m:=⟨gM,mm⟩
 have hle:m.A0<=u:=by omega
 have h4:u-m.A0<=4000:=by rw[wrap_u64]at h2;omega
 have OD:iX s u (u-m.A0).toNat 0 m []=c6 m s u:=by unfold c6;rw[h0,if_pos rfl]
 generalize c6 m s u=rz at OD⊢
 refine cr (rm gM.mem) (aq λx1 e1=>?_)
 have gp:jy m.Mem=m.Mem:=rfl
 rw[gp]at e1
 subst e1
 refine fg (inv:=λv:Int×au×List fm=>0<=v.1/\v.1<=s.length/\e9 P v.2.1/\v.2.1.A0<=u/\(v.2.2.length:Int)<=v.2.1.A0-m.A0/\iX s u (u-v.2.1.A0).toNat v.1 v.2.1 v.2.2=rz) (μ:=Qqc m s u) ⟨fH 0,by show(0:Int)<=_;omega,g,hle,by show((0:Nat):Int)<=m.A0-m.A0;omega,OD⟩ (cO _) λv ⟨a1,a2,a3,a4,a5,a6⟩=>?_
 obtain⟨i0,x,out⟩:=v
 have a1:0<=i0:=a1
 have a2:i0<=s.length:=a2
 have a3:e9 P x:=a3
 have a4:x.A0<=u:=a4
 have a5:(out.length:Int)<=x.A0-m.A0:=a5
 have a6:iX s u (u-x.A0).toNat i0 x out=rz:=a6
 refine aa (λhb=>?_) (λhb=>bu ?_)
 rotate_left
 ·have hb:¬x.A0<u:=oN hb
  rw[show(u-x.A0).toNat=0 by omega]at a6
  exact⟨a6,by show out.length<=4000;omega,a3.len⟩
 have hb:x.A0<u:=oY hb
 obtain⟨k,hk⟩:∃k:Nat,(u-x.A0).toNat=k+1:=⟨(u-x.A0).toNat-1,by omega⟩
 rw[hk]at a6
 refine aa (λEI=>?_) (λEI=>bu ?_)
 rotate_left
 ·have GH:(bif decide (x.A0<1152921504606846976)then DF (iX s u k) s (mX s (s.length-i0).toNat i0 x).1 (mX s (s.length-i0).toNat i0 x).2 out else(x,out,i0,0))=rz:=a6
  have EI:decide (x.A0<1152921504606846976)=false:=EI
  rw[EI]at GH
  exact⟨GH,by show out.length<=4000;omega,a3.len⟩
 have GH:(bif decide (x.A0<1152921504606846976)then DF (iX s u k) s (mX s (s.length-i0).toNat i0 x).1 (mX s (s.length-i0).toNat i0 x).2 out else(x,out,i0,0))=rz:=a6
 have OE:decide (x.A0<1152921504606846976)=true:=EI
 rw[OE]at GH
 have GH:DF (iX s u k) s (mX s (s.length-i0).toNat i0 x).1 (mX s (s.length-i0).toNat i0 x).2 out=rz:=GH
 have EI:x.A0<1152921504606846976:=oY OE
 clear a6
 generalize hE:mX s (s.length-i0).toNat i0 x=E at GH
 refine fg (inv:=λw:Int×au=>0<=w.1/\w.1<=s.length/\e9 P w.2/\w.2.A0=x.A0/\mX s (s.length-w.1).toNat w.1 w.2=E) (μ:=Qqo m s u (i0,x,out)) ⟨a1,a2,a3,rfl,hE⟩ (cO _) λw ⟨b1,b2,b3,b4,b5⟩=>?_
 obtain⟨i,y⟩:=w
 have b1:0<=i:=b1
 have b2:i<=s.length:=b2
 have b3:e9 P y:=b3
 have b4:y.A0=x.A0:=b4
 have b5:mX s (s.length-i).toNat i y=E:=b5
 have ew:i64.wrap (i+1)=i+1:=by rw[wrap_i64];omega
 have cc:decide (i<(s.length:Int))=true->(bT 4 4&&bJ 0 4&&decide (0<=i/\i<((s.length:Nat):Int)))=true:=λh=>by have:=oY h;simp[bJ];omega
 have uN:decide (i<(s.length:Int))=true->U (s.getD i.toNat (RK.cz RK.aj)).C7.N:=λh=>by
  have:=oY h
  rw[Zlb (show i.toNat<s.length by omega)]
  exact hu _ (fI _)
 refine Oz (λh=>cc h) (λh1 h2 h3=>?_) λhx=>?_
 ·have hi:=oY h1
  obtain⟨g1,c1⟩:=Zkd b3 (uN h1)
  refine cr (Znr b3.v b3.len (uN h1)) (aq λx3 e3=>ek ?_)
  have e3:x3.1=(tn y (s.getD i.toNat (RK.cz RK.aj)).C7).2:=by rw[e3,b3.app]
  show(0<=i64.wrap (i+1)/\i64.wrap (i+1)<=s.length/\e9 P x3.1/\x3.1.A0=x.A0/\mX s (s.length-i64.wrap (i+1)).toNat (i64.wrap (i+1)) x3.1=E)/\(s.length-i64.wrap (i+1)).toNat<(s.length-i).toNat
  rw[ew,e3]
  refine⟨⟨by omega,by omega,g1,by rw[c1];exact b4,?_⟩,by omega⟩
  rw[show(s.length-i).toNat=(s.length-(i+1)).toNat+1 by omega]at b5
  have OF:(bif(decide (i<(s.length:Int))&&(((iR s i).At==y.A0)&&((iR s i).C7.C4 !=1)))then mX s (s.length-(i+1)).toNat (i+1) (tn y (iR s i).C7).2 else(i,y))=E:=b5
  rw[show(decide (i<(s.length:Int))&&(((iR s i).At==y.A0)&&((iR s i).C7.C4 !=1)))=true by
   have h1:decide (i<(s.length:Int))=true:=h1
   have h2:((iR s i).At==y.A0)=true:=h2
   have h3:((iR s i).C7.C4 !=1)=true:=h3
   rw[h1,h2,h3];rfl]at OF
  exact OF
 have hx:(decide (i<(s.length:Int))&&(((iR s i).At==y.A0)&&((iR s i).C7.C4 !=1)))=false:=hx
 have eE:(i,y)=E:=by
  generalize(s.length-i).toNat=n at b5
  cases n with
  |zero=>exact b5
  |succ n=>
   have OF:(bif(decide (i<(s.length:Int))&&(((iR s i).At==y.A0)&&((iR s i).C7.C4 !=1)))then mX s n (i+1) (tn y (iR s i).C7).2 else(i,y))=E:=b5
   rw[hx]at OF;exact OF
 subst eE
 have R0:DF (iX s u k) s i y out=rz:=GH
 unfold DF at R0
 have lo:out.length<=4000:=by omega
 have st:y.A4=false->tl y=false->sr y=false:=λh1 h2=>(Lr b3).2 ⟨h1,h2,by omega⟩
 have fin:∀(c:Int) (j:Int),U c->sr y=false->0<=j->j<=s.length->iX s u k j (ga y c).2 (out++(ga y c).1)=rz->decide (40*(out.length+(ga y c).1.length)<=140737488355328)=true/\((0<=j/\j<=s.length/\e9 P (ga y c).2/\(ga y c).2.A0<=u/\((out++(ga y c).1).length:Int)<=(ga y c).2.A0-m.A0/\iX s u (u-(ga y c).2.A0).toNat j (ga y c).2 (out++(ga y c).1)=rz)/\(u-(ga y c).2.A0).toNat<(u-x.A0).toNat):=λc j hc hs j1 j2 hr=>by
  obtain⟨g1,c1,l1⟩:=Oc b3 hs hc
  refine⟨dY (by omega),⟨j1,j2,g1,by omega,by rw[lA];omega,?_⟩,by omega⟩
  rw[show(u-(ga y c).2.A0).toNat=k by omega];exact hr
 refine aa (λhh=>bu ?_) λhh=>cr (qan b3.ok.target.2) (aq λx4 e4=>?_)
 ·have hh:y.A4=true:=hh
  rw[hh]at R0
  exact⟨R0,lo,b3.len⟩
 have hh:y.A4=false:=hh
 rw[hh]at R0
 have e4:x4=tl y:=(e4.trans b3.idle)
 rw[e4]
 refine aa (λhi=>?_) λhi=>?_
 ·have R1:(bif tl y then(bif decide (i<(s.length:Int))then((lV,[],0,1303):jH)else(y,out,i,0))else _)=rz:=R0
  rw[hi]at R1
  have R1:(bif decide (i<(s.length:Int))then((lV,[],0,1303):jH)else(y,out,i,0))=rz:=R1
  refine aa (λhl=>bu ?_) λhl=>bu ?_
  ·have hl:decide (i<(s.length:Int))=true:=hl
   rw[hl]at R1;exact⟨R1,aT _,aT _⟩
  ·have hl:decide (i<(s.length:Int))=false:=hl
   rw[hl]at R1;exact⟨R1,lo,b3.len⟩
 have sk:=st hh hi
 have R2:(bif decide (i<(s.length:Int))then
  (bif((iR s i).At==y.A0)==py y then
   (bif((iR s i).At==y.A0)then iX s u k (i+1) (ga y (iR s i).C7.N).2 (out++(ga y (iR s i).C7.N).1)else iX s u k i (ga y 0).2 (out++(ga y 0).1))
  else((lV,[],0,1302):jH))
 else(bif false==py y then iX s u k i (ga y 0).2 (out++(ga y 0).1)else(lV,[],0,1302)))=rz:=by
  have R1:(bif tl y then(bif decide (i<(s.length:Int))then((lV,[],0,1303):jH)else(y,out,i,0))else _)=rz:=R0
  rw[hi]at R1;exact R1
 clear R0
 have rq:∀z,z=Oe y->z=py y:=λz hz=>by rw[hz,Zm5 b3.v,show Xo y=bif sr y then false else py y from rfl,sk];rfl
 have IM:∀(c:Int),U c->Ob y c:=λc hc=>(xl b3.v b3.len (clock:=c) hc).1
 have OG:∀(c:Int) (z:au×List fm),z=Am y c->z.2=(ga y c).1/\z.1=(ga y c).2:=λc z hz=>by rw[hz,b3.step sk];exact⟨rfl,rfl⟩
 have Td:iX s u k i (ga y 0).2 (out++(ga y 0).1)=rz->∀z:au×List fm,z=Am y 0->decide (40*(out.length+z.2.length)<=140737488355328)=true/\((0<=i/\i<=s.length/\e9 P z.1/\z.1.A0<=u/\((out++z.2).length:Int)<=z.1.A0-m.A0/\iX s u (u-z.1.A0).toNat i z.1 (out++z.2)=rz)/\(u-z.1.A0).toNat<(u-x.A0).toNat):=λhr z hz=>by
  obtain⟨z1,z2⟩:=OG 0 z hz
  rw[z1,z2]
  exact fin 0 i eh sk b1 b2 hr
 refine aa (λhl=>?_) λhl=>?_
 ·have hl:decide (i<(s.length:Int))=true:=hl
  have il:=oY hl
  rw[hl]at R2
  have R2:(bif((iR s i).At==y.A0)==py y then
   (bif((iR s i).At==y.A0)then iX s u k (i+1) (ga y (iR s i).C7.N).2 (out++(ga y (iR s i).C7.N).1)else iX s u k i (ga y 0).2 (out++(ga y 0).1))
  else((lV,[],0,1302):jH))=rz:=R2
  refine ax (cc hl) (cr (Tree.pp (Zjy b3.s)).1 (aq λx5 e5=>?_))
  have e5:=rq x5 e5
  rw[e5]
  refine aa (λhn=>bu ?_) λhn=>?_
  ·have hn:=bn3 ((iR s i).At==y.A0) (py y) hn
   rw[hn]at R2
   exact⟨R2,aT _,aT _⟩
  have hn:=bn4 ((iR s i).At==y.A0) (py y) hn
  rw[hn]at R2
  have R2:(bif((iR s i).At==y.A0)then iX s u k (i+1) (ga y (iR s i).C7.N).2 (out++(ga y (iR s i).C7.N).1)else iX s u k i (ga y 0).2 (out++(ga y 0).1))=rz:=R2
  refine aa (λha=>ax (cc hl) (cr (IM _ (uN hl)) (aq λx6 e6=>?_))) λha=>?_
  ·have ha:((iR s i).At==y.A0)=true:=ha
   rw[ha]at R2
   obtain⟨z1,z2⟩:=OG _ x6 e6
   have F:=fin (iR s i).C7.N (i+1) (uN hl) sk (by omega) (by omega) R2
   refine ax (by rw[z1];exact F.1) (ek ?_)
   have F2:=F.2
   rw[<-ew]at F2
   show(0<=i64.wrap (i+1)/\i64.wrap (i+1)<=s.length/\e9 P x6.1/\x6.1.A0<=u/\((out++x6.2).length:Int)<=x6.1.A0-m.A0/\iX s u (u-x6.1.A0).toNat (i64.wrap (i+1)) x6.1 (out++x6.2)=rz)/\(u-x6.1.A0).toNat<(u-x.A0).toNat
   rw[z1,z2];exact F2
  ·have ha:((iR s i).At==y.A0)=false:=ha
   rw[ha]at R2
   exact cr (IM _ eh) (aq λx7 e7=>ax (Td R2 x7 e7).1 (ek (Td R2 x7 e7).2))
 ·have hl:decide (i<(s.length:Int))=false:=hl
  rw[hl]at R2
  have R2:(bif false==py y then iX s u k i (ga y 0).2 (out++(ga y 0).1)else((lV,[],0,1302):jH))=rz:=R2
  refine cr (Tree.pp (Zjy b3.s)).1 (aq λx8 e8=>?_)
  have e8:=rq x8 e8
  rw[e8]
  refine aa (λhn=>bu ?_) λhn=>?_
  ·have hn:=bn3 false (py y) hn
   rw[hn]at R2
   exact⟨R2,aT _,aT _⟩
  have hn:=bn4 false (py y) hn
  rw[hn]at R2
  exact cr (IM _ eh) (aq λx7 e7=>ax (Td R2 x7 e7).1 (ek (Td R2 x7 e7).2))
def DH(s:List ep)(i:Int)(y:au):Bool:=decide (i<(s.length:Int))&&(((iR s i).At==y.A0)&&((iR s i).C7.C4 !=1))
theorem Xw(s:List ep)(n:Nat)(i:Int)(y:au):mX s (n+1) i y=bif DH s i y then mX s n (i+1) (tn y (iR s i).C7).2 else(i,y):=rfl
theorem xao{s:List ep}{i:Int}{y:au}(hx:DH s i y=false):∀n,mX s n i y=(i,y)
 |0=>rfl
 |n+1=>by rw[Xw,hx];rfl
theorem OH(s:List ep)(u:Int)(k:Nat)(i:Int)(x:au)(out:List fm):iX s u (k+1) i x out=bif decide (x.A0<1152921504606846976)then DF (iX s u k) s (mX s (s.length-i).toNat i x).1 (mX s (s.length-i).toNat i x).2 out else(x,out,i,0):=rfl
def DI(s:List ep)(i:Int)(x:au):Prop:=∀j:Nat,i<=j->j<s.length->x.A0<=(iR s j).At
structure evK(P:Nat)(s:List ep)(i:Int)(x:au)(E:Int×au):Prop where
 lo:i<=E.1
 hi:E.1<=s.length
 g:e9 P E.2
 c:E.2.A0=x.A0
 fix:DH s E.1 E.2=false
theorem Cc{s:List ep}(hu:∀e∈s,U e.C7.N){i:Int}(h0:0<=i)(h:i<s.length):U (iR s i).C7.N:=by
 unfold iR
 rw[Zlb (show i.toNat<s.length by omega)]
 exact hu _ (fI _)
theorem Xx{P:Nat}{s:List ep}(hu:∀e∈s,U e.C7.N):∀(n:Nat) {i:Int} {x:au},e9 P x->0<=i->i<=s.length->(s.length-i).toNat<=n->evK P s i x (mX s n i x)
 |0,i,x,g,h0,h1,hn=>⟨fH i,h1,g,rfl,by unfold DH;rw[show mX s 0 i x=(i,x) from rfl,dN (show¬i<(s.length:Int) by omega)];rfl⟩
 |n + 1,i,x,g,h0,h1,hn=>by
  rw[Xw]
  cases hb:DH s i x
  ·exact⟨fH i,h1,g,rfl,hb⟩
  ·have cj:i<s.length:=by
    unfold DH at hb
    rw[aE]at hb
    exact oY hb.1
   obtain⟨g1,c1⟩:=Zkd g (Cc hu h0 cj)
   have k:=Xx hu n (i:=i+1) g1 (by omega) (by omega) (by omega)
   show evK P s i x (mX s n (i+1) (tn x (iR s i).C7).2)
   exact⟨by have:=k.lo;omega,k.hi,k.g,k.c.trans c1,k.fix⟩
theorem Te{s:List ep}{i:Int}{y:au}(hx:DH s i y=false)(h:y.A4=true\/(tl y=true/\decide (i<(s.length:Int))=false))(u:Int):∀(b:Nat) (out:List fm),iX s u b i y out=(y,out,i,0)
 |0,_=>rfl
 |b +1,out=>by
  rw[OH,xao hx]
  cases decide (y.A0<1152921504606846976)
  ·rfl
  ·unfold DF
   rcases h with h|⟨h1,h2⟩
   ·rw[h];rfl
   ·rw[h1,h2];cases y.A4<;>rfl
theorem xZ{s:List ep}(h:k9 s=true)(i:Nat):∀j:Nat,i<=j->j<s.length->(iR s i).At<=(iR s j).At:=by
 intro j
 induction j with
 |zero=>intro h1 _;rw[show i=0 by omega];exact fH _
 |succ j ih=>
  intro h1 h2
  by_cases e:i=j+1
  ·rw[e];exact fH _
  ·have h3:=Xv h (j+1) h2 (by omega)
   have h4:=ih (by omega) (by omega)
   unfold DG at h3
   rw[aE]at h3
   have h5:decide ((s.getD (j+1) (RK.cz RK.aj)).At<(s.getD j (RK.cz RK.aj)).At)=false:=by simpa using h3.1
   have h5:=oN h5
   unfold iR at h4⊢
   rw[eD]at h4⊢
   rw[eD]at h4⊢
   omega
theorem zaG{s:List ep}(h:k9 s=true)(i:Nat)(hk:(iR s i).C7.C4=1)(j:Nat)(h1:i<j)(h2:j<s.length):(iR s i).At<(iR s j).At:=by
 have h3:=Xv h (i+1) (by omega) (by omega)
 have h4:=xZ h (i+1) j (by omega) h2
 unfold DG at h3
 rw[aE]at h3
 have h5:decide ((s.getD (i+1) (RK.cz RK.aj)).At<(s.getD i (RK.cz RK.aj)).At)=false:=by simpa using h3.1
 have h5:=oN h5
 unfold iR at h4 hk⊢
 rw[eD]at hk h4⊢
 rw[eD]at h4⊢
 have h6:=h3.2
 rw[show i+1-1=i by omega,show((s.getD i (RK.cz RK.aj)).C7.C4==1)=true by rw[hk];rfl]at h6
 have h7:¬(s.getD (i+1) (RK.cz RK.aj)).At=(s.getD i (RK.cz RK.aj)).At:=by simpa using h6
 omega
theorem OI{s:List ep}{i j:Int}{x y:au}(h:DI s i x)(hl:i<=j)(hc:y.A0=x.A0):DI s j y:=λq h1 h2=>by
 have:=h q (by omega) h2;omega
theorem Zkk{s:List ep}{j:Int}{y z:au}(ho:k9 s=true)(h:DI s j y)(h0:0<=j)(hn:j<s.length->¬(iR s j).At=y.A0)(hc:z.A0=y.A0+1):DI s j z:=λq h1 h2=>by
 have a:=h j.toNat (by omega) (by omega)
 have b:=xZ ho j.toNat q (by omega) h2
 rw[eH h0]at a b
 have:=hn (by omega)
 omega
theorem yn{s:List ep}{j:Int}{y z:au}(ho:k9 s=true)(h:DI s j y)(h0:0<=j)(hj:j<s.length)(hk:(iR s j).C7.C4=1)(hc:z.A0=y.A0+1):DI s (j+1) z:=λq h1 h2=>by
 have a:=h j.toNat (by omega) (by omega)
 have b:=zaG ho j.toNat (by rw[eH h0];exact hk) q (by omega) h2
 rw[eH h0]at a b
 omega
structure Xy(P:Nat)(s:List ep)(i:Int)(x:au)(k:Nat)(r:jH):Prop where
 g:e9 P r.1
 lo:i<=r.2.2.1
 hi:r.2.2.1<=s.length
 c0:x.A0<=r.1.A0
 c1:r.1.A0<=x.A0+k
 ah:k9 s=true->DI s i x->DI s r.2.2.1 r.1
 st:r.1.A0=x.A0+k\/∀(u:Int) (b:Nat) (o:List fm),iX s u b r.2.2.1 r.1 o=(r.1,o,r.2.2.1,0)
theorem vn{P:Nat}{s:List ep}(hu:∀e∈s,U e.C7.N)(u:Int):∀(a:Nat) {i:Int} {x:au} {out:List fm},e9 P x->0<=i->i<=s.length->
 ((iX s u a i x out).2.2.2=0->Xy P s i x a (iX s u a i x out))/\((iX s u a i x out).2.2.2≠0->(iX s u a i x out).1=lV/\(iX s u a i x out).2.1=[]/\(iX s u a i x out).2.2.1=0)/\
 ∀b,iX s u (a+b) i x out=bif(iX s u a i x out).2.2.2==0 then iX s u b (iX s u a i x out).2.2.1 (iX s u a i x out).1 (iX s u a i x out).2.1 else iX s u a i x out
 |0,i,x,out,g,h0,h1=>⟨λ_=>⟨g,fH i,h1,fH _,by show x.A0<=x.A0+0;omega,λ_ h=>h,.inl (by show x.A0=x.A0+0;omega)⟩,λh=>absurd rfl h,λb=>by rw[Nat.zero_add];rfl⟩
 |a + 1,i,x,out,g,h0,h1=>by
  have ih:=fun{i:Int} {x:au} {out:List fm}=>vn (P:=P) hu u a (i:=i) (x:=x) (out:=out)
  have hab:∀b,a+1+b=(a+b)+1:=λb=>by omega
  simp only[hab,OH]
  cases hc:decide (x.A0<1152921504606846976)
  ·refine⟨λ_=>⟨g,fH i,h1,fH _,by show x.A0<=x.A0+_;omega,λ_ h=>h,.inr λu b o=>?_⟩,λh=>absurd rfl h,λb=>?_⟩
   ·cases b with
    |zero=>rfl
    |succ b=>show iX s u (b+1) i x o=_;rw[OH,hc];rfl
   ·cases b with
    |zero=>rfl
    |succ b=>show(x,out,i,(0:Int))=iX s u (b+1) i x out;rw[OH,hc];rfl
  have hcx:=oY hc
  have k:=Xx (P:=P) hu (s.length-i).toNat g h0 h1 (aO _)
  generalize mX s (s.length-i).toNat i x=E at k⊢
  obtain⟨j,y⟩:=E
  have DJ:i<=j:=k.lo
  have IN:j<=s.length:=k.hi
  have kg:e9 P y:=k.g
  have kc:y.A0=x.A0:=k.c
  have kf:DH s j y=false:=k.fix
  simp only[cond_true]
  unfold DF
  cases hh:y.A4
  rotate_left
  ·refine⟨λ_=>⟨kg,DJ,IN,by show x.A0<=y.A0;omega,by show y.A0<=_;omega,λ_ h=>OI h DJ kc,.inr λu b o=>Te kf (.inl hh) u b o⟩,λh=>absurd rfl h,λb=>?_⟩
   exact(Te kf (.inl hh) u b out).symm
  cases hi:tl y
  rotate_left
  ·cases hl:decide (j<(s.length:Int))
   ·refine⟨λ_=>⟨kg,DJ,IN,by show x.A0<=y.A0;omega,by show y.A0<=_;omega,λ_ h=>OI h DJ kc,.inr λu b o=>Te kf (.inr ⟨hi,hl⟩) u b o⟩,λh=>absurd rfl h,λb=>?_⟩
    exact(Te kf (.inr ⟨hi,hl⟩) u b out).symm
   ·exact⟨λh=>absurd (show(1303:Int)=0 from h) (by decide),λ_=>⟨rfl,rfl,rfl⟩,λb=>rfl⟩
  have sk:sr y=false:=(Lr kg).2 ⟨hh,hi,by omega⟩
  have next:∀(c:Int) (q:Int),U c->0<=q->q<=s.length->i<=q->((ga y c).2.A0=y.A0+1->k9 s=true->DI s i x->DI s q (ga y c).2)->
   ((iX s u a q (ga y c).2 (out++(ga y c).1)).2.2.2=0->Xy P s i x (a+1) (iX s u a q (ga y c).2 (out++(ga y c).1)))/\
   ((iX s u a q (ga y c).2 (out++(ga y c).1)).2.2.2≠0->(iX s u a q (ga y c).2 (out++(ga y c).1)).1=lV/\(iX s u a q (ga y c).2 (out++(ga y c).1)).2.1=[]/\(iX s u a q (ga y c).2 (out++(ga y c).1)).2.2.1=0)/\
   ∀b,iX s u (a+b) q (ga y c).2 (out++(ga y c).1)=bif(iX s u a q (ga y c).2 (out++(ga y c).1)).2.2.2==0 then iX s u b (iX s u a q (ga y c).2 (out++(ga y c).1)).2.2.1 (iX s u a q (ga y c).2 (out++(ga y c).1)).1 (iX s u a q (ga y c).2 (out++(ga y c).1)).2.1 else iX s u a q (ga y c).2 (out++(ga y c).1):=λc q hU q0 q1 q2 q3=>by
   obtain⟨g1,c1,_⟩:=Oc kg sk hU
   have n:=ih (i:=q) (x:=(ga y c).2) (out:=out++(ga y c).1) g1 q0 q1
   refine⟨λh=>?_,n.2⟩
   have n1:=n.1 h
   exact⟨n1.g,by have:=n1.lo;omega,n1.hi,by have:=n1.c0;omega,by have:=n1.c1;omega,λho h=>n1.ah ho (q3 c1 ho h),n1.st.imp (λh=>by omega) id⟩
  have bad:∀c:Int,c≠0->((((lV,[],0,c):jH).2.2.2=0->Xy P s i x (a+1) (lV,[],0,c))/\(((lV,[],0,c):jH).2.2.2≠0->((lV,[],0,c):jH).1=lV/\((lV,[],0,c):jH).2.1=[]/\((lV,[],0,c):jH).2.2.1=0)/\
   ∀b,((lV,[],0,c):jH)=bif((lV,[],0,c):jH).2.2.2==0 then iX s u b ((lV,[],0,c):jH).2.2.1 ((lV,[],0,c):jH).1 ((lV,[],0,c):jH).2.1 else(lV,[],0,c)):=λc h=>⟨λe=>absurd e h,λ_=>⟨rfl,rfl,rfl⟩,λb=>by
   rw[show(((lV,[],0,c):jH).2.2.2==0)=false by simpa using h];rfl⟩
  simp only[cond_false]
  cases hl:decide (j<(s.length:Int))
  ·simp only[cond_false]
   cases hr:(false==py y)
   ·exact bad 1302 (by decide)
   ·simp only[cond_true];exact next 0 j eh (by omega) IN DJ λc ho h=>Zkk ho (OI h DJ kc) (by omega) (λq=>absurd q (oN hl)) c
  ·have Ao:=oY hl
   simp only[cond_true]
   cases hr:(((iR s j).At==y.A0)==py y)
   ·exact bad 1302 (by decide)
   ·simp only[cond_true]
    cases ha:((iR s j).At==y.A0)
    ·simp only[cond_false];exact next 0 j eh (by omega) IN DJ λc ho h=>Zkk ho (OI h DJ kc) (by omega) (λ_=>by simpa using ha) c
    ·simp only[cond_true];exact next _ (j+1) (Cc hu (by omega) Ao) (by omega) (by omega) (by omega) λc ho h=>yn ho (OI h DJ kc) (by omega) Ao (by unfold DH at kf;rw[hl,ha]at kf;simpa using kf) c
theorem qo{m:au}{s:List ep}{u:Int}:mH m s u=0↔ ¬tj m=false/\¬u<m.A0/\¬4000<wrap .u64 (u-m.A0)/\¬400<s.length/\¬k9 s=false/\¬(0<s.length/\(iR s 0).At<m.A0):=by
 unfold mH
 constructor
 ·intro h
  by_cases h1:tj m=false
  ·rw[if_pos h1]at h;cases h
  rw[if_neg h1]at h
  by_cases h2:u<m.A0
  ·rw[if_pos h2]at h;cases h
  rw[if_neg h2]at h
  by_cases h3:4000<wrap .u64 (u-m.A0)
  ·rw[if_pos h3]at h;cases h
  rw[if_neg h3]at h
  by_cases h4:400<s.length
  ·rw[if_pos h4]at h;cases h
  rw[if_neg h4]at h
  by_cases h5:k9 s=false
  ·rw[if_pos h5]at h;cases h
  rw[if_neg h5]at h
  by_cases h6:0<s.length/\(iR s 0).At<m.A0
  ·rw[if_pos h6]at h;cases h
  exact⟨h1,h2,h3,h4,h5,h6⟩
 ·rintro⟨h1,h2,h3,h4,h5,h6⟩
  rw[if_neg h1,if_neg h2,if_neg h3,if_neg h4,if_neg h5,if_neg h6]
theorem xo{m:au}{s:List ep}{u:Int}(h:mH m s u=0):c6 m s u=iX s u (u-m.A0).toNat 0 m []:=by unfold c6;rw[if_pos h]
theorem Zjg{m:au}{s:List ep}{u:Int}(h:mH m s u≠0):c6 m s u=(lV,[],0,mH m s u):=by unfold c6;rw[if_neg h]
theorem yL{m:au}{s:List ep}{u:Int}(h:(c6 m s u).2.2.2=0):mH m s u=0:=by
 by_cases e:mH m s u=0
 ·exact e
 ·rw[Zjg e]at h;exact h
structure runK(P:Nat)(m:au)(s:List ep)(u:Int)(r:jH):Prop where
 g:e9 P r.1
 lo:0<=r.2.2.1
 hi:r.2.2.1<=s.length
 c0:m.A0<=r.1.A0
 c1:r.1.A0<=u
theorem vL{P:Nat}{m:au}(g:e9 P m){s:List ep}(hu:∀e∈s,U e.C7.N){u:Int}(h:(c6 m s u).2.2.2=0):runK P m s u (c6 m s u):=by
 have hc:=yL h
 rw[xo hc]at h⊢
 have k:=(vn (P:=P) hu u (u-m.A0).toNat g (fH 0) (by omega)).1 h
 have:=(qo.1 hc).2.1
 exact⟨k.g,k.lo,k.hi,k.c0,by have:=k.c1;omega⟩
def mj(m:au):Int:=Ox 14695981039346656037 (ss m)
def kh:au->List ep->List Int->List fy×Int
 |_,_,[]=>([],0)
 |m,s,u::l=>
  bif (c6 m s u).2.2.2==0 then
   (bif(kh (c6 m s u).1 (s.drop (c6 m s u).2.2.1.toNat) l).2==0 then
    ({At:=u,D0:=mj (c6 m s u).1}::(kh (c6 m s u).1 (s.drop (c6 m s u).2.2.1.toNat) l).1,0)
   else([],(kh (c6 m s u).1 (s.drop (c6 m s u).2.2.1.toNat) l).2))
  else([],(c6 m s u).2.2.2)
def jC:au->List ep->Int->Int->List fy->jK
 |_,_,_,_,[]=>{Good:=true,D5:=0,At:=0}
 |m,s,i,last,c::l=>
  bif((c6 m s c.At).2.2.2==0)&&(mj (c6 m s c.At).1==c.D0)then jC (c6 m s c.At).1 (s.drop (c6 m s c.At).2.2.1.toNat) (i+1) c.At l
  else{Good:=false,D5:=i,At:=last}
theorem OJ{m:au}{s:List ep}{u:Int}{l:List Int}{L:List fy}(h:kh m s (u::l)=(L,0)):
 (c6 m s u).2.2.2=0/\∃K,L={At:=u,D0:=mj (c6 m s u).1}::K/\kh (c6 m s u).1 (s.drop (c6 m s u).2.2.1.toNat) l=(K,0):=by
 unfold kh at h
 cases h1:(c6 m s u).2.2.2==0
 ·rw[h1]at h
  have:(c6 m s u).2.2.2=0:=(Prod.mk.inj h).2
  rw[this]at h1;cases h1
 ·rw[h1]at h
  have h1:=eq_of_beq h1
  refine⟨h1,?_⟩
  generalize kh (c6 m s u).1 (s.drop (c6 m s u).2.2.1.toNat) l=q at h⊢
  obtain⟨K,e⟩:=q
  cases h2:e==0
  ·have h:(bif e==0 then(({At:=u,D0:=mj (c6 m s u).1}::K:List fy),(0:Int))else([],e))=(L,0):=h
   rw[h2]at h
   have:e=0:=(Prod.mk.inj h).2
   rw[this]at h2;cases h2
  ·have h:(bif e==0 then(({At:=u,D0:=mj (c6 m s u).1}::K:List fy),(0:Int))else([],e))=(L,0):=h
   rw[h2]at h
   exact⟨K,(Prod.mk.inj h).1.symm,by rw[eq_of_beq h2]⟩
theorem Zje:∀{l:List Int} {m:au} {s:List ep} {L:List fy},kh m s l=(L,0)->L.map (·.At)=l
 |[],m,s,L,h=>by rw[show L=[] from(Prod.mk.inj h).1.symm];rfl
 |u::l,m,s,L,h=>by
  obtain⟨_,K,e,h2⟩:=OJ h
  rw[e,List.map_cons,Zje h2]
theorem wq:∀{l:List Int} {m:au} {s:List ep} {L:List fy},kh m s l=(L,0)->∀i last,jC m s i last L={Good:=true,D5:=0,At:=0}
 |[],m,s,L,h,i,last=>by rw[show L=[] from(Prod.mk.inj h).1.symm];rfl
 |u::l,m,s,L,h,i,last=>by
  obtain⟨h1,K,e,h2⟩:=OJ h
  rw[e]
  unfold jC
  rw[show((c6 m s ({At:=u,D0:=mj (c6 m s u).1}:fy).At).2.2.2==0)=true by show((c6 m s u).2.2.2==0)=true;rw[h1];rfl,show(mj (c6 m s ({At:=u,D0:=mj (c6 m s u).1}:fy).At).1==({At:=u,D0:=mj (c6 m s u).1}:fy).D0)=true from beq_self_eq_true _]
  exact wq h2 _ _
theorem GI:∀(k:Nat) {l:List Int} {m:au} {s:List ep} {L:List fy},kh m s l=(L,0)->k<L.length->∀(i last h:Int),h≠(L.getD k default).D0->
 jC m s i last (L.set k {At:=(L.getD k default).At,D0:=h})={Good:=false,D5:=i+k,At:=if k=0 then last else(L.getD (k-1) default).At}
 |k,[],m,s,L,h,hk,i,last,x,hx=>by rw[show L=[] from(Prod.mk.inj h).1.symm]at hk;exact absurd hk (Nat.not_lt_zero _)
 |0,u::l,m,s,L,h,hk,i,last,x,hx=>by
  obtain⟨h1,K,e,h2⟩:=OJ h
  rw[e]at hx⊢
  have hx:x≠mj (c6 m s u).1:=hx
  show jC m s i last ({At:=u,D0:=x}::K)=_
  unfold jC
  rw[show(mj (c6 m s ({At:=u,D0:=x}:fy).At).1==({At:=u,D0:=x}:fy).D0)=false by show(mj (c6 m s u).1==x)=false;simpa using λe=>hx e.symm,Bool.and_false]
  show _=({Good:=false,D5:=i+((0:Nat):Int),At:=last}:jK)
  rw[show i+((0:Nat):Int)=i by omega];rfl
 |k+1,u::l,m,s,L,h,hk,i,last,x,hx=>by
  obtain⟨h1,K,e,h2⟩:=OJ h
  rw[e]at hx hk⊢
  have hx:x≠(K.getD k default).D0:=hx
  have ih:=GI k h2 (by simpa using hk) (i+1) u x hx
  show jC m s i last ({At:=u,D0:=mj (c6 m s u).1}::K.set k {At:=(K.getD k default).At,D0:=x})=_
  unfold jC
  rw[show((c6 m s ({At:=u,D0:=mj (c6 m s u).1}:fy).At).2.2.2==0)=true by show((c6 m s u).2.2.2==0)=true;rw[h1];rfl,show(mj (c6 m s ({At:=u,D0:=mj (c6 m s u).1}:fy).At).1==({At:=u,D0:=mj (c6 m s u).1}:fy).D0)=true from beq_self_eq_true _]
  refine Eq.trans ih ?_
  rw[if_neg (Nat.succ_ne_zero k),show i+1+(k:Int)=i+((k+1:Nat):Int) by omega]
  congr 1
  cases k with
  |zero=>rfl
  |succ k=>rfl
def OK:Int->List Int->Prop
 |_,[]=>True
 |a,x::l=>a<=x/\OK x l
theorem xaG{s:List ep}(hu:∀e∈s,U e.C7.N)(n:Nat):∀e∈s.drop n,U e.C7.N:=λe he=>hu e (List.mem_of_mem_drop he)
theorem Tf:kd lV:=⟨eh,eh⟩
theorem zZ(s:List ep):∀(n:Nat) (i:Int) (x:au),kd x->kd (mX s n i x).2
 |0,i,x,h=>h
 |n+1,i,x,h=>by
  rw[Xw]
  cases DH s i x
  ·exact h
  ·exact zZ s n _ _ (xaF h _)
theorem yZ{P:Nat}{s:List ep}(hu:∀e∈s,U e.C7.N)(u:Int):∀(k:Nat) {i:Int} {x:au} (out:List fm),e9 P x->kd x->0<=i->i<=s.length->kd (iX s u k i x out).1
 |0,i,x,out,g,d,h0,h1=>d
 |k + 1,i,x,out,g,d,h0,h1=>by
  rw[OH]
  cases hc:decide (x.A0<1152921504606846976)
  ·exact d
  have hcx:=oY hc
  have ke:=Xx (P:=P) hu (s.length-i).toNat g h0 h1 (aO _)
  have de:=zZ s (s.length-i).toNat i x d
  generalize mX s (s.length-i).toNat i x=E at ke de⊢
  obtain⟨j,y⟩:=E
  have DJ:i<=j:=ke.lo
  have IN:j<=s.length:=ke.hi
  have kg:e9 P y:=ke.g
  have kc:y.A0=x.A0:=ke.c
  have dy:kd y:=de
  rw[cond_true]
  unfold DF
  cases hh:y.A4
  rotate_left
  ·exact dy
  cases hi:tl y
  rotate_left
  ·cases decide (j<(s.length:Int))
   ·exact dy
   ·exact Tf
  have sk:sr y=false:=(Lr kg).2 ⟨hh,hi,by omega⟩
  have next:∀(c:Int) (p:Int),U c->0<=p->p<=s.length->kd (iX s u k p (ga y c).2 (out++(ga y c).1)).1:=λc p hU p0 p1=>
   yZ hu u k _ (Oc kg sk hU).1 (qZ kg dy c) p0 p1
  rw[cond_false,cond_false]
  cases hl:decide (j<(s.length:Int))
  ·rw[cond_false]
   cases(false==py y)
   ·exact Tf
   ·exact next 0 j eh (by omega) IN
  ·have Ao:=oY hl
   rw[cond_true]
   cases((iR s j).At==y.A0)==py y
   ·exact Tf
   ·cases(iR s j).At==y.A0
    ·exact next 0 j eh (by omega) IN
    ·exact next _ (j+1) (Cc hu (by omega) Ao) (by omega) (by omega)
theorem qaH{P:Nat}{m:au}(g:e9 P m)(d:kd m){s:List ep}(hu:∀e∈s,U e.C7.N)(u:Int):kd (c6 m s u).1:=by
 unfold c6
 split
 ·exact yZ hu u _ _ g d (fH 0) (by omega)
 ·exact Tf
theorem zo(m:au):mj m=Ox 14695981039346656037 (ss m):=rfl
theorem GJ{P:Nat}{m:au}(g:e9 P m)(d:kd m):Tb m/\Tc m=mj m:=by
 obtain⟨a,b⟩:=zao g.v (Zk5 g d) (by have:=g.len;omega)
 exact⟨a,b.trans (qn _ _)⟩
theorem Zm3(s:List UInt8)(hl:s.length<=1000000):0<=Ox 14695981039346656037 s/\Ox 14695981039346656037 s<18446744073709551616:=by
 have h:(Xz 14695981039346656037 s).w (λr=>0<=r/\r<18446744073709551616):=by
  unfold Xz
  refine fg (inv:=λv:Int×Int=>(0<=v.2/\v.2<=s.length)/\0<=v.1/\v.1<18446744073709551616) (μ:=Qnf 14695981039346656037 s) ⟨⟨fH 0,by show(0:Int)<=_;omega⟩,by decide,by decide⟩ (cO _) λv ⟨⟨a,b⟩,c⟩=>?_
  refine aa (λhb=>?_) λ_=>bu c
  have hb:=oY hb
  have ew:i64.wrap (v.2+1)=v.2+1:=by rw[wrap_i64];omega
  refine ax (dY ⟨a,hb⟩) (ek ?_)
  show((0<=i64.wrap (v.2+1)/\i64.wrap (v.2+1)<=s.length)/\0<=wrap .u64 _/\wrap .u64 _<18446744073709551616)/\(s.length-i64.wrap (v.2+1)).toNat<(s.length-v.2).toNat
  rw[ew]
  exact⟨⟨⟨by omega,by omega⟩,Xt _⟩,by omega⟩
 exact Tree.post _ h
theorem Zj{P:Nat}{m:au}(g:e9 P m)(d:kd m):0<=mj m/\mj m<18446744073709551616:=by
 have e:=Zk5 g d
 have:=Tree.post _ (Zlf g.v e.r (by have:=g.len;omega) e.k e.o)
 rw[zo]
 refine Zm3 _ ?_
 have h1:XA m=ss m:=this.1
 rw[<-h1]
 have:=this.2
 change(XA m).length<=_ at this
 omega
attribute [local irreducible] mj
theorem XB{α:Type}{l:List α}{i:Int}(h0:0<=i)(h:i<l.length)(d:α):l.drop i.toNat=l.getD i.toNat d::l.drop (i+1).toNat:=by
 have cj:i.toNat<l.length:=by omega
 rw[show(i+1).toNat=i.toNat+1 by omega,dC,cG cj]
 exact aB cj
def mI:Int->List Int->Bool
 |_,[]=>true
 |a,x::l=>bif decide (x<a)then false else bif decide (wrap .u64 (x-a)>4000)then false else mI x l
def kz(m:au)(s:List ep)(l:List Int):Int:=bif mI m.A0 l then mH m s m.A0 else 4300
theorem XC(m:au)(s:List ep):(c6 m s m.A0).2.2.2=mH m s m.A0:=by
 by_cases h:mH m s m.A0=0
 ·rw[xo h,h,show(m.A0-m.A0).toNat=0 by omega];rfl
 ·rw[Zjg h]
theorem qM{l:List Int}{i:Int}(h0:0<=i)(h:i<l.length)(a:Int):mI a (l.drop i.toNat)=bif decide (l.getD i.toNat 0<a)then false else bif decide (wrap .u64 (l.getD i.toNat 0-a)>4000)then false else mI (l.getD i.toNat 0) (l.drop (i+1).toNat):=by
 rw[XB h0 h 0];rfl
theorem qap{l:List Int}{i:Int}(h:¬i<l.length)(a:Int):mI a (l.drop i.toNat)=true:=by
 rw[aA (by omega)];rfl
section
variable {m:au} (hv:sq m) (hc:m.A0<18446744073709551616) {s:List ep} (hs:s.length<=1000000) (hu:∀e∈s,U e.C7.N)
include hv hc hs hu
theorem Zkx{l:List Int}(hl:l.length<=400):(OL m s l).w (λe=>e=kz m s l):=by
 unfold OL
 refine aa (λh=>by have:=oY h;omega) λ_=>?_
 refine fg (inv:=λv:Int×Int=>0<=v.2/\v.2<=l.length/\mI m.A0 l=mI v.1 (l.drop v.2.toNat)) (μ:=Qjf m s l) ⟨fH 0,by show(0:Int)<=_;omega,rfl⟩ (cO _) λv ⟨a,b,c⟩=>?_
 obtain⟨last,i⟩:=v
 have a:0<=i:=a
 have b:i<=l.length:=b
 have c:mI m.A0 l=mI last (l.drop i.toNat):=c
 refine aa (λhb=>?_) λhb=>?_
 ·have hb:i<l.length:=oY hb
  have ew:i64.wrap (i+1)=i+1:=by rw[wrap_i64];omega
  rw[qM a hb]at c
  refine ax (by simp[bJ];omega) (aa (λh1=>bu ?_) λh1=>aa (λh2=>bu ?_) λh2=>ek ?_)
  ·show(4300:Int)=kz m s l
   have h1:decide (l.getD i.toNat 0<last)=true:=h1
   rw[h1]at c
   unfold kz;rw[c];rfl
  ·show(4300:Int)=kz m s l
   have h1:decide (l.getD i.toNat 0<last)=false:=h1
   have h2:decide (wrap .u64 (l.getD i.toNat 0-last)>4000)=true:=h2
   rw[h1,h2]at c
   unfold kz;rw[c];rfl
  ·have h1:decide (l.getD i.toNat 0<last)=false:=h1
   have h2:decide (wrap .u64 (l.getD i.toNat 0-last)>4000)=false:=h2
   rw[h1,h2]at c
   show(0<=i64.wrap (i+1)/\i64.wrap (i+1)<=l.length/\mI m.A0 l=mI (l.getD i.toNat 0) (l.drop (i64.wrap (i+1)).toNat))/\(l.length-i64.wrap (i+1)).toNat<(l.length-i).toNat
   rw[ew]
   exact⟨⟨by omega,by omega,c⟩,by omega⟩
 ·have hb:¬i<l.length:=oN hb
  rw[qap hb]at c
  refine bm (zn hv hs hu hv.pM hc) λx0 ⟨e0,_⟩=>bu ?_
  show x0.2.2.2=kz m s l
  unfold kz;rw[c,e0,XC];rfl
end
def comb(vl:List fy)(q:List fy×Int):List fy×Int:=bif q.2==0 then(vl++q.1,0)else([],q.2)
theorem Z6p(m:au)(s:List ep)(u:Int)(l:List Int):kh m s (u::l)=bif(c6 m s u).2.2.2==0 then comb [{At:=u,D0:=mj (c6 m s u).1}] (kh (c6 m s u).1 (s.drop (c6 m s u).2.2.1.toNat) l)else([],(c6 m s u).2.2.2):=rfl
theorem yo(a b:List fy)(q:List fy×Int):comb a (comb b q)=comb (a++b) q:=by
 unfold comb
 cases h:q.2==0
 ·show(bif q.2==0 then _ else _)=_
  rw[h];rfl
 ·show((a++(b++q.1),(0:Int)):List fy×Int)=(a++b++q.1,0)
  rw[dD]
theorem Zec{sc:List ep}{i:Int}(h0:0<=i)(h1:i<=sc.length):cZ (((sc.length:Nat):Int).toNat-i.toNat) (dA i.toNat sc)=sc.drop i.toNat:=by
 rw[eD]
 exact fK (by rw[bF];omega)
theorem vo{i hash err:Int}{kK:List fy}{kQ:List Int}{tp:Int}(h0:0<=i)(h1:i<kQ.length)(h2:kK.length<=1000000):(OM i hash err kK kQ tp).w (λr=>r=(true,kK++[{At:=kQ.getD i.toNat 0,D0:=hash}],kQ,err)):=by
 unfold OM
 exact ax (dY ⟨h0,h1⟩) (ax (dY (by omega)) (bu rfl))
structure Ap(P:Nat)(x:au)(sc:List ep):Prop where
 g:e9 P x
 d:kd x
 hs:sc.length<=1000000
 hu:∀e∈sc,U e.C7.N
theorem Ap.next{P:Nat}{x:au}{sc:List ep}(h:Ap P x sc){u:Int}(he:(c6 x sc u).2.2.2=0):Ap P (c6 x sc u).1 (sc.drop (c6 x sc u).2.2.1.toNat)/\0<=(c6 x sc u).2.2.1/\(c6 x sc u).2.2.1<=sc.length:=by
 have k:=vL h.g h.hu he
 exact⟨⟨k.g,qaH h.g h.d h.hu u,by rw[bF];have:=h.hs;omega,xaG h.hu _⟩,k.lo,k.hi⟩
theorem qp{P:Nat}{m:au}{s:List ep}(st:Ap P m s){l:List Int}(hl:l.length<=400)(hr:∀x∈l,0<=x/\x<18446744073709551616):
 (ON m s l [] l 0).w (λr=>(bif r.2.2==0 then(r.1,0)else([],r.2.2))=kh m s l):=by
 unfold ON
 refine fg (inv:=λv:List ep×Int×List Int×Int×List fy×au=>0<=v.2.1/\v.2.1<=l.length/\v.2.2.1=l/\v.2.2.2.1=0/\Ap P v.2.2.2.2.2 v.1/\(v.2.2.2.2.1.length:Int)=v.2.1/\comb v.2.2.2.2.1 (kh v.2.2.2.2.2 v.1 (l.drop v.2.1.toNat))=kh m s l) (μ:=Qf1 m s l [] l 0)
  ⟨fH 0,by show(0:Int)<=_;omega,rfl,rfl,st,rfl,?_⟩ (cO _) λv ⟨a1,a2,a3,a4,a5,a6,a7⟩=>?_
 ·show comb [] (kh m s l)=_
  unfold comb
  cases h:(kh m s l).2==0
  ·have:∀q:List fy×Int,kh m s l=q->(q.2==0)=false->q.1=[]:=λq hq hz=>by
    cases l with
    |nil=>rw[<-hq]at hz;cases hz
    |cons u l=>
     rw[Z6p]at hq
     cases h1:(c6 m s u).2.2.2==0
     ·rw[h1]at hq;rw[<-hq];rfl
     ·rw[h1]at hq
      rw[<-hq]at hz⊢
      have hz:((comb [{At:=u,D0:=mj (c6 m s u).1}] (kh (c6 m s u).1 (s.drop (c6 m s u).2.2.1.toNat) l)).2==0)=false:=hz
      show(comb [{At:=u,D0:=mj (c6 m s u).1}] (kh (c6 m s u).1 (s.drop (c6 m s u).2.2.1.toNat) l)).1=[]
      unfold comb at hz⊢
      generalize kh (c6 m s u).1 (s.drop (c6 m s u).2.2.1.toNat) l=w at hz⊢
      cases h2:w.2==0
      ·rfl
      ·rw[h2]at hz;cases hz
   have h3:=this _ rfl h
   generalize kh m s l=q at h h3⊢
   obtain⟨q1,q2⟩:=q
   have h3:q1=[]:=h3
   rw[h3];rfl
  ·generalize kh m s l=q at h⊢
   obtain⟨q1,q2⟩:=q
   have h:(q2==0)=true:=h
   rw[show q2=0 from eq_of_beq h];rfl
 obtain⟨sc,i,va,vf,vl,x⟩:=v
 have a1:0<=i:=a1
 have a2:i<=l.length:=a2
 have a3:va=l:=a3
 have a4:vf=0:=a4
 subst a3;subst a4
 have a5:Ap P x sc:=a5
 have a6:(vl.length:Int)=i:=a6
 have a7:comb vl (kh x sc (va.drop i.toNat))=kh m s va:=a7
 refine aa (λhb=>?_) λhb=>bu ?_
 ·have hb:i<va.length:=oY hb
  have ew:i64.wrap (i+1)=i+1:=by rw[wrap_i64];omega
  have ru:=hr (va.getD i.toNat 0) (by rw[dC,cG (show i.toNat<va.length by omega)];exact fI _)
  rw[XB a1 hb 0,Z6p]at a7
  refine ax (by simp[bJ];omega) (bm (zn a5.g.v a5.hs a5.hu ru.1 ru.2) λx0 ⟨e0,_,_⟩=>?_)
  have e0:x0=c6 x sc (va.getD i.toNat 0):=e0
  refine aa (λhe=>bm (vo a1 hb (by omega)) λx1 e1=>bu ?_) λhe=>?_
  ·have he:(x0.2.2.2==0)=false:=by simpa using he
   rw[e1]
   show(bif x0.2.2.2==0 then((_,0):List fy×Int)else([],x0.2.2.2))=kh m s va
   rw[he,<-a7]
   rw[e0]at he⊢
   rw[he]
   show(([],_):List fy×Int)=comb vl ([],_)
   unfold comb
   show _=bif(c6 x sc (va.getD i.toNat 0)).2.2.2==0 then _ else _
   rw[he];rfl
  ·have he:x0.2.2.2=0:=by simpa using he
   have IP:(c6 x sc (va.getD i.toNat 0)).2.2.2=0:=by rw[<-e0];exact he
   obtain⟨sn,n1,n2⟩:=a5.next IP
   have oX:((c6 x sc (va.getD i.toNat 0)).2.2.2==0)=true:=by rw[IP];rfl
   rw[oX]at a7
   have a7:comb vl (comb [{At:=va.getD i.toNat 0,D0:=mj (c6 x sc (va.getD i.toNat 0)).1}] (kh (c6 x sc (va.getD i.toNat 0)).1 (sc.drop (c6 x sc (va.getD i.toNat 0)).2.2.1.toNat) (va.drop (i+1).toNat)))=kh m s va:=a7
   rw[yo]at a7
   rw[<-e0]at sn n1 n2 a7
   obtain⟨hp,hh⟩:=GJ sn.g sn.d
   refine ax (by simp[bJ];omega) (cr hp (aq λx2 e2=>bm (vo a1 hb (by omega)) λx3 e3=>?_))
   rw[e3]
   refine aa (λh=>by cases h) λ_=>ek ?_
   show(0<=i64.wrap (i+1)/\i64.wrap (i+1)<=va.length/\va=va/\(0:Int)=0/\Ap P x0.1 (cZ (((sc.length:Nat):Int).toNat-x0.2.2.1.toNat) (dA x0.2.2.1.toNat sc))/\((vl++[({At:=va.getD i.toNat 0,D0:=x2}:fy)]).length:Int)=i64.wrap (i+1)/\comb (vl++[({At:=va.getD i.toNat 0,D0:=x2}:fy)]) (kh x0.1 (cZ (((sc.length:Nat):Int).toNat-x0.2.2.1.toNat) (dA x0.2.2.1.toNat sc)) (va.drop (i64.wrap (i+1)).toNat))=kh m s va)/\(va.length-i64.wrap (i+1)).toNat<(va.length-i).toNat
   rw[ew,Zec n1 n2,e2,hh,lA,cX]
   exact⟨⟨by omega,by omega,rfl,rfl,sn,by omega,a7⟩,by omega⟩
 ·have hb:¬i<va.length:=oN hb
  rw[aA (by omega)]at a7
  show(bif(0:Int)==0 then(vl,(0:Int))else([],0))=_
  rw[<-a7]
  show(vl,(0:Int))=(vl++[],0)
  rw[cJ]
def GK(m:au)(s:List ep)(l:List Int):List fy×Int:=bif kz m s l==0 then kh m s l else([],kz m s l)
theorem Zc8{m:au}{s:List ep}{l:List Int}(h:kz m s l=0):mI m.A0 l=true/\mH m s m.A0=0:=by
 unfold kz at h
 cases hp:mI m.A0 l
 ·rw[hp]at h;exact absurd (show(4300:Int)=0 from h) (by decide)
 ·rw[hp]at h;exact⟨rfl,h⟩
theorem Zk2{m:au}(hv:sq m){s:List ep}{u:Int}(h:mH m s u=0):∃P,e9 P m:=by
 have mm:mF m=true:=by rw[Lg hv];simpa using(qo.1 h).1
 obtain⟨P,gS,gM⟩:=wj hv mm
 exact⟨P,gM,mm⟩
theorem zap{m:au}(hv:sq m)(hc:m.A0<18446744073709551616)(d:kd m){s:List ep}(hs:s.length<=1000000)(hu:∀e∈s,U e.C7.N){l:List Int}(hl:l.length<=400)(hr:∀x∈l,0<=x/\x<18446744073709551616):(OO m s l).w (λr=>r=GK m s l):=by
 unfold OO
 refine bm (Zkx hv hc hs hu hl) λx0 e0=>?_
 refine aa (λh=>bu ?_) λh=>?_
 ·have h:(x0==0)=false:=by simpa using h
  unfold GK;rw[<-e0,h];rfl
 ·have h:x0=0:=by simpa using h
  have h0:kz m s l=0:=e0.symm.trans h
  obtain⟨P,g⟩:=Zk2 hv (Zc8 h0).2
  refine bm (qp ⟨g,d,hs,hu⟩ hl hr) λx1 e1=>?_
  have em:GK m s l=kh m s l:=by unfold GK;rw[h0];rfl
  rw[em,<-e1]
  refine aa (λh=>bu ?_) λh=>bu ?_
  ·have h:(x1.2.2==0)=false:=by simpa using h
   rw[h];rfl
  ·have h:(x1.2.2==0)=true:=by simpa using h
   rw[h];rfl
abbrev jM(l:List fy)(i:Int):fy:=l.getD i.toNat (RK.cz RK.ae)
def nt(i last:Int):jK:={Good:=false,D5:=i,At:=last}
def AS(m:au)(va:List Int)(i:Int):Int:=if i>0 then va.getD (i-1).toNat 0 else m.A0
theorem zaH(l:List fy)(n:Nat):(l.map (·.At)).getD n 0=(l.getD n (RK.cz RK.ae)).At:=by
 rw[dC,dC,fL]
 cases l[n]? <;>rfl
theorem xM(m:au)(s:List ep)(i last:Int)(c:fy)(l:List fy):jC m s i last (c::l)=bif((c6 m s c.At).2.2.2==0)&&(mj (c6 m s c.At).1==c.D0)then jC (c6 m s c.At).1 (s.drop (c6 m s c.At).2.2.1.toNat) (i+1) c.At l else nt i last:=rfl
theorem Zl2{i hash err:Int}{kK:List fy}{kQ:au}{tp:jK}{nE:List Int}(h0:0<=i)(h1:i<kK.length)(h3:nE.length=kK.length)(hl:kK.length<=1000000):
 (OP i hash err kK kQ tp nE).w (λr=>r=((err==0)&&(hash==(jM kK i).D0),kK,kQ,bif(err==0)&&(hash==(jM kK i).D0)then tp else nt i (AS kQ nE i),nE)):=by
 unfold OP
 have ew:i64.wrap (i-1)=i-1:=by rw[wrap_i64];omega
 have bad:∀b:Bool,b=false->(Tree.br (decide (i>0)) (.cn (decide (0<=i64.wrap (i-1)/\i64.wrap (i-1)<((nE.length:Nat):Int))) (.lf ((false,kK,kQ,{Good:=false,D5:=i,At:=nE.getD (i64.wrap (i-1)).toNat 0},nE):Bool×List fy×au×jK×List Int))) (.lf (false,kK,kQ,{Good:=false,D5:=i,At:=kQ.A0},nE))).w (λr=>r=(b,kK,kQ,bif b then tp else nt i (AS kQ nE i),nE)):=λb hb=>by
  subst hb
  refine aa (λh=>ax (dY (by have:=oY h;rw[ew];omega)) (bu ?_)) λh=>bu ?_
  ·have h:=oY h
   rw[ew]
   show _=((false,kK,kQ,nt i (AS kQ nE i),nE):Bool×List fy×au×jK×List Int)
   unfold nt AS;rw[if_pos h]
  ·have h:=oN h
   show _=((false,kK,kQ,nt i (AS kQ nE i),nE):Bool×List fy×au×jK×List Int)
   unfold nt AS;rw[if_neg h]
 refine aa (λhe=>ax (by simp[bJ];omega) (aa (λhh=>bu ?_) λhh=>?_)) λhe=>?_
 ·have hh:(hash==(jM kK i).D0)=true:=hh
  rw[he,hh];rfl
 ·have hh:(hash==(jM kK i).D0)=false:=hh
  exact bad _ (by rw[he,hh];rfl)
 ·exact bad _ (by rw[he];rfl)
theorem xp{P:Nat}{m:au}{s:List ep}(st:Ap P m s){l:List fy}(hl:l.length<=400)(hr:∀c∈l,0<=c.At/\c.At<18446744073709551616):
 (OQ m s (l.map (·.At)) l m {Good:=true,D5:=0,At:=0} (l.map (·.At))).w (λr=>r.2.2.1=jC m s 0 m.A0 l):=by
 unfold OQ
 refine fg (inv:=λv:List ep×Int×List fy×au×jK×List Int×au=>0<=v.2.1/\v.2.1<=l.length/\v.2.2.1=l/\v.2.2.2.1=m/\v.2.2.2.2.1={Good:=true,D5:=0,At:=0}/\v.2.2.2.2.2.1=l.map (·.At)/\Ap P v.2.2.2.2.2.2 v.1/\jC v.2.2.2.2.2.2 v.1 v.2.1 (AS m (l.map (·.At)) v.2.1) (l.drop v.2.1.toNat)=jC m s 0 m.A0 l) (μ:=Qf3 m s (l.map (·.At)) l m {Good:=true,D5:=0,At:=0} (l.map (·.At)))
  ⟨fH 0,by show(0:Int)<=_;omega,rfl,rfl,rfl,rfl,st,rfl⟩ (cO _) λv ⟨a1,a2,a3,a4,a5,a6,a7,a8⟩=>?_
 obtain⟨sc,i,vl,vm,vv,va,x⟩:=v
 have a1:0<=i:=a1
 have a2:i<=l.length:=a2
 have a3:vl=l:=a3
 have a4:vm=m:=a4
 have a5:vv={Good:=true,D5:=0,At:=0}:=a5
 have a6:va=l.map (·.At):=a6
 subst a3;subst a4;subst a5;subst a6
 have a7:Ap P x sc:=a7
 have a8:jC x sc i (AS vm (vl.map (·.At)) i) (vl.drop i.toNat)=jC vm s 0 vm.A0 vl:=a8
 have ml:(vl.map (·.At)).length=vl.length:=fG ..
 have vl6:vl.length<=1000000:=by omega
 refine aa (λhb=>?_) λhb=>bu ?_
 ·have hb:i<((vl.map (·.At)).length:Nat):=oY hb
  have hb:i<vl.length:=by rw[ml]at hb;exact hb
  have ew:i64.wrap (i+1)=i+1:=by rw[wrap_i64];omega
  have em:(vl.map (·.At)).getD i.toNat 0=(jM vl i).At:=zaH vl i.toNat
  have ru:=hr (jM vl i) (by show vl.getD i.toNat _∈vl;rw[dC,cG (show i.toNat<vl.length by omega)];exact fI _)
  rw[XB a1 hb (RK.cz RK.ae)]at a8
  have a8:jC x sc i (AS vm (vl.map (·.At)) i) (jM vl i::vl.drop (i+1).toNat)=jC vm s 0 vm.A0 vl:=a8
  rw[xM]at a8
  refine ax (by simp[bJ];omega) ?_
  show(Tree.an (OR x sc ((vl.map (·.At)).getD i.toNat 0)) _).w _
  rw[em]
  refine bm (zn a7.g.v a7.hs a7.hu ru.1 ru.2) λx0 ⟨e0,_,_⟩=>?_
  have e0:x0=c6 x sc (jM vl i).At:=e0
  refine aa (λhe=>bm (Zl2 a1 hb ml vl6) λx1 e1=>bu ?_) λhe=>?_
  ·have he:(x0.2.2.2==0)=false:=by simpa using he
   have IP:((c6 x sc (jM vl i).At).2.2.2==0)=false:=by rw[<-e0];exact he
   rw[IP]at a8
   rw[e1,<-a8]
   show(bif(x0.2.2.2==0)&&_ then _ else nt i _)=_
   rw[he];rfl
  ·have he:x0.2.2.2=0:=by simpa using he
   have IP:(c6 x sc (jM vl i).At).2.2.2=0:=by rw[<-e0];exact he
   obtain⟨sn,n1,n2⟩:=a7.next IP
   have oX:((c6 x sc (jM vl i).At).2.2.2==0)=true:=by rw[IP];rfl
   rw[oX,fM]at a8
   rw[<-e0]at sn n1 n2 a8
   obtain⟨hp,hh⟩:=GJ sn.g sn.d
   refine ax (by simp[bJ];omega) (cr hp (aq λx2 e2=>bm (Zl2 a1 hb ml vl6) λx3 e3=>?_))
   have e2:x2=mj x0.1:=e2.trans hh
   rw[<-e2]at a8
   have z:(((0:Int)==0)&&(x2==(jM vl i).D0))=(x2==(jM vl i).D0):=fM _
   rw[z]at e3
   rw[e3]
   refine aa (λh=>bu ?_) λh=>ek ?_
   ·have h:(x2==(jM vl i).D0)=false:=by simpa using h
    rw[h]at a8
    show(bif(x2==(jM vl i).D0)then _ else nt i _)=_
    rw[h];exact a8
   ·have h:(x2==(jM vl i).D0)=true:=by simpa using h
    rw[h]at a8
    have a8:jC x0.1 (sc.drop x0.2.2.1.toNat) (i+1) (jM vl i).At (vl.drop (i+1).toNat)=jC vm s 0 vm.A0 vl:=a8
    have la:AS vm (vl.map (·.At)) (i+1)=(jM vl i).At:=by
     unfold AS;rw[if_pos (by omega),show i+1-1=i by omega];exact em
    show(0<=i64.wrap (i+1)/\i64.wrap (i+1)<=vl.length/\vl=vl/\vm=vm/\(bif(x2==(jM vl i).D0)then({Good:=true,D5:=0,At:=0}:jK)else nt i _)={Good:=true,D5:=0,At:=0}/\vl.map (·.At)=vl.map (·.At)/\Ap P x0.1 (cZ (((sc.length:Nat):Int).toNat-x0.2.2.1.toNat) (dA x0.2.2.1.toNat sc))/\jC x0.1 (cZ (((sc.length:Nat):Int).toNat-x0.2.2.1.toNat) (dA x0.2.2.1.toNat sc)) (i64.wrap (i+1)) (AS vm (vl.map (·.At)) (i64.wrap (i+1))) (vl.drop (i64.wrap (i+1)).toNat)=jC vm s 0 vm.A0 vl)/\((vl.map (·.At)).length-i64.wrap (i+1)).toNat<((vl.map (·.At)).length-i).toNat
    rw[ew,Zec n1 n2,la,h,ml]
    exact⟨⟨by omega,by omega,rfl,rfl,rfl,rfl,sn,a8⟩,by omega⟩
 ·have hb:¬i<((vl.map (·.At)).length:Nat):=oN hb
  have hb:¬i<vl.length:=by rw[ml]at hb;exact hb
  rw[aA (by omega)]at a8
  exact a8
def EM(m:au)(s:List ep)(l:List fy):jK×Int:=bif kz m s (l.map (·.At))==0 then(jC m s 0 m.A0 l,0)else(nt 0 0,kz m s (l.map (·.At)))
theorem yM{l:List fy}{i:Int}(h0:0<=i)(h:i<l.length):(l.take i.toNat).map (·.At)++[(jM l i).At]=(l.take (i+1).toNat).map (·.At):=by
 have cj:i.toNat<l.length:=by omega
 rw[show(i+1).toNat=i.toNat+1 by omega,<-List.take_append_getElem cj,bL,List.map_singleton]
 congr 2
 show(l.getD i.toNat _).At=_
 rw[dC,cG cj];rfl
section
variable {m:au} (hv:sq m) (hc:m.A0<18446744073709551616) (d:kd m) {s:List ep} (hs:s.length<=1000000) (hu:∀e∈s,U e.C7.N) {l:List fy} (hl:l.length<=400) (hr:∀c∈l,0<=c.At/\c.At<18446744073709551616)
include hv hc d hs hu hl hr
theorem Zfn:(OS m s l).w (λr=>r=EM m s l):=by
 unfold OS
 refine fg (inv:=λv:Int×List Int=>0<=v.1/\v.1<=l.length/\v.2=(l.take v.1.toNat).map (·.At)) (μ:=Qjw m s l) ⟨fH 0,by show(0:Int)<=_;omega,rfl⟩ (cO _) λv ⟨a1,a2,a3⟩=>?_
 obtain⟨i,out⟩:=v
 have a1:0<=i:=a1
 have a2:i<=l.length:=a2
 have a3:out=(l.take i.toNat).map (·.At):=a3
 have ol:out.length<=400:=by rw[a3,fG,List.length_take];omega
 refine aa (λhb=>?_) λhb=>?_
 ·have hb:i<l.length:=oY hb
  have ew:i64.wrap (i+1)=i+1:=by rw[wrap_i64];omega
  refine ax (by simp[bJ];omega) (ax (dY (by show 8*(out.length+1)<=_;omega)) (ek ?_))
  show(0<=i64.wrap (i+1)/\i64.wrap (i+1)<=l.length/\out++[(jM l i).At]=(l.take (i64.wrap (i+1)).toNat).map (·.At))/\(l.length-i64.wrap (i+1)).toNat<(l.length-i).toNat
  rw[ew,a3]
  exact⟨⟨by omega,by omega,yM a1 hb⟩,by omega⟩
 ·have hb:¬i<l.length:=oN hb
  have a3:out=l.map (·.At):=by rw[a3,fK (by omega)]
  subst a3
  refine bm (Zkx hv hc hs hu ol) λx0 e0=>?_
  refine aa (λh=>bu ?_) λh=>?_
  ·have h:(x0==0)=false:=by simpa using h
   show(nt 0 0,x0)=EM m s l
   unfold EM;rw[<-e0,h];rfl
  ·have h:x0=0:=by simpa using h
   have h0:kz m s (l.map (·.At))=0:=e0.symm.trans h
   obtain⟨P,g⟩:=Zk2 hv (Zc8 h0).2
   refine bm (xp ⟨g,d,hs,hu⟩ hl hr) λx1 e1=>bu ?_
   show(x1.2.2.1,(0:Int))=EM m s l
   unfold EM;rw[h0,e1];rfl
end
structure Jab(m:au)(s:List ep):Prop where
 st:Ap 8 m s
 c:m.A0<=87
structure GL(c:Int)(r:List Int):Prop where
 asc:OK c r
 le:∀x∈r,c<=x/\x<=c+200
theorem GL.u{c:Int}{r:List Int}(h:GL c r)(h0:0<=c)(h1:c<=87):∀x∈r,0<=x/\x<18446744073709551616:=λx hx=>by have:=h.le x hx;omega
theorem zp{l:List Int}{m:au}{s:List ep}(h:(GK m s l).2=0):kz m s l=0/\kh m s l=((GK m s l).1,0):=by
 unfold GK at h⊢
 cases h1:kz m s l==0
 ·rw[h1]at h
  have h:kz m s l=0:=h
  rw[h]at h1;cases h1
 ·rw[h1]at h
  have h:(kh m s l).2=0:=h
  refine⟨eq_of_beq h1,?_⟩
  show kh m s l=((kh m s l).1,0)
  rw[<-h]
theorem Zdj:∀{l:List Int} {m:au} {s:List ep} {L:List fy} {P:Nat},Ap P m s->kh m s l=(L,0)->∀c∈L,c.At∈l/\0<=c.D0/\c.D0<18446744073709551616
 |[],m,s,L,P,st,h,c,hc=>by rw[show L=[] from(Prod.mk.inj h).1.symm]at hc;cases hc
 |u ::l,m,s,L,P,st,h,c,hc=>by
  obtain⟨h1,K,e,h2⟩:=OJ h
  obtain⟨sn,_,_⟩:=st.next h1
  rw[e]at hc
  rcases List.mem_cons.1 hc with hc|hc
  ·rw[hc];exact⟨by simp,Zj sn.g sn.d⟩
  ·obtain⟨p,q⟩:=Zdj sn h2 c hc
   exact⟨by simp[p],q⟩
section
instance yp (i:Int):Ck (GM i):=let d:Decidable (GM i):=(by delta GM;infer_instance);⟨@decide _ d,@oY _ d⟩
instance Zhs (a:bg) (b:bg):Ck (Q9t a b):=ra (t:=IQ a b) (by delta IQ;infer_instance)
instance Zir (a:List Int) (b:List Int):Ck (Q9s a b):=ra (t:=IS a b) (by delta IS;infer_instance)
instance Zoa (a:au) (b:au):Ck (IT a b):=ra (t:=IU a b) (by delta IU;infer_instance)
abbrev mA:au:=IH 2 [0]
def mA5(m:au):au:={A9:={X:={a0:=m.A9.X.a0,a1:=m.A9.X.a1,a2:=m.A9.X.a2,a3:=m.A9.X.a3,a4:=m.A9.X.a4,a5:=7,a6:=m.A9.X.a6,a7:=m.A9.X.a7,a8:=m.A9.X.a8,a9:=m.A9.X.a9,kj:=m.A9.X.kj,ko:=m.A9.X.ko,a12:=m.A9.X.a12,kp:=m.A9.X.kp,kq:=m.A9.X.kq,kr:=m.A9.X.kr},Pc:=m.A9.Pc,B2:=m.A9.B2},Mem:=m.Mem,A2:=m.A2,A7:=m.A7,A6:=m.A6,C1:=m.C1,A1:=m.A1,A0:=m.A0,A3:=m.A3,A4:=m.A4}
theorem vM:IT mA (mA5 mA):=ck inferInstance (by kernel_rfl)
theorem qN:IT mA mA:=ck inferInstance (by kernel_rfl)
theorem xN:Ly mA (mA5 mA)=[120,32,53]:=by kernel_rfl
theorem zN:Ly mA mA=[]:=by kernel_rfl
end
theorem Cd:(GK mA [] [1,3]).2=0:=by kernel_rfl
theorem GN:OT.w (λr=>r=true):=by
 unfold OT
 refine cr (Tree.pp (xg 2 [0] (by decide))).1 (aq λx0 e0=>?_)
 subst e0
 obtain⟨g,gc⟩:=Zdq 2 [0] (by decide) (by decide)
 have d:=Zo0 2 [0] (by decide) (by decide)
 have hc:mA.A0<18446744073709551616:=by show(IH 2 [0]).A0<_;omega
 refine bm (zap g.v hc d (s:=[]) (aT _) (λe he=>by cases he) (l:=[1,3]) (by decide) (λx hx=>by simp at hx;omega)) λx1 e1=>?_
 obtain⟨c0,mk⟩:=zp Cd
 rw[<-e1]at mk
 have kZ:x1.2=0:=by rw[e1];exact Cd
 obtain⟨L,e⟩:=x1
 have kZ:e=0:=kZ
 subst kZ
 have mk:kh mA [] [1,3]=(L,0):=mk
 have ma:=Zje mk
 have l2:L.length=2:=by rw[<-fG (f:=(·.At)),ma];rfl
 have mm:=Zdj (P:=8) ⟨g,d,aT _,λe he=>by cases he⟩ mk
 have hr:∀c∈L,0<=c.At/\c.At<18446744073709551616:=λc hc=>by have:=(mm c hc).1;simp at this;omega
 have ckL:EM mA [] L=({Good:=true,D5:=0,At:=0},0):=by
  unfold EM
  rw[ma,c0]
  show(jC mA [] 0 mA.A0 L,(0:Int))=_
  rw[wq mk]
 refine aa (λh=>by cases h) λ_=>aa (λh=>?_) λ_=>?_
 ·exfalso
  have h:(((L.length:Nat):Int) !=2)=true:=h
  rw[l2]at h;cases h
 refine bm (Zfn g.v hc d (s:=[]) (aT _) (λe he=>by cases he) (l:=L) (by omega) hr) λx2 e2=>?_
 have cc:(bT 2 2&&bJ 0 2&&decide ((0:Int)<=1/\(1:Int)<((L.length:Nat):Int)))=true:=by rw[l2];rfl
 refine ax cc (ax cc ?_)
 obtain⟨q,hq⟩:∃q:fy,q=L.getD 1 (RK.cz RK.ae):=⟨_,rfl⟩
 have hqd:L.getD 1 default=q:=by
  rw[hq,dC,dC,cG (show 1<L.length by omega)];rfl
 have hqm:q∈L:=by rw[hq,dC,cG (show 1<L.length by omega)];exact fI _
 have hqr:=(mm q hqm).2
 have sl:(L.set 1 {At:=q.At,D0:=wrap .u64 (q.D0+1)}).length=2:=by rw[dH,l2]
 have sm:(L.set 1 ({At:=q.At,D0:=wrap .u64 (q.D0+1)}:fy)).map (·.At)=L.map (·.At):=by
  apply bN
  ·rw[fG,fG,dH]
  ·intro n h1 h2
   rw[bO,bO,List.getElem_set]
   split
   ·rename_i hn
    subst hn
    show q.At=_
    rw[hq,dC,cG (show 1<L.length by omega)];rfl
   ·rfl
 have ckS:EM mA [] (L.set 1 {At:=q.At,D0:=wrap .u64 (q.D0+1)})=({Good:=false,D5:=1,At:=1},0):=by
  unfold EM
  rw[sm,ma,c0]
  have f:=GI 1 mk (by omega) 0 mA.A0 (wrap .u64 (q.D0+1)) (by rw[hqd,wrap_u64];omega)
  rw[hqd]at f
  show(jC mA [] 0 mA.A0 _,(0:Int))=_
  rw[f]
  have h0:(L.getD (1-1) default).At=1:=by
   have:(L.map (·.At)).getD 0 0=(L.getD 0 default).At:=by
    rw[dC,dC,fL,cG (show 0<L.length by omega)];rfl
   rw[ma]at this
   exact this.symm
  rw[h0];rfl
 have OU:∀c∈L.set 1 {At:=(L.getD 1 (RK.cz RK.ae)).At,D0:=wrap .u64 ((L.getD 1 (RK.cz RK.ae)).D0+1)},0<=c.At/\c.At<18446744073709551616:=λc pR=>by
  rcases List.mem_or_eq_of_mem_set pR with h|h
  ·exact hr c h
  ·rw[h,<-hq];exact hr q hqm
 refine bm (Zfn g.v hc d (s:=[]) (aT _) (λe he=>by cases he) (l:=L.set 1 {At:=(L.getD 1 (RK.cz RK.ae)).At,D0:=wrap .u64 ((L.getD 1 (RK.cz RK.ae)).D0+1)}) (by rw[dH];omega) OU) λx3 e3=>?_
 rw[<-hq]at e3
 rw[e2,e3,ckL,ckS]
 have no:∀{t:Tree Bool},false=true->t.w (λr=>r=true):=λh=>by cases h
 refine aa (λ_=>aa (λ_=>aa (λ_=>aa (λ_=>aa (λ_=>aa (λ_=>?_) λh=>by cases h) λh=>by cases h) λh=>by cases h) λh=>by cases h) λh=>by cases h) λh=>by cases h
 refine cr vM (aq λx4 e4=>aa (λ_=>cr qN (aq λx5 e5=>bu ?_)) λh=>?_)
 ·have e5:x5=[]:=e5.trans zN
  rw[e5];rfl
 ·have e4:x4=[120,32,53]:=e4.trans xN
  rw[e4]at h;cases h
theorem XD{W:Bool->Prop}(h:W true):(Tree.an Lz (.lv GO λx=>.lf x)).w W:=by
 obtain⟨p,q⟩:=Tree.pp GN
 exact cr p (aq λx e=>by show W x;rw[e,show GO=true from q];exact h)
theorem vp{x y:fv Int}(h:fv.l x=fv.l y):x=y:=by
 obtain⟨_,_,_,_,_,_,_,_,_,_,_,_,_,_,_,_⟩:=x
 obtain⟨_,_,_,_,_,_,_,_,_,_,_,_,_,_,_,_⟩:=y
 simp only[fv.l,List.cons.injEq,and_true]at h
 simp only[fv.mk.injEq];exact h
theorem vZ{x y:A8 Int}(h:A8.l x=A8.l y):x=y:=by
 obtain⟨_,_,_,_,_,_,_,_⟩:=x
 obtain⟨_,_,_,_,_,_,_,_⟩:=y
 simp only[A8.l,List.cons.injEq,and_true]at h
 simp only[A8.mk.injEq];exact h
theorem Z13{a b:au}(h1:a.A9=b.A9)(h2:a.Mem=b.Mem)(h3:a.A2=b.A2)(h4:a.A7=b.A7)(h5:a.A6=b.A6)(h6:a.C1=b.C1)(h7:a.A1=b.A1)(h8:a.A0=b.A0)(h9:a.A3=b.A3)(wg:a.A4=b.A4):a=b:=by
 obtain⟨_,_,_,_,_,_,_,_,_,_⟩:=a
 obtain⟨_,_,_,_,_,_,_,_,_,_⟩:=b
 simp only at h1 h2 h3 h4 h5 h6 h7 h8 h9 wg
 subst h1 h2 h3 h4 h5 h6 h7 h8 h9 wg
 rfl
theorem Tg{a b:List Int}(hl:a.length=b.length)(h:∀i:Nat,i<a.length->a.getD i 0=b.getD i 0):a=b:=by
 refine bN hl λi h1 h2=>?_
 have:=h i h1
 rw[S7 h1,S7 h2]at this
 exact this
theorem xap{a b:List Int}(ha:a.length<=1000000):(LA a b).w (λr=>r=true↔a=b):=by
 have no:a.length≠b.length->(false=true↔a=b):=λh=>⟨(λh=>by cases h),λe=>(h (by rw[e])).elim⟩
 unfold LA
 refine aa (λh=>bu (no ?_)) λh=>?_
 ·have h:((a.length:Int) !=b.length)=true:=h
  simp only[bne_iff_ne,ne_eq,fN]at h
  exact h
 have hl:a.length=b.length:=by
  have h:((a.length:Int) !=b.length)=false:=h
  simp only[bne_eq_false_iff_eq,fN]at h
  exact h
 refine fg (inv:=λv:Int=>0<=v/\v<=a.length/\∀i:Nat,(i:Int)<v->a.getD i 0=b.getD i 0) (μ:=Th a b) ⟨fH 0,by omega,λi hi=>by omega⟩ (cO _) λv ⟨v0,v1,v2⟩=>?_
 refine aa (λhb=>?_) (λhb=>bu ?_)
 ·have hb:v<a.length:=oY hb
  have ew:i64.wrap (v+1)=v+1:=by rw[wrap_i64];omega
  refine ax (by simp[bJ];omega) (ax (by simp[bJ];omega) (aa (λh=>bu ⟨(λh=>by cases h),λe=>?_⟩) λh=>ek ?_))
  ·rw[e,bne_self_eq_false]at h;cases h
  ·have h:a.getD v.toNat 0=b.getD v.toNat 0:=by simpa using h
   show(0<=i64.wrap (v+1)/\i64.wrap (v+1)<=a.length/\∀i:Nat,(i:Int)<i64.wrap (v+1)->a.getD i 0=b.getD i 0)/\(a.length-i64.wrap (v+1)).toNat<(a.length-v).toNat
   rw[ew]
   refine⟨⟨by omega,by omega,λi hi=>?_⟩,by omega⟩
   by_cases e:(i:Int)<v
   ·exact v2 i e
   ·rw[show i=v.toNat by omega];exact h
 ·have hb:¬v<a.length:=oN hb
  exact⟨λ_=>Tg hl λi hi=>v2 i (by omega),λ_=>rfl⟩
def Ce(c:bg):List D:=(fv.l c.X).map (D.int .u32)++(D.int .u32 c.Pc::(A8.l c.B2).map (D.int .u32))
theorem Zkv:∀l:List D,(∀d∈l,Cf d d=true)->eqs l l=true
 |[],_=>rfl
 |d::l,h=>by
  show(Cf d d&&eqs l l)=true
  rw[h d (by simp),Zkv l λe he=>h e (by simp[he])];rfl
theorem Zjl(k:IntKind):∀{l m:List Int},l.length=m.length->eqs (l.map (D.int k)) (m.map (D.int k))=true->l=m
 |[],[],_,_=>rfl
 |x::l,y::m,hl,h=>by
  have h:((x==y)&&eqs (l.map (D.int k)) (m.map (D.int k)))=true:=h
  rw[aE]at h
  rw[eq_of_beq h.1,Zjl k (by simpa using hl) h.2]
 |[],_::_,hl,_=>by simp at hl
 |_::_,[],hl,_=>by simp at hl
theorem qq{a b:bg}:eqs (Ce a) (Ce b)=true↔a=b:=by
 constructor
 ·intro h
  have e:∀c:bg,Ce c=(fv.l c.X++c.Pc::A8.l c.B2).map (D.int .u32):=λc=>by unfold Ce;rw[bL];rfl
  rw[e,e]at h
  have h:=Zjl .u32 (by rfl) h
  obtain⟨h1,h2⟩:=List.append_inj h rfl
  obtain⟨h4,h3⟩:=List.cons.inj h2
  have k1:=vp h1
  have k3:=vZ h3
  clear h1 h3 h2 h e
  obtain⟨_,_,_⟩:=a
  obtain⟨_,_,_⟩:=b
  simp only at k1 h4 k3
  subst k1 h4 k3;rfl
 ·intro h
  subst h
  refine Zkv _ λd hd=>?_
  unfold Ce at hd
  simp only[List.mem_append,List.mem_map,cR]at hd
  rcases hd with⟨x,_,rfl⟩|rfl|⟨x,_,rfl⟩<;>exact beq_self_eq_true _
theorem OV{a b:iO}:eqs [D.str a.C5] [D.str b.C5]=true↔a=b:=by
 obtain⟨_⟩:=a;obtain⟨_⟩:=b
 simp[eqs,Cf]
theorem OW{a b:iS}:eqs [D.bool a.C9,D.int .u32 a.B8,D.bool a.C8] [D.bool b.C9,D.int .u32 b.B8,D.bool b.C8]=true↔a=b:=by
 obtain⟨_,_,_⟩:=a;obtain⟨_,_,_⟩:=b
 simp[eqs,Cf]
theorem OX{a b:fe}:eqs [D.int .u32 a.ab,D.int .u32 a.B9,D.int .u32 a.Frame,D.int .i64 a.B5,D.int .i64 a.D1,D.int .u32 a.B4,D.int .u32 a.B0,D.str a.B6] [D.int .u32 b.ab,D.int .u32 b.B9,D.int .u32 b.Frame,D.int .i64 b.B5,D.int .i64 b.D1,D.int .u32 b.B4,D.int .u32 b.B0,D.str b.B6]=true↔a=b:=by
 obtain⟨_,_,_,_,_,_,_,_⟩:=a;obtain⟨_,_,_,_,_,_,_,_⟩:=b
 simp[eqs,Cf]
theorem OY{a b:gq}:eqs [D.int .u32 a.Frame,D.int .u32 a.D6,D.bool a.C2,D.int .u32 a.B7,D.bool a.B3,D.int .u32 a.D8] [D.int .u32 b.Frame,D.int .u32 b.D6,D.bool b.C2,D.int .u32 b.B7,D.bool b.B3,D.int .u32 b.D8]=true↔a=b:=by
 obtain⟨_,_,_,_,_,_⟩:=a;obtain⟨_,_,_,_,_,_⟩:=b
 simp[eqs,Cf]
theorem OZ{a b:gh}:eqs [D.int .u32 a.C3,D.int .u32 a.C0] [D.int .u32 b.C3,D.int .u32 b.C0]=true↔a=b:=by
 obtain⟨_,_⟩:=a;obtain⟨_,_⟩:=b
 simp[eqs,Cf]
theorem EN{c:Bool}{p:Prop}(h:c=false)(g:p->c=true):(false=true↔p):=⟨(λh=>by cases h),λe=>by rw[g e]at h;cases h⟩
theorem yN{a b:au}(ha:a.Mem.length<=1000000):(O0 a b).w (λr=>r=true↔a=b):=by
 unfold O0
 have hx:XE a.Mem b.Mem=true↔a.Mem=b.Mem:=Tree.post _ (xap ha)
 refine aa (λh1=>cr (show a.Mem.length<=1000000000000 by omega) (aq λx ex=>aa (λh0=>aa (λh2=>aa (λh3=>aa (λh4=>aa (λh5=>aa (λh6=>aa (λh7=>aa (λh8=>bu ?_)
  λh=>bu (EN h λe=>by rw[e];exact beq_self_eq_true _)) λh=>bu (EN h λe=>by rw[e];exact beq_self_eq_true _)) λh=>bu (EN h λe=>OZ.2 (by rw[e]))) λh=>bu (EN h λe=>OY.2 (by rw[e]))) λh=>bu (EN h λe=>OX.2 (by rw[e]))) λh=>bu (EN h λe=>OW.2 (by rw[e]))) λh=>bu (EN h λe=>OV.2 (by rw[e]))) λh=>bu (EN h λe=>by rw[ex];exact hx.2 (by rw[e])))) λh=>bu (EN h λe=>qq.2 (by rw[e]))
 rw[ex]at h0
 exact⟨λh=>Z13 (qq.1 h1) (hx.1 h0) (OV.1 h2) (OW.1 h3) (OX.1 h4) (OY.1 h5) (OZ.1 h6) (eq_of_beq h7) (eq_of_beq h8) (eq_of_beq h),λe=>by rw[e];exact beq_self_eq_true _⟩
theorem xq:∀(k n:Nat),n<10^k->0<k->n<18446744073709551616->pS k (n:Int)=Lib.decDigits n
 |0,n,_,h,_=>absurd h (fO 0)
 |k + 1,n,h,_,hb=>by
  show(EO (λ_=>True) (pS k) (n:Int)).m=_
  unfold EO
  by_cases wg:n<10
  ·rw[Lib.decDigits,dif_pos wg]
   have e:decide ((n:Int)<10)=true:=dY (by omega)
   simp only[Tree.m,e]
   have e2:wrap .u64 (48+(n:Int))=48+n:=by rw[wrap_u64];omega
   have e3:wrap .u8 (48+(n:Int))=48+n:=by rw[wrap_u8];omega
   have e4:Int.toNat (48+(n:Int))=48+n:=by omega
   simp[e2,e3,e4]
  ·rw[Lib.decDigits,dif_neg wg]
   have e:decide ((n:Int)<10)=false:=dN (by omega)
   have d1:Int.tdiv (n:Int) 10=((n/10:Nat):Int):=by rw[Int.tdiv_eq_ediv_of_nonneg (by omega)];omega
   have d2:Int.tmod (n:Int) 10=((n%10:Nat):Int):=by rw[eF (by omega)];omega
   have e1:wrap .u64 ((n/10:Nat):Int)=((n/10:Nat):Int):=by rw[wrap_u64];omega
   have e2:wrap .u64 (48+((n%10:Nat):Int))=48+((n%10:Nat):Int):=by rw[wrap_u64];omega
   have e3:wrap .u8 (48+((n%10:Nat):Int))=48+((n%10:Nat):Int):=by rw[wrap_u8];omega
   have e4:Int.toNat (48+((n%10:Nat):Int))=48+n%10:=by omega
   have hk:0<k:=by
    rcases fP k with rfl|hk
    ·simp at h;omega
    ·exact hk
   have ih:=xq k (n/10) (by rw[fF]at h;omega) hk (by omega)
   simp only[Tree.m,e,dj,d1,d2,e1,e2,e3,e4,ih]
   rfl
def GP(p:List UInt8)(i:Int):List UInt8:=p++[32]++Lib.decDigits i.toNat
theorem zq{i:Int}(h0:0<=i)(h1:i<1000000000):(Et i).w (λr=>r=Lib.decDigits i.toNat):=by
 unfold Et
 have e:wrap .u64 i=i:=by rw[wrap_u64];omega
 refine aa (λh=>by have:=oY h;omega) λ_=>cr (show(0:Int)<=wrap .u64 i/\wrap .u64 i<18446744073709551616 by rw[e];omega) (aq λx ex=>bu ?_)
 rw[ex,e]
 show pS 20 i=_
 have:=xq 20 i.toNat (by omega) (by omega) (by omega)
 rw[eH h0]at this
 exact this
theorem Ti{n:Nat}:∀k,n<10^k->0<k->(Lib.decDigits n).length<=k:=by
 intro k
 induction k generalizing n with
 |zero=>intro _ h;exact absurd h (fO 0)
 |succ k ih=>
  intro h _
  rw[Lib.decDigits]
  split
  ·simp
  ·rename_i wg
   have hk:0<k:=by
    rcases fP k with rfl|hk
    ·simp at h;omega
    ·exact hk
   have:=ih (n:=n/10) (by rw[fF]at h;omega) hk
   simp;omega
theorem XF{p:List UInt8}(hp:p.length<=10){i:Int}(h0:0<=i)(h1:i<1000000000):(O1 p i).w (λr=>r=GP p i):=by
 unfold O1
 have hl:=Ti (n:=i.toNat) 9 (by omega) (by omega)
 have hm:maxLen=1000000000000\/100<=maxLen:=.inr (by decide)
 have hm:100<=maxLen:=by rcases hm with h|h<;>omega
 refine ax (dY (by omega)) (bm (zq h0 h1) λx ex=>ax (dY (by rw[ex];simp;omega)) (bu ?_))
 rw[ex];rfl
def scan(p:List UInt8)(l l':List Int)(rest:List UInt8)(i:Nat):Nat->List UInt8
 |0=>rest
 |n+1=>bif l.getD i 0 !=l'.getD i 0 then GP p i else scan p l l' rest (i+1) n
theorem LB{p:List UInt8}(hp:p≠[])(l l':List Int)(rest:List UInt8):∀(n i:Nat),scan p l l' rest i n=bif decide (scan p l l' [] i n=[])then rest else scan p l l' [] i n
 |0,i=>rfl
 |n +1,i=>by
  unfold scan
  cases h:(l.getD i 0 !=l'.getD i 0)with
  |true=>
   have:GP p i≠[]:=by unfold GP;simp
   simp[this]
  |false=>exact LB hp l l' rest n (i+1)
theorem LC{p:List UInt8}{l l':List Int}{rest F:List UInt8}{N:Int}{z:Int}(z0:0<=z)(z1:z<N)(h:F=scan p l l' rest z.toNat (N-z).toNat):
 ((l.getD z.toNat 0 !=l'.getD z.toNat 0)=true->GP p z=F)/\((l.getD z.toNat 0 !=l'.getD z.toNat 0)=false->F=scan p l l' rest (z+1).toNat (N-(z+1)).toNat):=by
 have e1:(N-z).toNat=(N-(z+1)).toNat+1:=by omega
 have e2:(z+1).toNat=z.toNat+1:=by omega
 rw[e1]at h
 unfold scan at h
 refine⟨λg=>?_,λg=>?_⟩
 ·rw[g]at h;rw[h]
  show _=GP p ((z.toNat:Nat):Int)
  rw[eH z0]
 ·rw[g]at h;rw[h,e2];rfl
theorem LD{p:List UInt8}{l l':List Int}{rest F:List UInt8}{N:Int}{z:Int}(z1:N<=z)(h:F=scan p l l' rest z.toNat (N-z).toNat):F=rest:=by
 rw[show(N-z).toNat=0 by omega]at h;exact h
def lW(a b:bg)(rest:List UInt8):List UInt8:=scan [120] (fv.l a.X) (fv.l b.X) (bif a.Pc !=b.Pc then[112,99]else scan [99,115,114] (A8.l a.B2) (A8.l b.B2) rest 0 8) 0 16
def Qi(a b:List Int)(rest:List UInt8):List UInt8:=bif((a.length:Int) !=(b.length:Int))then[109,101,109]else scan [109,101,109] a b rest 0 a.length
theorem vN(a b:bg):(IQ a b).w (λr=>r=lW a b []):=by
 unfold IQ
 refine fg (inv:=λz:Int=>0<=z/\z<=16/\lW a b []=scan [120] (fv.l a.X) (fv.l b.X) (bif a.Pc !=b.Pc then[112,99]else scan [99,115,114] (A8.l a.B2) (A8.l b.B2) [] 0 8) z.toNat (16-z).toNat) (μ:=Qcg a b) ⟨fH 0,by decide,rfl⟩ (cO _) λz ⟨z0,z1,hz⟩=>?_
 refine aa (λh=>?_) λh=>?_
 ·have h:z<16:=oY h
  obtain⟨g1,g2⟩:=LC z0 h hz
  have ew:i64.wrap (z+1)=z+1:=by rw[wrap_i64];omega
  refine ax (by simp[bJ];omega) (ax (by simp[bJ];omega) (aa (λe=>?_) λe=>ek ?_))
  ·refine cr (by show _/\_;omega) (aq λx ex=>ax (dY ?_) (bu ?_))
   ·have:=Ti (n:=z.toNat) 9 (by omega) (by omega)
    have hm:100<=maxLen:=by decide
    rw[ex];show 2+(Lib.decDigits z.toNat).length<=_;omega
   ·rw[ex];exact g1 e
  ·show(0<=i64.wrap (z+1)/\_)/\(16-i64.wrap (z+1)).toNat<(16-z).toNat
   rw[ew];exact⟨⟨by omega,by omega,g2 e⟩,by omega⟩
 ·have h:¬z<16:=oN h
  have hz:=LD (by omega) hz
  refine aa (λe=>bu ?_) λe=>?_
  ·rw[e]at hz;exact hz.symm
  rw[e]at hz
  refine fg (inv:=λz:Int=>0<=z/\z<=8/\lW a b []=scan [99,115,114] (A8.l a.B2) (A8.l b.B2) [] z.toNat (8-z).toNat) (μ:=Qce a b) ⟨fH 0,by decide,hz⟩ (cO _) λz ⟨z0,z1,hz⟩=>?_
  refine aa (λh=>?_) λh=>?_
  ·have h:z<8:=oY h
   obtain⟨g1,g2⟩:=LC z0 h hz
   have ew:i64.wrap (z+1)=z+1:=by rw[wrap_i64];omega
   refine ax (by simp[bJ];omega) (ax (by simp[bJ];omega) (aa (λe=>?_) λe=>ek ?_))
   ·refine cr (by show _/\_;omega) (aq λx ex=>ax (dY ?_) (bu ?_))
    ·have:=Ti (n:=z.toNat) 9 (by omega) (by omega)
     have hm:100<=maxLen:=by decide
     rw[ex];show 4+(Lib.decDigits z.toNat).length<=_;omega
    ·rw[ex];exact g1 e
   ·show(0<=i64.wrap (z+1)/\_)/\(8-i64.wrap (z+1)).toNat<(8-z).toNat
    rw[ew];exact⟨⟨by omega,by omega,g2 e⟩,by omega⟩
  ·have h:¬z<8:=oN h
   exact bu (LD (by omega) hz).symm
theorem qO{a b:List Int}(ha:a.length<=1000000):(IS a b).w (λr=>r=Qi a b []):=by
 unfold IS
 refine aa (λe=>bu ?_) λe=>?_
 ·unfold Qi;rw[e];rfl
 have hl:(a.length:Int)=b.length:=by simpa using e
 have GQ:Qi a b []=scan [109,101,109] a b [] 0 a.length:=by unfold Qi;rw[e];rfl
 refine fg (inv:=λz:Int=>0<=z/\z<=a.length/\Qi a b []=scan [109,101,109] a b [] z.toNat (a.length-z).toNat) (μ:=Qcf a b) ⟨fH 0,by omega,by rw[GQ,show((a.length:Int)-0).toNat=a.length by omega];rfl⟩ (cO _) λz ⟨z0,z1,hz⟩=>?_
 refine aa (λh=>?_) λh=>?_
 ·have h:z<a.length:=oY h
  obtain⟨g1,g2⟩:=LC z0 h hz
  have ew:i64.wrap (z+1)=z+1:=by rw[wrap_i64];omega
  refine ax (by simp[bJ];omega) (ax (by simp[bJ];omega) (aa (λe=>?_) λe=>ek ?_))
  ·refine cr (by show _/\_;omega) (aq λx ex=>ax (dY ?_) (bu ?_))
   ·have:=Ti (n:=z.toNat) 9 (by omega) (by omega)
    have hm:100<=maxLen:=by decide
    rw[ex];show 4+(Lib.decDigits z.toNat).length<=_;omega
   ·rw[ex];exact g1 e
  ·show(0<=i64.wrap (z+1)/\_)/\((a.length:Int)-i64.wrap (z+1)).toNat<((a.length:Int)-z).toNat
   rw[ew];exact⟨⟨by omega,by omega,g2 e⟩,by omega⟩
 ·have h:¬z<a.length:=oN h
  exact bu (LD (by omega) hz).symm
def lH(a b:au):List UInt8:=
 bif !eqs [D.str a.A2.C5] [D.str b.A2.C5]then[99,111,110,115,111,108,101]else bif !eqs [D.bool a.A7.C9,D.int .u32 a.A7.B8,D.bool a.A7.C8] [D.bool b.A7.C9,D.int .u32 b.A7.B8,D.bool b.A7.C8]then[116,105,109,101,114]else bif !eqs [D.int .u32 a.A6.ab,D.int .u32 a.A6.B9,D.int .u32 a.A6.Frame,D.int .i64 a.A6.B5,D.int .i64 a.A6.D1,D.int .u32 a.A6.B4,D.int .u32 a.A6.B0,D.str a.A6.B6] [D.int .u32 b.A6.ab,D.int .u32 b.A6.B9,D.int .u32 b.A6.Frame,D.int .i64 b.A6.B5,D.int .i64 b.A6.D1,D.int .u32 b.A6.B4,D.int .u32 b.A6.B0,D.str b.A6.B6]then[100,105,115,107]else bif !eqs [D.int .u32 a.C1.Frame,D.int .u32 a.C1.D6,D.bool a.C1.C2,D.int .u32 a.C1.B7,D.bool a.C1.B3,D.int .u32 a.C1.D8] [D.int .u32 b.C1.Frame,D.int .u32 b.C1.D6,D.bool b.C1.C2,D.int .u32 b.C1.B7,D.bool b.C1.B3,D.int .u32 b.C1.D8]then[110,105,99]else bif !eqs [D.int .u32 a.A1.C3,D.int .u32 a.A1.C0] [D.int .u32 b.A1.C3,D.int .u32 b.A1.C0]then[98,97,108,108,111,111,110]else bif a.A0 !=b.A0 then[99,111,117,110,116]else bif !a.A3==b.A3 then[119,97,105,116,105,110,103]else bif !a.A4==b.A4 then[104,97,108,116,101,100]else[]
theorem yq(a b:bg)(rest:List UInt8):lW a b rest=bif decide (lW a b []=[])then rest else lW a b []:=by
 unfold lW
 cases hp:(a.Pc !=b.Pc)with
 |true=>
  show scan _ _ _ [112,99] 0 16=bif decide (scan _ _ _ [112,99] 0 16=[])then _ else scan _ _ _ [112,99] 0 16
  rw[LB (by simp) (fv.l a.X) (fv.l b.X) [112,99] 16 0]
  cases h:decide (scan [120] (fv.l a.X) (fv.l b.X) [] 0 16=[])with
  |true=>rfl
  |false=>simp only[cond_false];rw[h];rfl
 |false=>
  show scan _ _ _ (scan _ _ _ rest 0 8) 0 16=bif decide (scan _ _ _ (scan _ _ _ [] 0 8) 0 16=[])then _ else scan _ _ _ (scan _ _ _ [] 0 8) 0 16
  rw[LB (by simp) (fv.l a.X) (fv.l b.X) (scan _ _ _ rest 0 8) 16 0,LB (by simp) (fv.l a.X) (fv.l b.X) (scan _ _ _ [] 0 8) 16 0]
  cases h:decide (scan [120] (fv.l a.X) (fv.l b.X) [] 0 16=[])with
  |true=>simp only[cond_true];exact LB (by simp) _ _ rest 8 0
  |false=>simp only[cond_false];rw[h];rfl
theorem Zo1(a b:List Int)(rest:List UInt8):Qi a b rest=bif decide (Qi a b []=[])then rest else Qi a b []:=by
 unfold Qi
 cases hp:((a.length:Int) !=(b.length:Int))with
 |true=>rfl
 |false=>exact LB (by simp) _ _ rest a.length 0
def lg(a b:au):List UInt8:=lW a.A9 b.A9 (Qi a.Mem b.Mem (lH a b))
theorem Zfz{a b:au}(ha:a.Mem.length<=1000000):(IU a b).w (λr=>r=lg a b):=by
 unfold IU
 refine bm (vN _ _) λx0 e0=>?_
 have h0:=yq a.A9 b.A9 (Qi a.Mem b.Mem (lH a b))
 rw[<-e0]at h0
 refine aa (λh=>bu ?_) λh=>?_
 ·have h:decide (x0=[])=false:=by simpa using h
  unfold lg;rw[h0,h];rfl
 have h:decide (x0=[])=true:=by simpa using h
 rw[h]at h0
 refine bm (qO ha) λx1 e1=>?_
 have h1:=Zo1 a.Mem b.Mem (lH a b)
 rw[<-e1]at h1
 refine aa (λh=>bu ?_) λh=>?_
 ·have h:decide (x1=[])=false:=by simpa using h
  unfold lg;rw[h0];show _=Qi _ _ _;rw[h1,h];rfl
 have h:decide (x1=[])=true:=by simpa using h
 rw[h]at h1
 have hF:lg a b=lH a b:=h0.trans h1
 rw[hF]
 exact aa (λe=>bu ((by unfold lH;rw[e];rfl))) λg0=>aa (λe=>bu ((by unfold lH;rw[g0];rw[e];rfl))) λg1=>aa (λe=>bu ((by unfold lH;rw[g0];rw[g1];rw[e];rfl))) λg2=>aa (λe=>bu ((by unfold lH;rw[g0];rw[g1];rw[g2];rw[e];rfl))) λg3=>aa (λe=>bu ((by unfold lH;rw[g0];rw[g1];rw[g2];rw[g3];rw[e];rfl))) λg4=>aa (λe=>bu ((by unfold lH;rw[g0];rw[g1];rw[g2];rw[g3];rw[g4];rw[e];rfl))) λg5=>aa (λe=>bu ((by unfold lH;rw[g0];rw[g1];rw[g2];rw[g3];rw[g4];rw[g5];rw[e];rfl))) λg6=>aa (λe=>bu ((by unfold lH;rw[g0];rw[g1];rw[g2];rw[g3];rw[g4];rw[g5];rw[g6];rw[e];rfl))) λg7=>bu ((by unfold lH;rw[g0];rw[g1];rw[g2];rw[g3];rw[g4];rw[g5];rw[g6];rw[g7];rfl))
theorem Zln{a b:au}(ha:a.Mem.length<=1000000):(O2 a b).w (λr=>r=lg a b):=by
 unfold O2
 refine fg (inv:=λz:Int=>0<=z/\z<=16/\lg a b=scan [120] (fv.l a.A9.X) (fv.l b.A9.X) (bif a.A9.Pc !=b.A9.Pc then[112,99]else scan [99,115,114] (A8.l a.A9.B2) (A8.l b.A9.B2) (Qi a.Mem b.Mem (lH a b)) 0 8) z.toNat (16-z).toNat) (μ:=Qgk a b) ⟨fH 0,by decide,rfl⟩ (cO _) λz ⟨z0,z1,hz⟩=>?_
 refine aa (λh=>?_) λh=>?_
 ·have h:z<16:=oY h
  obtain⟨g1,g2⟩:=LC z0 h hz
  have ew:i64.wrap (z+1)=z+1:=by rw[wrap_i64];omega
  refine ax (by simp[bJ];omega) (ax (by simp[bJ];omega) (aa (λe=>bm (XF (by simp) z0 (by omega)) λx ex=>bu ?_) λe=>ek ?_))
  ·show x=_;rw[ex];exact g1 e
  ·show(0<=i64.wrap (z+1)/\_)/\(16-i64.wrap (z+1)).toNat<(16-z).toNat
   rw[ew];exact⟨⟨by omega,by omega,g2 e⟩,by omega⟩
 have h:¬z<16:=oN h
 have hz:=LD (by omega) hz
 refine aa (λe=>bu ?_) λe=>?_
 ·rw[e]at hz;exact hz.symm
 rw[e]at hz
 refine fg (inv:=λz:Int=>0<=z/\z<=8/\lg a b=scan [99,115,114] (A8.l a.A9.B2) (A8.l b.A9.B2) (Qi a.Mem b.Mem (lH a b)) z.toNat (8-z).toNat) (μ:=Qhn a b) ⟨fH 0,by decide,hz⟩ (cO _) λz ⟨z0,z1,hz⟩=>?_
 refine aa (λh=>?_) λh=>?_
 ·have h:z<8:=oY h
  obtain⟨g1,g2⟩:=LC z0 h hz
  have ew:i64.wrap (z+1)=z+1:=by rw[wrap_i64];omega
  refine ax (by simp[bJ];omega) (ax (by simp[bJ];omega) (aa (λe=>bm (XF (by simp) z0 (by omega)) λx ex=>bu ?_) λe=>ek ?_))
  ·show x=_;rw[ex];exact g1 e
  ·show(0<=i64.wrap (z+1)/\_)/\(8-i64.wrap (z+1)).toNat<(8-z).toNat
   rw[ew];exact⟨⟨by omega,by omega,g2 e⟩,by omega⟩
 have h:¬z<8:=oN h
 have hz:=LD (by omega) hz
 refine aa (λe=>bu ?_) λe=>?_
 ·unfold Qi at hz;rw[e]at hz;exact hz.symm
 have hl:(a.Mem.length:Int)=b.Mem.length:=by simpa using e
 unfold Qi at hz
 rw[e]at hz
 refine fg (inv:=λz:Int=>0<=z/\z<=a.Mem.length/\lg a b=scan [109,101,109] a.Mem b.Mem (lH a b) z.toNat (a.Mem.length-z).toNat) (μ:=Qhm a b) ⟨fH 0,by omega,by rw[hz,show((a.Mem.length:Int)-0).toNat=a.Mem.length by omega];rfl⟩ (cO _) λz ⟨z0,z1,hz⟩=>?_
 refine aa (λh=>?_) λh=>?_
 ·have h:z<a.Mem.length:=oY h
  obtain⟨g1,g2⟩:=LC z0 h hz
  have ew:i64.wrap (z+1)=z+1:=by rw[wrap_i64];omega
  refine ax (by simp[bJ];omega) (ax (by simp[bJ];omega) (aa (λe=>bm (XF (by simp) z0 (by omega)) λx ex=>bu ?_) λe=>ek ?_))
  ·show x=_;rw[ex];exact g1 e
  ·show(0<=i64.wrap (z+1)/\_)/\((a.Mem.length:Int)-i64.wrap (z+1)).toNat<((a.Mem.length:Int)-z).toNat
   rw[ew];exact⟨⟨by omega,by omega,g2 e⟩,by omega⟩
 have h:¬z<a.Mem.length:=oN h
 have hz:=LD (by omega) hz
 show Tree.w _ _
 rw[hz]
 exact aa (λe=>bu ((by unfold lH;rw[e];rfl))) λg0=>aa (λe=>bu ((by unfold lH;rw[g0];rw[e];rfl))) λg1=>aa (λe=>bu ((by unfold lH;rw[g0];rw[g1];rw[e];rfl))) λg2=>aa (λe=>bu ((by unfold lH;rw[g0];rw[g1];rw[g2];rw[e];rfl))) λg3=>aa (λe=>bu ((by unfold lH;rw[g0];rw[g1];rw[g2];rw[g3];rw[e];rfl))) λg4=>aa (λe=>bu ((by unfold lH;rw[g0];rw[g1];rw[g2];rw[g3];rw[g4];rw[e];rfl))) λg5=>aa (λe=>bu ((by unfold lH;rw[g0];rw[g1];rw[g2];rw[g3];rw[g4];rw[g5];rw[e];rfl))) λg6=>aa (λe=>bu ((by unfold lH;rw[g0];rw[g1];rw[g2];rw[g3];rw[g4];rw[g5];rw[g6];rw[e];rfl))) λg7=>bu ((by unfold lH;rw[g0];rw[g1];rw[g2];rw[g3];rw[g4];rw[g5];rw[g6];rw[g7];rfl))
theorem O3{α:Type}{k:Bool->α}{W:α->Prop}(h:W (k true)):(Tree.an Lz (.lv GO λx=>.lf (k x))).w W:=by
 obtain⟨p,q⟩:=Tree.pp GN
 exact cr p (aq λx e=>by show W (k x);rw[e,show GO=true from q];exact h)
theorem Tj(p:List UInt8)(l l':List Int)(rest:List UInt8):∀(n i:Nat),scan p l' l rest i n=scan p l l' rest i n
 |0,i=>rfl
 |n+1,i=>by
  unfold scan
  rw[Tj p l l' rest n (i+1),bne_comm]
theorem Tk{p:List UInt8}{l l':List Int}{rest:List UInt8}:∀(n i:Nat),scan p l l' rest i n=[]->rest=[]/\∀j,i<=j->j<i+n->l.getD j 0=l'.getD j 0
 |0,i,h=>⟨h,λj h1 h2=>by omega⟩
 |n +1,i,h=>by
  unfold scan at h
  cases e:(l.getD i 0 !=l'.getD i 0)with
  |true=>
   rw[e]at h
   have h:GP p i=[]:=h
   unfold GP at h;simp at h
  |false=>
   rw[e]at h
   obtain⟨h1,h2⟩:=Tk n (i+1) h
   have e:l.getD i 0=l'.getD i 0:=by simpa using e
   refine⟨h1,λj a b=>?_⟩
   by_cases ej:j=i
   ·rw[ej];exact e
   ·exact h2 j (by omega) (by omega)
theorem Tl(p:List UInt8)(l rest:List Int)(r:List UInt8):∀(n i:Nat),scan p l l r i n=r
 |0,i=>rfl
 |n+1,i=>by
  unfold scan
  rw[bne_self_eq_false]
  exact Tl p l rest r n (i+1)
theorem xO(a b:bg)(r:List UInt8):lW b a r=lW a b r:=by
 unfold lW
 rw[bne_comm (a:=b.Pc),Tj [99,115,114] (A8.l a.B2) (A8.l b.B2),Tj]
theorem vq(a b:List Int)(r:List UInt8):Qi b a r=Qi a b r:=by
 unfold Qi
 rw[bne_comm (a:=(b.length:Int))]
 cases e:((a.length:Int) !=(b.length:Int))with
 |true=>rfl
 |false=>
  have e:a.length=b.length:=by
   have e:(a.length:Int)=b.length:=by simpa using e
   omega
  rw[Tj,e]
theorem zO{a b:bg}{r:List UInt8}(h:lW a b r=[]):a=b/\r=[]:=by
 unfold lW at h
 obtain⟨h,hx⟩:=Tk _ _ h
 cases e:(a.Pc !=b.Pc)with
 |true=>rw[e]at h;cases h
 |false=>
  rw[e]at h
  obtain⟨h,hc⟩:=Tk _ _ h
  have e':a.Pc=b.Pc:=by simpa using e
  clear e
  have x1:fv.l a.X=fv.l b.X:=Tg rfl λi hi=>hx i (by omega) (by have:(fv.l a.X).length=16:=rfl;omega)
  have c1:A8.l a.B2=A8.l b.B2:=Tg rfl λi hi=>hc i (by omega) (by have:(A8.l a.B2).length=8:=rfl;omega)
  have k1:=vp x1
  have k3:=vZ c1
  refine⟨?_,h⟩
  clear hx hc x1 c1 h
  obtain⟨_,_,_⟩:=a
  obtain⟨_,_,_⟩:=b
  simp only at k1 e' k3
  subst k1 e' k3;rfl
theorem qr{a b:List Int}{r:List UInt8}(h:Qi a b r=[]):a=b/\r=[]:=by
 unfold Qi at h
 cases e:((a.length:Int) !=(b.length:Int))with
 |true=>rw[e]at h;cases h
 |false=>
  rw[e]at h
  have e:a.length=b.length:=by
   have e:(a.length:Int)=b.length:=by simpa using e
   omega
  obtain⟨h1,h2⟩:=Tk _ _ h
  exact⟨Tg e λi hi=>h2 i (by omega) (by omega),h1⟩
theorem O4{A:Type}{f:A->List D}(g:∀{a b:A},eqs (f a) (f b)=true↔a=b)(a b:A):eqs (f b) (f a)=eqs (f a) (f b):=by
 rw[eI,g,g]
 exact⟨λh=>h.symm,λh=>h.symm⟩
theorem qaq(a b:au):lH b a=lH a b:=by
 unfold lH
 rw[O4 (f:=λc:iO=>[D.str c.C5]) OV a.A2 b.A2,
  O4 (f:=λc:iS=>[D.bool c.C9,D.int .u32 c.B8,D.bool c.C8]) OW a.A7 b.A7,
  O4 (f:=λc:fe=>[D.int .u32 c.ab,D.int .u32 c.B9,D.int .u32 c.Frame,D.int .i64 c.B5,D.int .i64 c.D1,D.int .u32 c.B4,D.int .u32 c.B0,D.str c.B6]) OX a.A6 b.A6,
  O4 (f:=λc:gq=>[D.int .u32 c.Frame,D.int .u32 c.D6,D.bool c.C2,D.int .u32 c.B7,D.bool c.B3,D.int .u32 c.D8]) OY a.C1 b.C1,
  O4 (f:=λc:gh=>[D.int .u32 c.C3,D.int .u32 c.C0]) OZ a.A1 b.A1,
  bne_comm (a:=b.A0)]
 rw[show(b.A3==a.A3)=(a.A3==b.A3) by cases a.A3<;>cases b.A3<;>rfl,show(b.A4==a.A4)=(a.A4==b.A4) by cases a.A4<;>cases b.A4<;>rfl]
theorem IV{c:Bool}{x:UInt8}{l r:List UInt8}(h:(bif !c then x::l else r)=[]):c=true/\r=[]:=by
 cases c with
 |true=>exact⟨rfl,h⟩
 |false=>cases h
theorem yO{a b:Int}{x:UInt8}{l r:List UInt8}(h:(bif a !=b then x::l else r)=[]):a=b/\r=[]:=by
 cases e:(a !=b)with
 |true=>rw[e]at h;cases h
 |false=>rw[e]at h;exact⟨by simpa using e,h⟩
theorem vO(a b:au):lg b a=lg a b:=by
 unfold lg
 rw[qaq,vq,xO]
theorem qP{a b:au}(h:lg a b=[]):a=b:=by
 unfold lg at h
 obtain⟨h1,h⟩:=zO h
 obtain⟨h2,h⟩:=qr h
 unfold lH at h
 obtain⟨g1,h⟩:=IV h
 obtain⟨g2,h⟩:=IV h
 obtain⟨g3,h⟩:=IV h
 obtain⟨g4,h⟩:=IV h
 obtain⟨g5,h⟩:=IV h
 obtain⟨g6,h⟩:=yO h
 obtain⟨g7,h⟩:=IV h
 obtain⟨g8,h⟩:=IV h
 exact Z13 h1 h2 (OV.1 g1) (OW.1 g2) (OX.1 g3) (OY.1 g4) (OZ.1 g5) g6 (eq_of_beq g7) (eq_of_beq g8)
theorem xr(a:au):lg a a=[]:=by
 unfold lg lW Qi lH
 rw[bne_self_eq_false,bne_self_eq_false,bne_self_eq_false,OV.2 rfl,OW.2 rfl,OX.2 rfl,OY.2 rfl,OZ.2 rfl,beq_self_eq_true,beq_self_eq_true]
 simp only[Bool.not_true,cond_false]
 rw[Tl _ _ [],Tl _ _ [],Tl _ _ []]
theorem xP{a b:au}:lg a b=[]↔a=b:=⟨qP,λe=>by rw[e];exact xr b⟩
theorem zaq{P:Nat}{m:au}(h:kH P m){clock:Int}(hc:U clock):(Lo m clock).w (λr=>kH P r.1):=by
 unfold Lo
 have ow:(FX m).w (λx=>x=m):=by
  unfold FX
  exact bm (y7 h.mem) λx ex=>bu (by rw[ex])
 refine bm ow λx0 e0=>?_
 subst e0
 exact bm (xaw _) λx1 _=>aa (λ_=>bu h) λ_=>bm (Sf h hc) λx2 h2=>bu h2.2.1
theorem Zmt(kind:Int)(prog:List Int)(steps n:Int)(hl:prog.length*8<=reachBytes):Qbo kind prog steps n/\Qap kind prog steps n=true:=by
 have aw:=XD (W:=λr=>r=true) rfl
 refine Tree.pp (W:=λr=>r=true) ?_
 unfold Tm
 refine aa (λ_=>aw) λb1=>aa (λ_=>aw) λb2=>aa (λ_=>aw) λb3=>?_
 have f1:prog.length<=60:=by have:=oN b1;omega
 have f2:0<=steps:=by have:=oN b2;omega
 have f3:steps<=40:=by have:=oN b3;omega
 refine bm (Zhg kind prog hl f1) λm hm=>?_
 have lm:m.Mem.length<=1000000:=by have:=hm.mem.len;omega
 refine fg (inv:=λv:Int×au=>0<=v.1/\v.1<=steps/\kH 8 v.2) (μ:=Qa1 kind prog steps n) ⟨fH 0,f2,hm⟩ (cO _) λv ⟨v0,v1,v2⟩=>?_
 obtain⟨z,b⟩:=v
 have v0:0<=z:=v0
 have v1:z<=steps:=v1
 have v2:kH 8 b:=v2
 refine aa (λh=>?_) λh=>?_
 ·have h:z<steps:=oY h
  have ew:i64.wrap (z+1)=z+1:=by rw[wrap_i64];omega
  have uc:U (u32.wrap n):=by unfold U;rw[wrap_u32];omega
  refine bm (zaq v2 uc) λx4 h4=>ek ?_
  show(0<=i64.wrap (z+1)/\i64.wrap (z+1)<=steps/\kH 8 x4.1)/\(steps-i64.wrap (z+1)).toNat<(steps-z).toNat
  rw[ew];exact⟨⟨by omega,by omega,h4⟩,by omega⟩
 have lb:b.Mem.length<=1000000:=by have:=v2.mem.len;omega
 refine bm (Zfz (a:=m) (b:=b) lm) λx5 e5=>bm (yN (a:=m) (b:=b) lm) λx6 e6=>?_
 refine aa (λ_=>?_) λh=>?_
 ·refine bm (Zln (a:=m) (b:=b) lm) λx7 e7=>aa (λ_=>?_) λh=>absurd (e5.trans e7.symm) (oN h)
  refine bm (Zfz (a:=b) (b:=m) lb) λx8 e8=>aa (λ_=>O3 rfl) λh=>absurd (e8.trans ((vO m b).trans e5.symm)) (oN h)
 ·have k:decide (x5=[])=x6:=by
   rw[eI,e6,decide_eq_true_iff,e5]
   exact xP
  rw[k]at h;simp at h
