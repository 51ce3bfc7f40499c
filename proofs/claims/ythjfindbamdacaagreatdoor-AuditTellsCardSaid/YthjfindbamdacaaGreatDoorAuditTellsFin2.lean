import Derived.Test.YthjfindbamdacaaGreatDoorAuditTellsFin1
open Nat renaming lt_succ_self->cO,le_refl->aO,pow_succ->fG,blt->bJ,zero_le->aT,beq->bT,lt_irrefl->fO,eq_zero_or_pos->fP
open List renaming replicate->cP,length_singleton->cX,append_assoc->fF,length_replicate->cU,mem_cons->cR,not_mem_nil->cS,length_cons->dH,length->dJ,length_map->fH,map_append->bL,getD_eq_getElem?_getD->dC,getElem?_eq_getElem->cG,getElem_mem->fJ,drop_eq_getElem_cons->aB,drop_eq_nil_of_le->aA,append_nil->cJ,length_nil->dI,nil_append->fK,take->cZ,drop->dA,take_of_length_le->fL,length_drop->bF,getElem?_map->fM,length_take->bD,length_set->dG,getElem_map->bO
open Int renaming tmod_eq_emod_of_nonneg->eD,toNat_natCast->eC,le_refl->fI,toNat_of_nonneg->eG
open BitVec renaming ofInt->dV
open Bool renaming true_and->fN
set_option maxRecDepth 100000
set_option linter.all false
namespace Go.Proofs.YthjfindbamdacaaGreatDoor
open Go Go.GD
open Go.IntKind(wrap i64 u32 u64 wrap_i64 wrap_u64 wrap_u8 wrap_i32)
attribute [local irreducible] Lb
def Tree.V{β:Type}(t:Tree β)(W:β->Prop):Prop:=W t.m
section
variable {α β:Type} {W:β->Prop} {c:Bool} {t e:Tree β}
theorem dc{x:β}(h:W x):Tree.V (.lf x) W:=h
theorem FG{f:Prop}{x:β}{hf:f}(h:W x):Tree.V (.nx f x hf) W:=h
theorem dj(h:c=true->Tree.V t W)(g:c=false->Tree.V e W):Tree.V (.br c t e) W:=by
 cases c
 ·exact g rfl
 ·exact h rfl
theorem oD(g:Tree.V t W):Tree.V (.cn c t) W:=g
theorem iq{p:Prop}(g:Tree.V t W):Tree.V (.an p t) W:=g
theorem fp{x:α}{k:α->Tree β}(h:∀y,y=x->Tree.V (k y) W):Tree.V (.lv x k) W:=h x rfl
theorem AU{d:Inhabited β}{n:Nat}{f:Prop}{x:α}{k:α->Tree (α⊕β)}{hf:f}{inv:α->Prop}{μ:α->Nat}(h:inv x)(hn:μ x<n)(g:∀y,inv y->Tree.V (k y) (Sum.elim (λz=>inv z/\μ z<μ y) W)):Tree.V (.lp d n f x k hf) W:=by
 refine qas (P:=inv) (R:=W) (μ:=μ) (λa ha=>?_) n x h hn
 have:=g a ha
 unfold Tree.V at this
 revert this
 cases(k a).m with
 |inl z=>exactλh=>h
 |inr b=>exactλh=>h
end
structure ei(P:Nat)(m:ao):Prop where
 ok:oA P m
 may:mM m=true
section
variable {P:Nat} {m:ao} (h:ei P m)
include h
theorem ei.v:oC m:=⟨h.ok.lY,h.ok.mem.u,h.ok.kM,h.ok.r7,h.ok.target,h.ok.pV⟩
theorem ei.s:rA P m:=⟨h.ok.lY,h.ok.mem,h.ok.kM,h.ok.r7,h.ok.target.1,h.ok.target.2⟩
theorem ei.Jl:sd m=true:=(Jh h.v).symm.trans h.may
theorem Yj{e:j9}(he:U e.N):ei P (pX m e).2/\(pX m e).2.A0=m.A0:=by
 have o:oA P (pX m e).2:=Tree.post _ (Zmr h.ok he)
 have a:=(Tree.pp (Znu h.ok he)).2
 change(mM m=true->mM (Md m e).1=true)/\(Md m e).1.A0=m.A0/\_ at a
 have e1:O0 m e=((pX m e).2,(pX m e).1):=by
  simp only[O0,T9,Tree.m,dk,Jk,h.Jl];rfl
 rw[Zag h.v e,e1]at a
 exact⟨⟨o,a.1 h.may⟩,a.2.1⟩
theorem Jm:rF m=false↔m.A6=false/\pz m=false/\m.A0<1152921504606846976:=by
 simp only[rF,T0,Tree.m,dk,h.Jl]
 cases m.A6<;>cases pz m<;>simp
theorem Me(hs:rF m=false){clock:Int}(hc:U clock):ei P (ez m clock).2/\(ez m clock).2.A0=m.A0+1/\(ez m clock).1.length<=1:=by
 have o:=Tree.post _ (WU h.ok hc)
 change(ez m clock).1.length<=1/\oA P (ez m clock).2/\(ez m clock).2.A0=wrap .u64 (m.A0+1)at o
 have s:=(Tree.pp (vh h.s h.ok.pV hc)).2
 change _/\Good P m (AT m clock).1 at s
 have e:AT m clock=((ez m clock).2,(ez m clock).1):=by rw[Zhs h.v,Yf,hs];rfl
 rw[e]at s
 have Of:=((Jm h).1 hs).2.2
 have h0:=h.ok.pV
 refine⟨⟨o.2.1,s.2.may h.may⟩,?_,o.1⟩
 rw[o.2.2,wrap_u64];omega
end
structure O2(P:Nat)(k:Int)(r:pP):Prop where
 m:ei P r.B2
 clock:U r.BQ
 pV:r.B2.A0<=k
def okQ(l:List j9):Prop:=l.length<=16/\∀q∈l,U q.N
theorem Yk{i:List Int}(hu:∀w∈i,U w)(hl:i.length<=256):ei 8 (lz 8 4 i).1/\(lz 8 4 i).1.A0=0:=by
 obtain⟨a,b⟩:=(Tree.pp (sO i hu hl)).2
 change oA 8 (lz 8 4 i).1 at a
 refine⟨⟨a,?_⟩,b⟩
 have e:(lz 8 4 i).2=true:=by
  have w:i64.wrap (8*32)=256:=by decide
  simp only[lz,Ec,Tree.m,w,dk,dN (show¬((i.length:Int)>256) by omega)]
  rfl
 obtain⟨a1,a2,a3,a4,a5,a6⟩:=qaG 8 4 i e
 exact(zaG _ 8 4 a1 a2 a3 a4 a5 _ a6).1
theorem ql{m:ao}(h:ei 8 m)(hc:m.A0<=87):Tree.V (Fo m [] 87) (λx=>x.2.2.2=0->ei 8 x.1/\x.1.A0<=87):=by
 have z:∀{k:Int} {p:Prop},k≠0->k=0->p:=λa b=>absurd b a
 unfold Fo
 refine fp λx0 _=>dj (λ_=>dc (z (by decide))) λ_=>dj (λ_=>dc (z (by decide))) λ_=>dj (λ_=>dc (z (by decide))) λ_=>iq (fp λx1 _=>dj (λ_=>dc (z (by decide))) λ_=>iq (fp λx2 hx=>?_))
 rw[Jk]at hx
 refine AU (inv:=λv:ao×List fc=>ei 8 v.1/\v.1.A0<=87) (μ:=S8 m [] 87) ⟨by rw[hx];exact h,by rw[hx];exact hc⟩ (cO _) λv0 ⟨a1,a3⟩=>?_
 have a2:=a1.ok.pV
 refine dj (λhb=>dj (λhm=>?_) (λ_=>dc λ_=>⟨a1,a3⟩)) (λ_=>dc λ_=>⟨a1,a3⟩)
 have hb:=oY hb
 have hm:=oY hm
 refine AU (inv:=λ_=>True) (μ:=S9 m [] 87 v0) trivial (cO _) λv1 _=>?_
 refine dj (λ_=>dc λ_=>⟨a1,a3⟩) λhh=>iq (fp λx3 h3=>dj (λ_=>dc λ_=>⟨a1,a3⟩) λhi=>iq (fp λx4 _=>dj (λ_=>dc (z (by decide))) λ_=>iq (fp λx5 h5=>oD (FG ?_))))
 obtain⟨b1,b2,_⟩:=Me a1 ((Jm a1).2 ⟨hh,h3.symm.trans hi,hm⟩) (clock:=0) ep
 rw[<-h5]at b1 b2
 show(ei 8 x5.2/\x5.2.A0<=87)/\(87-x5.2.A0).toNat<(87-v0.1.A0).toNat
 exact⟨⟨b1,by omega⟩,by omega⟩
theorem Zfj(kind:Int)(l:List Int)(hl:l.length*8<=reachBytes)(Yl:l.length<=60):ei 8 (Mf kind l)/\(Mf kind l).A0<=87:=by
 show Tree.V (Fs kind l) (λm=>ei 8 m/\m.A0<=87)
 have code:=(Tree.pp (S4 l hl)).2
 change((Mg l).length:Int)=l.length/\∀w∈Mg l,U w at code
 obtain⟨b1,b2⟩:=code
 unfold Fs
 refine iq (fp λx0 nK=>dj (λ_=>iq (fp λx1 e1=>?_)) (λhk=>?_))
 ·have eb:x1.1=lJ:=by rw[e1];rfl
  obtain⟨q1,q2⟩:lJ.length<=160/\∀w∈lJ,U w:=Ta
  refine AU (inv:=λv:List Int=>v.length<=160/\v=lJ++cP (v.length-lJ.length) 0) (μ:=Td kind l) ⟨by rw[eb];exact q1,by rw[eb];simp⟩ (cO _) λv0 ⟨a1,a2⟩=>?_
  have a3:lJ.length<=v0.length:=by rw[a2,lA];omega
  refine dj (λhb=>?_) (λhb=>?_)
  ·have hb:=oY hb
   refine oD (FG ?_)
   show(_/\_)/\(_:Nat)<_
   refine⟨⟨by rw[lA,cX];omega,?_⟩,by show 160-(v0++[0]).length<160-v0.length;rw[lA,cX];omega⟩
   show v0++[0]=lJ++cP ((v0++[0]).length-lJ.length) 0
   rw[lA,cX,show v0.length+1-lJ.length=(v0.length-lJ.length)+1 by omega,List.replicate_succ',<-fF,<-a2]
  ·have hb:=oN hb
   have hv:v0=Ed:=by
    unfold Ed
    rw[show(160:Nat)=v0.length by omega]
    exact a2
   subst hv
   have hp:=xac
   have hu0:∀w∈Ed,U w:=λw hw=>(List.mem_append.1 hw).elim (q2 w) (wP _ w)
   refine iq (fp λx2 e2=>oD ?_)
   rw[<-e2]at b1 b2
   have hu:∀w∈Ed++x2,U w:=λw hw=>(List.mem_append.1 hw).elim (hu0 w) (b2 w)
   have hlen:(Ed++x2).length<=256:=by rw[lA];omega
   refine dj (λhb=>?_) (λhb=>?_)
   ·have hb:=oY hb;omega
   ·obtain⟨c1,c2⟩:=Yk hu hlen
    refine iq (fp λx3 h3=>?_)
    rw[<-h3]at c1 c2
    have rn:=ql c1 (by omega)
    refine dj (λ_=>iq (fp λx4 hx=>dc ?_)) (λ_=>dc ⟨c1,by omega⟩)
    have e:x3=lz 8 4 (Ed++(x2++cP (96-x2.length) 0)):=by
     rw[h3]
     have Ua:(x2++cP (96-x2.length) (0:Int)).length=96:=by rw[lA,cU];omega
     refine zac _ _ hlen (by rw[lA,Ua];omega) ?_
     rw[lA,lA,Ua,hp,fF,fF,fF,show 256-(160+96)=0 by omega,show 256-(160+x2.length)=96-x2.length by omega]
     simp
    have h0:x4.2.2.2=0:=by
     rw[hx,e]
     exact xat _ (by rw[lA,cU];omega)
    exact(by rw[hx];exact rn:x4.2.2.2=0->ei 8 x4.1/\x4.1.A0<=87) h0
 ·have hk:=oN hk
  refine iq (fp λx2 e2=>oD ?_)
  rw[<-e2]at b1 b2
  refine dj (λhb=>?_) (λhb=>?_)
  ·have hb:=oY hb;omega
  ·obtain⟨c1,c2⟩:=Yk b2 (by omega)
   refine iq (fp λx3 h3=>?_)
   rw[<-h3]at c1 c2
   exact dj (λh=>absurd (eq_of_beq h) (by omega)) (λ_=>dc ⟨c1,by omega⟩)
theorem Zpd(w:Int):wrap .i64 (rC w).1.bo=(rC w).1.bo:=by
 show Tree.V (GX w) (λr=>wrap .i64 r.1.bo=r.1.bo)
 have e:∀x,wrap .i64 (wrap .i32 x)=wrap .i32 x:=λx=>by rw[wrap_i64,wrap_i32];omega
 unfold GX
 refine fp λx0 _=>?_
 have l:∀i:gm,wrap .i64 i.bo=i.bo->Tree.V (Tree.lv (Ek i) λx=>.br (!x) (.lf ((⟨0,0,0,0,0⟩:gm),false)) (.lf (i,true))) (λr=>wrap .i64 r.1.bo=r.1.bo):=λi hi=>fp λx hx=>dj (λ_=>dc rfl) (λhb=>dc hi)
 exact dj (λ_=>dc rfl) (λ_=>dj (λ_=>l _ rfl) (λ_=>dj (λ_=>l _ (e _)) (λ_=>dj (λ_=>l _ (e _)) (λ_=>l _ (e _)))))
def CH(e:kY):Bool:=bif e.C3==1 then e.C7==2 else false
def uO(c:bg)(m:List Int):Bool:=
 bif bc .u32 c.B1.a0 1==0 then false else bif(kW m c.Pc 4).2 then bif(rC (kW m c.Pc 4).1).2 then bif(rC (kW m c.Pc 4).1).1.Op==60 then(rC (kW m c.Pc 4).1).1.bo==2 else false else false else false
theorem xl(m:ao):lR m=uO (nt m) m.Mem:=rfl
theorem zay(c:bg)(i:gm):CH (TF c i).2=(bif i.Op==60 then wrap .i64 i.bo==2 else false):=by
 show Tree.V (Jn c i) (λr=>CH r.2=_)
 have no:∀{k:Int},i.Op=k->k≠60->∀e:kY,e.C3≠1->CH e=(bif i.Op==60 then wrap .i64 i.bo==2 else false):=λh g e he=>by
  unfold CH
  rw[h,show(_==(60:Int))=false from beq_false_of_ne g,show(e.C3==1)=false from beq_false_of_ne he];rfl
 have eq:∀{k:Int},(i.Op==k)=true->i.Op=k:=λh=>eq_of_beq h
 unfold Jn
 refine dj (λh=>fp λ_ _=>dc (no (eq h) (by decide) _ (show(0:Int)≠1 by decide))) λ_=>dj (λh=>fp λ_ _=>dc (no (eq h) (by decide) _ (show(0:Int)≠1 by decide))) λ_=>dj (λh=>oD (iq (fp λ_ _=>dc (no (eq h) (by decide) _ (show(0:Int)≠1 by decide))))) λ_=>dj (λh=>oD (iq (fp λ_ _=>dc (no (eq h) (by decide) _ (show(0:Int)≠1 by decide))))) λ_=>dj (λh=>dc ?_) λtP=>?_
 ·show(bif(1:Int)==1 then wrap .i64 i.bo==2 else false)=_
  rw[h];rfl
 ·have n60:i.Op≠60:=λe=>by rw[e]at tP;cases tP
  refine dj (λh=>oD (dc (no (eq h) (by decide) _ (by show(2:Int)≠1;decide)))) λ_=>dj (λh=>dc (no (eq h) (by decide) _ (show(3:Int)≠1 by decide))) λ_=>dj (λh=>dc (no (eq h) (by decide) _ (show(5:Int)≠1 by decide))) λ_=>dj (λh=>dc (no (eq h) (by decide) _ (show(4:Int)≠1 by decide))) λ_=>dc (no rfl n60 _ (show(0:Int)≠1 by decide))
theorem zl(c:bg)(m:List Int)(i:gm):CH (oX c m i).2.1=(bif i.Op==60 then wrap .i64 i.bo==2 else false):=by
 unfold oX
 cases h:decide (i.Op>=56)
 ·have h:=oN h
  rw[show(i.Op==60)=false from beq_false_of_ne (by omega)]
  cases decide (i.Op>=40)<;>cases decide (i.Op>=32)<;>cases i.Op==24<;>cases decide (i.Op<=13)<;>rfl
 ·exact zay c i
theorem zK{P:Nat}{m:List Int}(h:ey P m){c:bg}(hc:iM c)(j0:c.B1.a0<=31):CH (uL c m).2.1=uO c m:=by
 rw[G7]
 unfold uO
 cases hk:bc .u32 c.B1.a0 1==0
 ·have hp:TC c=false:=by
   rw[Z8n hc.a0.1 j0,show G3 c=true from by show(bc .u32 c.B1.a0 1 !=0)=true;rw[bne,hk];rfl]
   rfl
  have wi:=LC h hc.pc (size:=4) (.inr rfl)
  have kn:LI 1=true:=rfl
  have p0:=hc.pc.1
  have tm:Int.tmod c.Pc (wrap .u32 4)=c.Pc%4:=by
   rw[show wrap .u32 4=4 from rfl,eD p0]
  have rc:lL c m c.Pc 4 1=bif c.Pc%4 !=0 then(0,3,m)else bif !r8 m c.Pc 4 then(0,tM 1,m)else(c.Pc,0,m):=by
   simp only[lL,G4,Tree.m,dk,kn,hp,tm]
   rfl
  rw[rc]
  cases h4:(c.Pc%4 !=0)
  ·cases hw:r8 m c.Pc 4
   ·have l2:(kW m c.Pc 4).2=false:=by
     simp only[kW,AQ,Tree.m,dk,hw];rfl
    rw[l2]
    show CH (Et c (0,tM 1,m) _ _).2.1=false
    unfold Et
    rw[show((0,tM 1,m):Int×Int×List Int).2.1=tM 1 from rfl,show(tM 1 !=0)=true by decide]
    rfl
   ·have l2:(kW m c.Pc 4).2=true:=by
     simp only[kW,AQ,Tree.m,dk,hw];rfl
    rw[l2]
    show CH (Et c (c.Pc,0,m) (kW m c.Pc 4).1 (rC (kW m c.Pc 4).1)).2.1=_
    have im:=Zpd (kW m c.Pc 4).1
    generalize kW m c.Pc 4=x at*
    generalize rC x.1=d at*
    unfold Et
    cases d.2
    ·rfl
    ·rw[hk]
     have:=zl c m d.1
     rw[im]at this
     cases GV d.1.Op<;>exact this
  ·have hw:r8 m c.Pc 4=false:=by
    rw[wi]
    refine dN λe=>?_
    rw[e.1]at h4;cases h4
   have l2:(kW m c.Pc 4).2=false:=by
    simp only[kW,AQ,Tree.m,dk,hw];rfl
   rw[l2];rfl
 ·have us :∀x w d,CH (Et c x w d).2.1=false:=λx w d=>by
   unfold Et
   cases x.2.1 !=0
   ·cases d.2
    ·rfl
    ·cases hp:GV d.1.Op
     ·have:=zl c x.2.2 d.1
      rw[show(d.1.Op==60)=false from beq_false_of_ne λe=>by rw[e]at hp;cases hp]at this
      exact this
     ·rw[hk];rfl
   ·rfl
  exact us _ _ _
theorem Zq1{m:ao}(h:oC m):O3 m=Ym m:=by
 have rd:Ym m=bif rF m then false else lR m:=rfl
 have pd:O3 m=bif !AM m then false else CH (wU (nu m).A7 (nu m).Mem).2.2:=rfl
 rw[rd,pd,TZ h]
 cases hs:rF m
 ·have hr:AM m=true:=by rw[TZ h,hs];rfl
  obtain⟨hm,hh,Of⟩:=To hr
  obtain⟨g1,g2,g3,g4,g5⟩:=(GP m).1 hm
  rcases(OX m.Mem h.mem).2 with c|⟨P,hP,gv⟩
  ·exact absurd c g1
  have Yh:rA P m:=⟨h.lY,gv,h.kM,h.r7,h.tO.1,h.tO.2⟩
  obtain⟨b1,b2,b3,_⟩:=(Tree.pp (Xf Yh g2)).2
  change mO (nu m).A7 at b1
  change rA P (nu m)at b2
  have be:=Z8l h g2.st
  have T8:mO (nt m):=by have:=b1;rw[be]at this;exact this
  have Mc:iM (nt m):=by have:=b2.lY;rw[be]at this;exact this
  have ex:=Zgg gv Mc T8.st
  rw[be,xl,<-zK gv Mc T8.st]
  show CH (wU (nt m) m.Mem).2.2=_
  rw[ex];rfl
 ·rfl
theorem zaj{m:ao}(h:U m.A1.C0):Yn m:=by
 show(Hd m).p
 unfold Tree.p Hd
 refine ab (λ_=>cu ?_ (au λ_ _=>trivial)) (λ_=>trivial)
 show(Hc m).p
 unfold Tree.p Hc
 exact bh (Zmj h) λ_ _=>trivial
theorem Zmd{P:Nat}{m:ao}(h:rA P m):(O4 m).w (λ_=>True):=by
 unfold O4
 exact bh (Xi h.given) λ_ _=>ab (λ_=>trivial) (λ_=>bh (yQ h) λx1 h1=>bh (xx h1.lY h1.mem) λx2 _=>ab (λ_=>trivial) (λ_=>trivial))
section
variable {P:Nat} {m:ao} (h:ei P m)
include h
theorem ei.len:m.Mem.length<=1024:=by have:=h.ok.mem.len;have:=h.ok.mem.p2;omega
theorem ei.app(e:j9):Md m e=((pX m e).2,(pX m e).1):=by
 rw[Zag h.v]
 simp only[O0,T9,Tree.m,dk,Jk,h.Jl];rfl
theorem ei.step(hs:rF m=false)(clock:Int):AT m clock=((ez m clock).2,(ez m clock).1):=by
 rw[Zhs h.v,Yf,hs];rfl
theorem ei.idle:Lw m=pz m:=Zhw h.v
end
structure Jak(P:Nat)(k:Int)(r:pP):Prop where
 g:O2 P k r
 q:okQ r.Queue
 l:(r.Log.length:Int)<=3*k
theorem ju{t:kO}{ts:List kO}{es:List D}(h:Fits (t::ts) es):∃d ds,es=d::ds/\Fit t d/\Fits ts ds:=by
 cases es with
 |nil=>exact absurd h (by simp[Fits])
 |cons d ds=>unfold Fits at h;exact⟨d,ds,rfl,h.1,h.2⟩
theorem Yo{es:List D}(h:Fits [] es):es=[]:=by
 cases es with
 |nil=>rfl
 |cons d ds=>exact absurd h (by simp[Fits])
theorem gn{x:Int}(h:u32.min<=x/\x<=u32.max):U x:=⟨h.1,by have:u32.max=4294967295:=rfl;have:=h.2;omega⟩
structure CI(m:ao):Prop where
 dl:U m.A9.B8
 bl:U m.A4.ag
 st: -9223372036854775808<=m.A4.B6/\m.A4.B6<9223372036854775808
 cm: -9223372036854775808<=m.A4.D1/\m.A4.D1<9223372036854775808
 ct:0<=m.A0/\m.A0<18446744073709551616
theorem O5{x:Int}(h:i64.min<=x/\x<=i64.max): -9223372036854775808<=x/\x<9223372036854775808:=by
 have h1:i64.min= -9223372036854775808:=rfl
 have h2:i64.max=9223372036854775807:=rfl
 omega
theorem Qzb{es:List D}(h:Fits [.int .u32,.int .u32,.int .u32,.int .u32,.int .u32,.int .u32,.int .u32,.int .u32,.int .u32,.int .u32,.int .u32,.int .u32,.int .u32,.int .u32,.int .u32,.int .u32,.int .u32,.int .u32,.int .u32,.int .u32,.int .u32,.int .u32,.int .u32,.int .u32,.int .u32,.sl [.int .u32],.str,.bool,.int .u32,.bool,.int .u32,.int .u32,.int .u32,.int .i64,.int .i64,.int .u32,.int .u32,.str,.int .u32,.int .u32,.bool,.int .u32,.bool,.int .u32,.int .u32,.int .u32,.int .u64,.bool,.bool] es):∃m:ao,es=m.cells/\oC m/\m.Mem.length*4<=reachBytes/\CI m:=by
 obtain⟨d0,e0,rfl,h0,H0⟩:=ju h
 obtain⟨x0,rfl,b0⟩:=jV h0
 obtain⟨d1,e1,rfl,h1,H1⟩:=ju H0
 obtain⟨x1,rfl,b1⟩:=jV h1
 obtain⟨d2,e2,rfl,h2,H2⟩:=ju H1
 obtain⟨x2,rfl,b2⟩:=jV h2
 obtain⟨d3,e3,rfl,h3,H3⟩:=ju H2
 obtain⟨x3,rfl,b3⟩:=jV h3
 obtain⟨d4,e4,rfl,h4,H4⟩:=ju H3
 obtain⟨x4,rfl,b4⟩:=jV h4
 obtain⟨d5,e5,rfl,h5,H5⟩:=ju H4
 obtain⟨x5,rfl,b5⟩:=jV h5
 obtain⟨d6,e6,rfl,h6,H6⟩:=ju H5
 obtain⟨x6,rfl,b6⟩:=jV h6
 obtain⟨d7,e7,rfl,h7,H7⟩:=ju H6
 obtain⟨x7,rfl,b7⟩:=jV h7
 obtain⟨d8,e8,rfl,h8,H8⟩:=ju H7
 obtain⟨x8,rfl,b8⟩:=jV h8
 obtain⟨d9,e9,rfl,h9,H9⟩:=ju H8
 obtain⟨x9,rfl,b9⟩:=jV h9
 obtain⟨d10,Ub,rfl,AS,H10⟩:=ju H9
 obtain⟨ja,rfl,Xj⟩:=jV AS
 obtain⟨d11,Uc,rfl,h11,H11⟩:=ju H10
 obtain⟨jv,rfl,Xk⟩:=jV h11
 obtain⟨d12,e12,rfl,h12,H12⟩:=ju H11
 obtain⟨jO,rfl,b12⟩:=jV h12
 obtain⟨d13,Ud,rfl,Ci,H13⟩:=ju H12
 obtain⟨jW,rfl,b13⟩:=jV Ci
 obtain⟨d14,e14,rfl,h14,H14⟩:=ju H13
 obtain⟨kF,rfl,b14⟩:=jV h14
 obtain⟨d15,Ue,rfl,h15,H15⟩:=ju H14
 obtain⟨mh,rfl,b15⟩:=jV h15
 obtain⟨d16,e16,rfl,h16,H16⟩:=ju H15
 obtain⟨lB,rfl,b16⟩:=jV h16
 obtain⟨d17,e17,rfl,h17,H17⟩:=ju H16
 obtain⟨mP,rfl,b17⟩:=jV h17
 obtain⟨d18,e18,rfl,h18,H18⟩:=ju H17
 obtain⟨nw,rfl,b18⟩:=jV h18
 obtain⟨d19,e19,rfl,h19,H19⟩:=ju H18
 obtain⟨pY,rfl,b19⟩:=jV h19
 obtain⟨d20,e20,rfl,Yp,H20⟩:=ju H19
 obtain⟨sU,rfl,b20⟩:=jV Yp
 obtain⟨d21,e21,rfl,h21,H21⟩:=ju H20
 obtain⟨pA,rfl,b21⟩:=jV h21
 obtain⟨d22,e22,rfl,h22,H22⟩:=ju H21
 obtain⟨pB,rfl,b22⟩:=jV h22
 obtain⟨d23,e23,rfl,h23,H23⟩:=ju H22
 obtain⟨tQ,rfl,b23⟩:=jV h23
 obtain⟨d24,e24,rfl,h24,H24⟩:=ju H23
 obtain⟨AV,rfl,b24⟩:=jV h24
 obtain⟨d25,e25,rfl,h25,H25⟩:=ju H24
 obtain⟨Yq,rfl,r25,b25⟩:=Zo8 h25
 obtain⟨d26,e26,rfl,h26,H26⟩:=ju H25
 obtain⟨Yr,rfl,b26⟩:=WM h26
 obtain⟨d27,e27,rfl,h27,H27⟩:=ju H26
 obtain⟨O6,rfl⟩:=KR h27
 obtain⟨d28,e28,rfl,h28,H28⟩:=ju H27
 obtain⟨Hg,rfl,b28⟩:=jV h28
 obtain⟨d29,e29,rfl,h29,H29⟩:=ju H28
 obtain⟨O7,rfl⟩:=KR h29
 obtain⟨d30,e30,rfl,h30,H30⟩:=ju H29
 obtain⟨CJ,rfl,b30⟩:=jV h30
 obtain⟨d31,e31,rfl,h31,H31⟩:=ju H30
 obtain⟨Ys,rfl,b31⟩:=jV h31
 obtain⟨d32,e32,rfl,OW,H32⟩:=ju H31
 obtain⟨Mh,rfl,b32⟩:=jV OW
 obtain⟨d33,e33,rfl,h33,H33⟩:=ju H32
 obtain⟨Uf,rfl,b33⟩:=jV h33
 obtain⟨d34,e34,rfl,h34,H34⟩:=ju H33
 obtain⟨O8,rfl,b34⟩:=jV h34
 obtain⟨d35,e35,rfl,h35,H35⟩:=ju H34
 obtain⟨O9,rfl,b35⟩:=jV h35
 obtain⟨d36,e36,rfl,h36,H36⟩:=ju H35
 obtain⟨x36,rfl,b36⟩:=jV h36
 obtain⟨d37,e37,rfl,h37,H37⟩:=ju H36
 obtain⟨x37,rfl,b37⟩:=WM h37
 obtain⟨d38,e38,rfl,h38,H38⟩:=ju H37
 obtain⟨x38,rfl,b38⟩:=jV h38
 obtain⟨d39,e39,rfl,h39,H39⟩:=ju H38
 obtain⟨x39,rfl,b39⟩:=jV h39
 obtain⟨d40,e40,rfl,Yl,H40⟩:=ju H39
 obtain⟨x40,rfl⟩:=KR Yl
 obtain⟨d41,e41,rfl,h41,H41⟩:=ju H40
 obtain⟨x41,rfl,b41⟩:=jV h41
 obtain⟨d42,e42,rfl,h42,H42⟩:=ju H41
 obtain⟨x42,rfl⟩:=KR h42
 obtain⟨d43,e43,rfl,h43,H43⟩:=ju H42
 obtain⟨x43,rfl,b43⟩:=jV h43
 obtain⟨d44,e44,rfl,h44,H44⟩:=ju H43
 obtain⟨x44,rfl,b44⟩:=jV h44
 obtain⟨d45,e45,rfl,h45,H45⟩:=ju H44
 obtain⟨x45,rfl,b45⟩:=jV h45
 obtain⟨d46,e46,rfl,h46,H46⟩:=ju H45
 obtain⟨x46,rfl,Yt⟩:=jV h46
 obtain⟨d47,e47,rfl,h47,H47⟩:=ju H46
 obtain⟨x47,rfl⟩:=KR h47
 obtain⟨d48,e48,rfl,h48,H48⟩:=ju H47
 obtain⟨x48,rfl⟩:=KR h48
 obtain rfl:=Yo H48
 refine⟨⟨⟨⟨x0,x1,x2,x3,x4,x5,x6,x7,x8,x9,ja,jv,jO,jW,kF,mh⟩,lB,⟨mP,nw,pY,sU,pA,pB,tQ,AV⟩⟩,Yq,⟨Yr⟩,⟨O6,Hg,O7⟩,⟨CJ,Ys,Mh,Uf,O8,O9,x36,x37⟩,⟨x38,x39,x40,x41,x42,x43⟩,⟨x44,x45⟩,x46,x47,x48⟩,rfl,⟨⟨?_,gn b16,?_⟩,λw hw=>gn (b25 w hw),⟨gn b31,gn b32,gn b35,gn b36⟩,⟨gn b38,gn b39,gn b41,gn b43⟩,⟨gn b44,gn b45⟩,Yt.1⟩,r25,⟨gn b28,gn b30,O5 b33,O5 b34,Yt.1,by have h:u64.max=18446744073709551615:=rfl;have:=Yt.2;show x46<_;omega⟩⟩
 ·intro w hw
  have hw:w∈[x0,x1,x2,x3,x4,x5,x6,x7,x8,x9,ja,jv,jO,jW,kF,mh]:=hw
  simp only[cR,cS,or_false]at hw
  rcases hw with rfl|rfl|rfl|rfl|rfl|rfl|rfl|rfl|rfl|rfl|rfl|rfl|rfl|rfl|rfl|rfl
  ·exact gn b0
  ·exact gn b1
  ·exact gn b2
  ·exact gn b3
  ·exact gn b4
  ·exact gn b5
  ·exact gn b6
  ·exact gn b7
  ·exact gn b8
  ·exact gn b9
  ·exact gn Xj
  ·exact gn Xk
  ·exact gn b12
  ·exact gn b13
  ·exact gn b14
  ·exact gn b15
 ·intro w hw
  have hw:w∈[mP,nw,pY,sU,pA,pB,tQ,AV]:=hw
  simp only[cR,cS,or_false]at hw
  rcases hw with rfl|rfl|rfl|rfl|rfl|rfl|rfl|rfl
  ·exact gn b17
  ·exact gn b18
  ·exact gn b19
  ·exact gn b20
  ·exact gn b21
  ·exact gn b22
  ·exact gn b23
  ·exact gn b24
theorem Zoh{es:List D}(h:Fits [.int .i64,.int .u32,.str] es):∃e:j9,es=e.cells/\U e.N:=by
 obtain⟨d0,e0,rfl,h0,H0⟩:=ju h
 obtain⟨x0,rfl,b0⟩:=jV h0
 obtain⟨d1,e1,rfl,h1,H1⟩:=ju H0
 obtain⟨x1,rfl,b1⟩:=jV h1
 obtain⟨d2,e2,rfl,h2,H2⟩:=ju H1
 obtain⟨x2,rfl,b2⟩:=WM h2
 obtain rfl:=Yo H2
 exact⟨⟨x0,x1,x2⟩,rfl,gn b1⟩
theorem gd.Pa{k:RK}{es:List (List D)}{fr:Bool}{l:List (RK.T k)}(h:es=l.map (RK.cells k)):gd (.sl k.size (.gen es) fr) (.sl k.size (.ba k l) false):=by
 intro c w v hv
 obtain⟨a,cap,hv,hc,gx⟩:=hv
 have he:(ai.gen es).l=(ai.ba k l).l:=by subst h;rfl
 rw[he]at hv hc gx
 refine⟨a,cap,hv,hc,?_⟩
 rcases gx with gx|⟨b,off,arr,ty,fz,ha,hI,hf,hh,hE⟩
 ·exact .inl gx
 ·exact .inr ⟨b,off,arr,ty,fz,ha,hI,(λe=>by cases e),hh,hE⟩
theorem jz.rfl:∀{l:List D},jz l l
 |[]=>trivial
 |_::_=>⟨gd.rfl,jz.rfl⟩
theorem jz.append:∀{a b a' b':List D},jz a a'->jz b b'->jz (a++b) (a'++b')
 |[],_,[],_,_,h=>h
 |_::_,_,_::_,_,h,g=>⟨h.1,jz.append h.2 g⟩
 |[],_,_::_,_,h,_=>h.elim
 |_::_,_,[],_,h,_=>h.elim
theorem Zh7{es:List (List D)}(h:∀e∈es,Fits [.int .u64,.int .i64,.int .u32,.str] e):∃l:List dr,es=l.map dr.cells/\∀e∈l,U e.C5.N/\0<=e.At/\e.At<=18446744073709551615:=by
 induction es with
 |nil=>exact⟨[],rfl,λe he=>by cases he⟩
 |cons x es ih=>
  obtain⟨l,h1,h2⟩:=ih (λe he=>h e (by simp[he]))
  obtain⟨d0,e0,rfl,h0,H0⟩:=ju (h x (by simp))
  obtain⟨x0,rfl,b0⟩:=jV h0
  obtain⟨e,he,hu⟩:=Zoh H0
  refine⟨⟨x0,e⟩::l,by rw[h1,he];rfl,λq hq=>?_⟩
  rcases List.mem_cons.1 hq with hq|hq
  ·rw[hq];exact⟨hu,b0.1,b0.2⟩
  ·exact h2 q hq
def oZ(n:Nat):List Int:=if h:n<128 then[(n:Int)]else((n%128+128:Nat):Int)::oZ (n/128)
termination_by n
decreasing_by omega
theorem Mi{n:Nat}(h:n<128):oZ n=[(n:Int)]:=by unfold oZ;rw[dif_pos h]
theorem yl{n:Nat}(h:¬n<128):oZ n=((n%128+128:Nat):Int)::oZ (n/128):=by
 conv=>lhs;unfold oZ
 rw[dif_neg h]
theorem Ug:∀(k n:Nat),n<128^(k+1)->(oZ n).length<=k+1
 |0,n,h=>by rw[Mi (by simpa using h)];exact aO _
 |k +1,n,h=>by
  by_cases g:n<128
  ·rw[Mi g];exact Nat.le_add_left _ _
  ·rw[yl g,dH]
   have:=Ug k (n/128) (by rw[fG]at h;exact Nat.div_lt_of_lt_mul (by rw[Nat.mul_comm];exact h))
   omega
def pC(x:Int):List UInt8:=bytesOf (oZ x.toNat)
theorem Yu:∀s:List UInt8,bytesOf (iX s)=s
 |[]=>rfl
 |b::s=>by
  show UInt8.ofNat ((b.toNat:Int)).toNat::bytesOf (iX s)=_
  rw[Yu s,eC,UInt8.ofNat_toNat]
theorem Pb:∀n:Fin 256,il .u8 (n.val:Int) 128=((n.val%128+128:Nat):Int):=by decide
theorem Znt{x:Int}(h:0<=x):il .u8 (wrap .u8 x) 128=((x.toNat%128+128:Nat):Int):=by
 have e:wrap .u8 x=((x.toNat%256:Nat):Int):=by rw[wrap_u8];omega
 rw[e]
 have:=Pb ⟨x.toNat%256,Nat.mod_lt _ (by decide)⟩
 rw[this]
 show((x.toNat%256%128+128:Nat):Int)=_
 omega
theorem Pd{x:Int}(h:0<=x):bf .u64 x 7=((x.toNat/128:Nat):Int):=by
 have:bf .u64 x 7=x.fdiv 128:=rfl
 rw[this,Int.fdiv_eq_ediv_of_nonneg _ (by decide)];omega
theorem xay{x:Int}(h0:0<=x)(h1:x<18446744073709551616):(Pe x).w (λs=>s=pC x):=by
 have hl:=Ug 9 x.toNat (by rw[show(128:Nat)^(9+1)=1180591620717411303424 by decide];omega)
 unfold Pe
 refine ej (inv:=λv:Int×List Int=>0<=v.1/\v.2++oZ v.1.toNat=oZ x.toNat) (μ:=Qf0 x) ⟨h0,rfl⟩ (cO _) λv ⟨a,b⟩=>?_
 obtain⟨y,o⟩:=v
 have a:0<=y:=a
 have b:o++oZ y.toNat=oZ x.toNat:=b
 have bl:=congrArg dJ b
 rw[lA]at bl
 refine ab (λhb=>?_) (λhb=>?_)
 ·have hb:y>=128:=oY hb
  have g:¬y.toNat<128:=by omega
  rw[yl g]at b bl
  rw[dH]at bl
  refine ar (dY (by show 1*(o.length+1)<=_;omega)) (dm ?_)
  show(0<=bf .u64 y 7/\(o++[il .u8 (wrap .u8 y) 128])++oZ (bf .u64 y 7).toNat=oZ x.toNat)/\(bf .u64 y 7).toNat<y.toNat
  rw[Pd a,Znt a,eC]
  refine⟨⟨by omega,?_⟩,by omega⟩
  rw[fF];exact b
 ·have hb:¬y>=128:=oN hb
  have g:y.toNat<128:=by omega
  rw[Mi g]at b bl
  refine ar (dY (by show 1*(o.length+1)<=_;rw[cX]at bl;omega)) ?_
  show bytesOf (o++[wrap .u8 y])=pC x
  unfold pC
  rw[<-b,show wrap .u8 y=((y.toNat:Nat):Int) by rw[wrap_u8];omega]
theorem pZ{x:Int}(h1:x<18446744073709551616):(pC x).length<=10:=by
 unfold pC bytesOf
 rw[fH]
 exact Ug 9 x.toNat (by rw[show(128:Nat)^(9+1)=1180591620717411303424 by decide];omega)
def jU(l:List Int):List UInt8:=l.flatMap pC
theorem Ew:∀{l:List Int},(∀x∈l,x<18446744073709551616)->(jU l).length<=10*l.length
 |[],_=>aO _
 |x::l,h=>by
  have a:=pZ (h x (by simp))
  have b:=Ew (l:=l) λy hy=>h y (by simp[hy])
  show(pC x++jU l).length<=_
  rw[lA,dH];omega
theorem Jo(x:Int)(l:List Int):jU (x::l)=pC x++jU l:=rfl
theorem qm(l m:List Int):jU (l++m)=jU l++jU m:=List.flatMap_append
theorem Zm7{b:List Int}{s:List UInt8}(h:b.length+s.length<=1000000):(Pf b s).w (λx=>x.2.2=b++iX s):=by
 unfold Pf
 refine au λx0 e0=>?_
 have e0:x0=b:=e0
 subst e0
 refine ar (dY ?_) rfl
 have:(iX s).length=s.length:=fH ..
 omega
theorem lM(s:List UInt8):(iX s).length=s.length:=fH ..
theorem Pg(s t:List UInt8):iX (s++t)=iX s++iX t:=bL
theorem Ph{l:List Int}{i:Nat}(h:i<l.length):l.getD i 0=l[i]:=by rw[dC,cG h];rfl
theorem Jp{c l:List Int}(hl:∀x∈l,0<=x/\x<18446744073709551616)(hc:c.length+10*l.length<=1000000):(Pj c l).w (λx=>x=c++iX (jU l)):=by
 unfold Pj
 refine ej (inv:=λv:Int×List Int=>0<=v.1/\v.1<=l.length/\v.2++iX (jU (l.drop v.1.toNat))=c++iX (jU l)) (μ:=Q8c c l) ⟨fI 0,by show(0:Int)<=_;omega,rfl⟩ (cO _) λv ⟨a1,a2,a3⟩=>?_
 obtain⟨i,o⟩:=v
 have a1:0<=i:=a1
 have a2:i<=l.length:=a2
 have a3:o++iX (jU (l.drop i.toNat))=c++iX (jU l):=a3
 refine ab (λhb=>?_) (λhb=>?_)
 ·have hb:i<l.length:=oY hb
  have cq:i.toNat<l.length:=by omega
  have ew:i64.wrap (i+1)=i+1:=by rw[wrap_i64];omega
  have ed:=Ph cq
  have hm:=hl _ (fJ cq)
  rw[aB cq,Jo,Pg,<-ed]at a3
  rw[<-ed]at hm
  have len:=congrArg dJ a3
  rw[lA,lA,lA,lM,lM,lM]at len
  have ul:=Ew λy hy=>(hl y hy).2
  refine ar (by simp[bJ];omega) (bh (xay hm.1 hm.2) λx0 e0=>?_)
  rw[e0]
  refine bh (Zm7 (b:=o) (s:=pC (l.getD i.toNat 0)) (by omega)) λx1 e1=>dm ?_
  show(0<=i64.wrap (i+1)/\i64.wrap (i+1)<=l.length/\x1.2.2++iX (jU (l.drop (i64.wrap (i+1)).toNat))=c++iX (jU l))/\(l.length-i64.wrap (i+1)).toNat<(l.length-i).toNat
  rw[ew,e1,show(i+1).toNat=i.toNat+1 by omega,fF]
  exact⟨⟨by omega,by omega,a3⟩,by omega⟩
 ·have hb:¬i<l.length:=oN hb
  rw[aA (by omega)]at a3
  show o=_
  rw[<-a3];exact(cJ o).symm
theorem tR{x:Int}(h:U x):wrap .u64 x=x:=by have:=h.1;have:=h.2;rw[wrap_u64];omega
theorem CK{c l:List Int}(hl:∀x∈l,U x)(hc:c.length+10*l.length<=900000):(Pk c l).w (λx=>x=c++iX (jU l)):=by
 unfold Pk
 refine ej (inv:=λv:Int×List Int=>0<=v.1/\v.1<=l.length/\v.2++iX (jU (l.drop v.1.toNat))=c++iX (jU l)) (μ:=Qaf c l) ⟨fI 0,by show(0:Int)<=_;omega,rfl⟩ (cO _) λv ⟨a1,a2,a3⟩=>?_
 obtain⟨i,o⟩:=v
 have a1:0<=i:=a1
 have a2:i<=l.length:=a2
 have a3:o++iX (jU (l.drop i.toNat))=c++iX (jU l):=a3
 refine ab (λhb=>?_) (λhb=>?_)
 ·have hb:i<l.length:=oY hb
  have cq:i.toNat<l.length:=by omega
  have ew:i64.wrap (i+1)=i+1:=by rw[wrap_i64];omega
  have ed:=Ph cq
  have hm:=hl _ (fJ cq)
  rw[aB cq,Jo,Pg,<-ed]at a3
  rw[<-ed]at hm
  have len:=congrArg dJ a3
  rw[lA,lA,lA,lM,lM,lM]at len
  have ul:=Ew (l:=l) λy hy=>by have:=(hl y hy).2;omega
  have h2:=hm.2
  refine ar (by simp[bJ];omega) (bh (Jp (c:=o) (λx hx=>by rw[List.mem_singleton.1 hx,tR hm];exact⟨hm.1,by omega⟩) (by show o.length+10*1<=_;omega)) λx0 e0=>dm ?_)
  have e0:x0=o++iX (pC (l.getD i.toNat 0)):=by
   rw[e0,tR hm,Jo]
   show o++iX (pC _++[])=_
   rw[cJ]
  show(0<=i64.wrap (i+1)/\i64.wrap (i+1)<=l.length/\x0++iX (jU (l.drop (i64.wrap (i+1)).toNat))=c++iX (jU l))/\(l.length-i64.wrap (i+1)).toNat<(l.length-i).toNat
  rw[ew,e0,show(i+1).toNat=i.toNat+1 by omega,fF]
  exact⟨⟨by omega,by omega,a3⟩,by omega⟩
 ·have hb:¬i<l.length:=oN hb
  rw[aA (by omega)]at a3
  show o=_
  rw[<-a3];exact(cJ o).symm
def Qo(b:Bool):Int:=bif b then 1 else 0
theorem Mj{c:List Int}(b:Bool)(hc:c.length<=999000):(Pl c b).w (λx=>x=c++iX (jU [Qo b])):=by
 unfold Pl
 cases b
 ·exact ab (λh=>by cases h) λ_=>bh (Jp (c:=c) (l:=[0]) (λx hx=>by rw[List.mem_singleton.1 hx];decide) (by show c.length+10*1<=_;omega)) λx e=>e
 ·exact ab (λ_=>bh (Jp (c:=c) (l:=[1]) (λx hx=>by rw[List.mem_singleton.1 hx];decide) (by show c.length+10*1<=_;omega)) λx e=>e) λh=>by cases h
def FH(s:List UInt8):List UInt8:=pC s.length++s
theorem Zmc{c:List Int}{s:List UInt8}(hc:c.length+s.length<=900000):(Pm c s).w (λx=>x=c++iX (FH s)):=by
 have ew:wrap .u64 ((s.length:Nat):Int)=s.length:=by rw[wrap_u64];omega
 have hu:=pZ (x:=(s.length:Int)) (by omega)
 unfold Pm
 refine bh (Jp (c:=c) (λx hx=>by rw[List.mem_singleton.1 hx,ew];omega) (by show c.length+10*1<=_;omega)) λx0 e0=>?_
 rw[ew]at e0
 have e0:x0=c++iX (pC s.length):=by
  rw[e0,Jo]
  show c++iX (pC _++[])=_
  rw[cJ]
 refine bh (Zm7 (by rw[e0,lA,lM];omega)) λx1 e1=>?_
 show x1.2.2=_
 rw[e1,e0]
 unfold FH
 rw[Pg,fF]
def pD(m:ao):List Int:=fu.l m.A7.X++(m.A7.Pc::A8.l m.A7.B1)++[(m.Mem.length:Int)]
def Jq(m:ao):List Int:=[Qo m.A9.D0,m.A9.B8,Qo m.A9.C9,m.A4.ag,m.A4.B9,m.A4.Frame,wrap .u64 m.A4.B6,wrap .u64 m.A4.D1,m.A4.B4,m.A4.B0]
def Jr(m:ao):List Int:=[m.C1.Frame,m.C1.D6,Qo m.C1.C2,m.C1.B7,Qo m.C1.B3,m.C1.D8,m.A1.C4,m.A1.C0,m.A0,Qo m.A3,Qo m.A6]
def nN(m:ao):List UInt8:=jU (pD m)++(jU m.Mem++(FH m.A2.C6++(jU (Jq m)++(FH m.A4.B5++jU (Jr m)))))
theorem Zn0{m:ao}(hv:oC m)(hr:CI m)(hm:m.Mem.length<=1100)(hk:m.A2.C6.length<=100000)(ho:m.A4.B5.length<=100000):(Pn m).w (λs=>s=nN m/\s.length<=400000):=by
 obtain⟨c1,c2,c3⟩:=hv.lY
 obtain⟨d1,d2,d3,d4⟩:=hv.kM
 obtain⟨n1,n2,n3,n4⟩:=hv.r7
 obtain⟨b1,b2⟩:=hv.tO
 obtain⟨r1,r2,r3,r4,r5⟩:=hr
 have one:∀{x:Int},U x->∀y∈[x],U y:=λh y hy=>by rw[List.mem_singleton.1 hy];exact h
 have kl:∀{s:List UInt8},s.length<=100000->(FH s).length<=10+s.length:=fun{s} h=>by
  have:=pZ (x:=(s.length:Int)) (by omega)
  unfold FH;rw[lA];omega
 have k1:=kl hk
 have k2:=kl ho
 have ws:∀{l:List Int},(∀x∈l,U x)->(jU l).length<=10*l.length:=λh=>Ew λy hy=>by have:=(h y hy).2;omega
 have W:∀{x:Int},0<=wrap .u64 x/\wrap .u64 x<18446744073709551616:=fun{x}=>by rw[wrap_u64];omega
 have fl:∀b:Bool,(jU [Qo b]).length<=10:=λb=>Ew (l:=[Qo b]) λy hy=>by rw[List.mem_singleton.1 hy];cases b<;>decide
 have ml:=ws hv.mem
 have eL:wrap .u64 ((m.Mem.length:Nat):Int)=m.Mem.length:=by rw[wrap_u64];omega
 have U3:∀x∈[m.A4.ag,m.A4.B9,m.A4.Frame],U x:=λx hx=>by
  simp only[cR,cS,or_false]at hx
  rcases hx with rfl|rfl|rfl<;>assumption
 have U2:∀{a b:Int},U a->U b->∀x∈[a,b],U x:=λha hb x hx=>by
  simp only[cR,cS,or_false]at hx
  rcases hx with rfl|rfl<;>assumption
 have S2:∀x∈[wrap .u64 m.A4.B6,wrap .u64 m.A4.D1],0<=x/\x<18446744073709551616:=λx hx=>by
  simp only[cR,cS,or_false]at hx
  rcases hx with rfl|rfl<;>exact W
 have sl:=Ew (l:=[wrap .u64 m.A4.B6,wrap .u64 m.A4.D1]) λx hx=>(S2 x hx).2
 have L16:=ws (l:=fu.l m.A7.X) c1
 have L8:=ws (l:=A8.l m.A7.B1) c3
 have Js:(fu.l m.A7.X).length=16:=rfl
 have l8:(A8.l m.A7.B1).length=8:=rfl
 have p1:=ws (one c2)
 have e1:=Ew (l:=[(m.Mem.length:Int)]) λx hx=>by rw[List.mem_singleton.1 hx];omega
 have q1:=ws (one r1)
 have q2:=ws U3
 have q3:=ws (U2 d3 d4)
 have q4:=ws (U2 n1 n2)
 have q5:=ws (one n3)
 have q6:=ws (one n4)
 have q7:=ws (U2 b1 b2)
 have q8:=Ew (l:=[m.A0]) λx hx=>by rw[List.mem_singleton.1 hx];exact r5.2
 have f1:=fl m.A9.D0
 have f2:=fl m.A9.C9
 have f3:=fl m.C1.C2
 have f4:=fl m.C1.B3
 have f5:=fl m.A3
 have f6:=fl m.A6
 simp only[dH,dI]at sl p1 e1 q1 q2 q3 q4 q5 q6 q7 q8
 unfold Pn
 refine bh (CK (c:=[]) (l:=fu.l m.A7.X) c1 (by rw[Js];decide)) λx0 g0=>?_
 have z0:x0.length<=160:=by rw[g0,lA,lM];show 0+_<=_;omega
 refine bh (CK (one c2) (by show x0.length+10*1<=_;omega)) λx1 g1=>?_
 have z1:x1.length<=170:=by rw[g1,lA,lM];omega
 refine bh (CK (l:=A8.l m.A7.B1) c3 (by rw[l8];omega)) λx2 g2=>?_
 have z2:x2.length<=250:=by rw[g2,lA,lM];omega
 rw[eL]
 refine bh (Jp (l:=[(m.Mem.length:Int)]) (λx hx=>by rw[List.mem_singleton.1 hx];omega) (by show x2.length+10*1<=_;omega)) λx3 g3=>?_
 have z3:x3.length<=260:=by rw[g3,lA,lM];omega
 refine bh (CK hv.mem (by omega)) λx4 g4=>?_
 have z4:x4.length<=11500:=by rw[g4,lA,lM];omega
 refine bh (Zmc (s:=m.A2.C6) (by omega)) λx5 g5=>?_
 have z5:x5.length<=111510:=by rw[g5,lA,lM];omega
 refine bh (Mj m.A9.D0 (by omega)) λx6 g6=>?_
 have z6:x6.length<=111520:=by rw[g6,lA,lM];omega
 refine bh (CK (one r1) (by show x6.length+10*1<=_;omega)) λx7 g7=>?_
 have z7:x7.length<=111530:=by rw[g7,lA,lM];omega
 refine bh (Mj m.A9.C9 (by omega)) λx8 g8=>?_
 have z8:x8.length<=111540:=by rw[g8,lA,lM];omega
 refine bh (CK U3 (by show x8.length+10*3<=_;omega)) λx9 g9=>?_
 have z9:x9.length<=111570:=by rw[g9,lA,lM];omega
 refine bh (Jp S2 (by show x9.length+10*2<=_;omega)) λja g10=>?_
 have z10:ja.length<=111590:=by rw[g10,lA,lM];omega
 refine bh (CK (U2 d3 d4) (by show ja.length+10*2<=_;omega)) λjv g11=>?_
 have z11:jv.length<=111610:=by rw[g11,lA,lM];omega
 refine bh (Zmc (s:=m.A4.B5) (by omega)) λjO g12=>?_
 have z12:jO.length<=211620:=by rw[g12,lA,lM];omega
 refine bh (CK (U2 n1 n2) (by show jO.length+10*2<=_;omega)) λjW g13=>?_
 have z13:jW.length<=211640:=by rw[g13,lA,lM];omega
 refine bh (Mj m.C1.C2 (by omega)) λkF g14=>?_
 have z14:kF.length<=211650:=by rw[g14,lA,lM];omega
 refine bh (CK (one n3) (by show kF.length+10*1<=_;omega)) λmh g15=>?_
 have z15:mh.length<=211660:=by rw[g15,lA,lM];omega
 refine bh (Mj m.C1.B3 (by omega)) λlB g16=>?_
 have z16:lB.length<=211670:=by rw[g16,lA,lM];omega
 refine bh (CK (one n4) (by show lB.length+10*1<=_;omega)) λmP g17=>?_
 have z17:mP.length<=211680:=by rw[g17,lA,lM];omega
 refine bh (CK (U2 b1 b2) (by show mP.length+10*2<=_;omega)) λnw g18=>?_
 have z18:nw.length<=211700:=by rw[g18,lA,lM];omega
 refine bh (Jp (l:=[m.A0]) (λx hx=>by rw[List.mem_singleton.1 hx];exact r5) (by show nw.length+10*1<=_;omega)) λpY g19=>?_
 have z19:pY.length<=211710:=by rw[g19,lA,lM];omega
 refine bh (Mj m.A3 (by omega)) λsU g20=>?_
 have z20:sU.length<=211720:=by rw[g20,lA,lM];omega
 refine bh (Mj m.A6 (by omega)) λpA g21=>?_
 have z21:pA.length<=211730:=by rw[g21,lA,lM];omega
 refine au λpB e=>?_
 have e:pB.1=bytesOf pA:=congrArg Prod.fst e
 show pB.1=nN m/\pB.1.length<=400000
 rw[e]
 refine⟨?_,by show(pA.map _).length<=_;rw[fH];omega⟩
 rw[g21,g20,g19,g18,g17,g16,g15,g14,g13,g12,g11,g10,g9,g8,g7,g6,g5,g4,g3,g2,g1,g0]
 simp only[fK,<-Pg,Yu]
 unfold nN pD Jq Jr
 simp only[qm,Jo,fF,fK,show jU []=[] from rfl,cJ]
structure kh(m:ao):Prop where
 dl:U m.A9.B8
 bl:U m.A4.ag
theorem Zod(d:fm)(m:List Int)(port v bn:Int):(TT d m port v bn).1.ag=d.ag:=by
 show Tree.V (G9 d m port v bn) (λr=>r.1.ag=d.ag)
 unfold G9
 repeat'(first
  |exact dc rfl
  |exact fp λ_ _=>dc rfl
  |refine dj (λ_=>?_) (λ_=>?_)
  |refine iq ?_
  |refine fp λ_ _=>?_)
theorem xm(d:fm)(m:List Int)(e:j9):(LZ d m e).1.ag=d.ag:=by
 show Tree.V (Ha d m e) (λr=>r.1.ag=d.ag)
 unfold Ha
 repeat'(first
  |exact dc rfl
  |refine dj (λ_=>?_) (λ_=>?_)
  |refine iq ?_
  |refine fp λ_ _=>?_)
theorem xaj(t:jk):(Yi t).1.B8=t.B8:=by
 show Tree.V (Uh t) (λr=>r.1.B8=t.B8)
 unfold Uh
 exact dj (λ_=>dc rfl) λ_=>dc rfl
theorem qaz{v:Int}(hv:U v):U (TS v).B8:=by
 show Tree.V (OP v) (λr=>U r.B8)
 unfold OP
 exact dj (λ_=>dc ep) λ_=>dc hv
theorem Po{m:ao}(h:kh m)(port clock:Int):kh (CE m port clock).2:=by
 show Tree.V (IU m port clock) (λr=>kh r.2)
 unfold IU
 repeat'(first
  |exact dc h
  |exact dc ⟨h.dl,h.bl⟩
  |refine dj (λ_=>?_) (λ_=>?_)
  |refine fp λ_ _=>?_)
theorem zaz{m:ao}(h:kh m)(port:Int){v:Int}(hv:U v):kh (Ev m port v).2:=by
 show Tree.V (GB m port v) (λr=>kh r.2)
 unfold GB
 refine dj (λ_=>dc h) λ_=>dj (λ_=>dc h) λ_=>dj (λ_=>fp λx ex=>dc ⟨by rw[ex];exact qaz hv,h.bl⟩) λ_=>dj (λ_=>iq (fp λx ex=>dc ⟨h.dl,by show U x.1.ag;rw[ex,Zod];exact h.bl⟩)) λ_=>dj (λ_=>iq (fp λx ex=>dc ⟨h.dl,h.bl⟩)) λ_=>iq (fp λx ex=>dc ⟨h.dl,h.bl⟩)
theorem xW{P:Nat}{m:ao}(g:ei P m)(h:kh m)(clock:Int):kh (ez m clock).2:=by
 have ic:iM (nt m):=(Tree.pp (WV g.ok.lY)).2
 have dv:U (uL (nt m) m.Mem).2.1.Value:=(Tree.pp (IV ic g.ok.mem)).2.2.1
 rw[qW]
 generalize uL (nt m) m.Mem=D at*
 have w:kh (CF m D.1 D.2.2):=⟨h.dl,h.bl⟩
 have i:=Po w D.2.1.C7 clock
 have o:=zaz w D.2.1.C7 dv
 unfold CG
 cases D.2.1.C3==1
 ·cases D.2.1.C3==2
  ·cases D.2.1.C3==3
   ·cases D.2.1.C3==4
    ·exact⟨h.dl,h.bl⟩
    ·exact⟨h.dl,h.bl⟩
   ·exact⟨h.dl,h.bl⟩
  ·exact⟨o.dl,o.bl⟩
 ·exact⟨i.dl,i.bl⟩
theorem xaz{m:ao}(h:kh m)(e:j9):kh (pX m e).2:=by
 show Tree.V (Hf m e) (λr=>kh r.2)
 unfold Hf
 repeat'(first
  |exact dc h
  |exact dc ⟨h.dl,h.bl⟩
  |exact fp λx ex=>dc ⟨by rw[ex,xaj];exact h.dl,h.bl⟩
  |exact iq (fp λx ex=>dc ⟨h.dl,by show U x.1.ag;rw[ex,xm];exact h.bl⟩)
  |exact iq (fp λx ex=>dc ⟨h.dl,h.bl⟩)
  |refine dj (λ_=>?_) (λ_=>?_))
theorem qaA(i:List Int):kh (lz 8 4 i).1:=by
 show Tree.V (Ec 8 4 i) (λx=>kh x.1)
 unfold Ec
 repeat'(first
  |exact dc ⟨ep,ep⟩
  |exact dc ⟨ep,fq _⟩
  |refine dj (λ_=>?_) (λ_=>?_)
  |refine iq ?_
  |refine fp λ_ _=>?_)
theorem qak{m:ao}(h:ei 8 m)(d:kh m):Tree.V (Fo m [] 87) (λx=>kh x.1):=by
 have z:∀{x:ao},x.A9.B8=0->x.A4.ag=0->kh x:=λa b=>⟨a▸ep,b▸ep⟩
 unfold Fo
 refine fp λx0 _=>dj (λ_=>dc (z rfl rfl)) λ_=>dj (λ_=>dc (z rfl rfl)) λ_=>dj (λ_=>dc (z rfl rfl)) λ_=>iq (fp λx1 _=>dj (λ_=>dc (z rfl rfl)) λ_=>iq (fp λx2 hx=>?_))
 rw[Jk]at hx
 refine AU (inv:=λv:ao×List fc=>ei 8 v.1/\kh v.1) (μ:=S8 m [] 87) ⟨by rw[hx];exact h,by rw[hx];exact d⟩ (cO _) λv0 ⟨a1,a3⟩=>?_
 have a2:=a1.ok.pV
 refine dj (λhb=>dj (λhm=>?_) (λ_=>dc a3)) (λ_=>dc a3)
 have hb:=oY hb
 have hm:=oY hm
 refine AU (inv:=λ_=>True) (μ:=S9 m [] 87 v0) trivial (cO _) λv1 _=>?_
 refine dj (λ_=>dc a3) λhh=>iq (fp λx3 h3=>dj (λ_=>dc a3) λhi=>iq (fp λx4 _=>dj (λ_=>dc (z rfl rfl)) λ_=>iq (fp λx5 h5=>oD (FG ?_))))
 obtain⟨b1,b2,_⟩:=Me a1 ((Jm a1).2 ⟨hh,h3.symm.trans hi,hm⟩) (clock:=0) ep
 have b3:=xW a1 a3 0
 rw[<-h5]at b1 b2 b3
 show(ei 8 x5.2/\kh x5.2)/\(87-x5.2.A0).toNat<(87-v0.1.A0).toNat
 exact⟨⟨b1,b3⟩,by omega⟩
theorem Zp(kind:Int)(l:List Int)(hl:l.length*8<=reachBytes)(Yl:l.length<=60):kh (Mf kind l):=by
 show Tree.V (Fs kind l) kh
 have code:=(Tree.pp (S4 l hl)).2
 change((Mg l).length:Int)=l.length/\∀w∈Mg l,U w at code
 obtain⟨b1,b2⟩:=code
 unfold Fs
 have fin:∀{x3:ao×Bool} {i:List Int},x3=lz 8 4 i->(∀w∈i,U w)->i.length<=256->kh x3.1/\kh (IX x3.1 [] 87).1:=fun{x3 i} e hu hlen=>by
  obtain⟨c1,_⟩:=Yk hu hlen
  have d:=qaA i
  rw[<-e]at c1 d
  exact⟨d,qak c1 d⟩
 refine iq (fp λx0 nK=>dj (λ_=>iq (fp λx1 e1=>?_)) (λhk=>?_))
 ·have eb:x1.1=lJ:=by rw[e1];rfl
  obtain⟨q1,q2⟩:lJ.length<=160/\∀w∈lJ,U w:=Ta
  refine AU (inv:=λv:List Int=>v.length<=160/\∀w∈v,U w) (μ:=Td kind l) ⟨by rw[eb];exact q1,by rw[eb];exact q2⟩ (cO _) λv0 ⟨a1,a2⟩=>?_
  refine dj (λhb=>?_) (λhb=>?_)
  ·have hb:=oY hb
   refine oD (FG ?_)
   show(_/\_)/\(_:Nat)<_
   refine⟨⟨by rw[lA,cX];omega,λw hw=>?_⟩,by show 160-(v0++[0]).length<160-v0.length;rw[lA,cX];omega⟩
   rcases List.mem_append.1 hw with hw|hw
   ·exact a2 w hw
   ·rw[List.mem_singleton.1 hw];exact ep
  ·refine iq (fp λx2 e2=>oD ?_)
   rw[<-e2]at b1 b2
   have hu:∀w∈v0++x2,U w:=λw hw=>(List.mem_append.1 hw).elim (a2 w) (b2 w)
   have hlen:(v0++x2).length<=256:=by rw[lA];omega
   refine dj (λhb=>?_) (λhb=>iq (fp λx3 h3=>dj (λ_=>iq (fp λx4 h4=>dc (by rw[h4];exact(fin h3 hu hlen).2))) λ_=>dc (fin h3 hu hlen).1))
   have hb:=oY hb;omega
 ·refine iq (fp λx2 e2=>oD ?_)
  rw[<-e2]at b1 b2
  refine dj (λhb=>?_) (λhb=>iq (fp λx3 h3=>dj (λ_=>iq (fp λx4 h4=>dc (by rw[h4];exact(fin h3 b2 (by omega)).2))) λ_=>dc (fin h3 b2 (by omega)).1))
  have hb:=oY hb;omega
theorem Zpr(d:fm)(c7:Int):ky d c7=true->(0<=d.B6/\d.B6<=3)/\(0<=d.D1/\d.D1<=2)/\d.B5.length<=128:=by
 show Tree.V (wR d c7) (λb=>b=true->(0<=d.B6/\d.B6<=3)/\(0<=d.D1/\d.D1<=2)/\d.B5.length<=128)
 have no:∀{p:Prop},(false=true->p):=λh=>by cases h
 have zero:∀{k:Int},(d.B6==k)=true->(0<=k/\k<=3)->(d.D1==0)=true->decide (d.B5=[])=true->(0<=d.B6/\d.B6<=3)/\(0<=d.D1/\d.D1<=2)/\d.B5.length<=128:=λa b c e=>by
  have a:=eq_of_beq a
  have c:=eq_of_beq c
  have e:=oY e
  exact⟨by omega,by omega,by rw[e];exact aT _⟩
 unfold wR
 refine dj (λ_=>dc no) λ_=>dj (λs=>dj (λc=>dj (λ_=>dj (λ_=>dc (zero s (by decide) c)) λ_=>dc no) λ_=>dc no) λ_=>dc no) λ_=>dj (λs=>dj (λc=>dj (λ_=>dj (λ_=>dc (zero s (by decide) c)) λ_=>dc no) λ_=>dc no) λ_=>dc no) λ_=>dj (λs=>dj (λc=>dj (λ_=>dj (λ_=>dc (zero s (by decide) c)) λ_=>dc no) λ_=>dc no) λ_=>dc no) λ_=>dj (λs=>fp λx ex=>dj (λhx=>?_) λ_=>dc no) λ_=>dc no
 have s:=eq_of_beq s
 have cm:Oh d=true->(0<=d.D1/\d.D1<=2)/\d.B5.length<=128:=by
  show Tree.V (I2 d) (λb=>b=true->(0<=d.D1/\d.D1<=2)/\d.B5.length<=128)
  unfold I2
  refine dj (λc=>dc λe=>?_) λ_=>dj (λc=>dc λe=>?_) λ_=>dc no
  ·have c:=eq_of_beq c
   have e:=oY e
   exact⟨by omega,by rw[e];exact aT _⟩
  ·have c:=eq_of_beq c
   have e:=eq_of_beq e
   exact⟨by omega,by omega⟩
 obtain⟨c1,c2⟩:=cm (by rw[<-ex];exact hx)
 exact dj (λ_=>dc λ_=>⟨by omega,c1,c2⟩) λ_=>dc no
theorem zm{m:ao}(h:sP m=true):m.A2.C6.length<=16/\(0<=m.A4.B6/\m.A4.B6<=3)/\(0<=m.A4.D1/\m.A4.D1<=2)/\m.A4.B5.length<=128:=by
 have no:∀{p:Prop},(false=true->p):=λh=>by cases h
 refine(show Tree.V (Ef m) (λb=>b=true->m.A2.C6.length<=16/\(0<=m.A4.B6/\m.A4.B6<=3)/\(0<=m.A4.D1/\m.A4.D1<=2)/\m.A4.B5.length<=128) from ?_) h
 unfold Ef
 refine fp λx0 _=>fp λx1 e1=>dj (λh1=>fp λx2 _=>dj (λ_=>fp λx3 e3=>dj (λh3=>?_) λ_=>dc no) λ_=>dc no) λ_=>dc no
 have k:m.A2.C6.length<=16:=by
  rw[e1]at h1
  have h1:decide ((m.A2.C6.length:Int)<=16)=true:=h1
  have:=oY h1;omega
 rw[e3]at h3
 have d:=Zpr _ _ h3
 exact fp λx4 _=>dj (λ_=>iq (fp λx5 _=>dc λ_=>⟨k,d⟩)) λ_=>dc no
structure wX(m:ao):Prop where
 r:CI m
 k:m.A2.C6.length<=100000
 o:m.A4.B5.length<=100000
theorem Yv{P:Nat}{m:ao}(g:ei P m)(d:kh m):wX m:=by
 obtain⟨_,_,c,_,dv⟩:=(GP m).1 g.may
 obtain⟨k,s,cm,o⟩:=zm dv
 have c0:=g.ok.pV
 exact⟨⟨d.dl,d.bl,by omega,by omega,by omega⟩,by omega,by omega⟩
theorem Yw(x:Int):0<=wrap .u64 x/\wrap .u64 x<18446744073709551616:=by rw[wrap_u64];omega
theorem Jt{y:Int}(h0:0<=y)(h1:y<18446744073709551616):bc .u64 y 127=((y.toNat%128:Nat):Int):=by
 unfold bc
 rw[wrap_u64]
 have e:(dV u64.bits y&&&dV u64.bits 127).toNat=y.toNat%128:=by
  show(dV 64 y&&&dV 64 127).toNat=_
  rw[BitVec.toNat_and,show(dV 64 127).toNat=2^7-1 from rfl,Nat.and_two_pow_sub_one_eq_mod,BitVec.toNat_ofInt]
  omega
 rw[e];omega
theorem Yx{x:Int}(h0:0<=x)(h1:x<18446744073709551616):(Pp x).w (λs=>s=pC x):=by
 have hl:=Ug 9 x.toNat (by rw[show(128:Nat)^(9+1)=1180591620717411303424 by decide];omega)
 unfold Pp
 refine ej (inv:=λv:Int×List Int=>0<=v.1/\v.1<18446744073709551616/\v.2++oZ v.1.toNat=oZ x.toNat) (μ:=Qew x) ⟨h0,h1,rfl⟩ (cO _) λv ⟨a,a2,b⟩=>?_
 obtain⟨y,o⟩:=v
 have a:0<=y:=a
 have a2:y<18446744073709551616:=a2
 have b:o++oZ y.toNat=oZ x.toNat:=b
 have bl:=congrArg dJ b
 rw[lA]at bl
 refine ab (λhb=>?_) (λhb=>?_)
 ·have hb:y>=128:=oY hb
  have g:¬y.toNat<128:=by omega
  rw[yl g]at b bl
  rw[dH]at bl
  refine ar (dY (by show 1*(o.length+1)<=_;omega)) (dm ?_)
  show(0<=bf .u64 y 7/\bf .u64 y 7<18446744073709551616/\(o++[il .u8 (wrap .u8 (bc .u64 y 127)) 128])++oZ (bf .u64 y 7).toNat=oZ x.toNat)/\(bf .u64 y 7).toNat<y.toNat
  rw[Pd a,Jt a a2,Znt (by omega),eC,eC,Nat.mod_mod]
  refine⟨⟨by omega,by omega,?_⟩,by omega⟩
  rw[fF];exact b
 ·have hb:¬y>=128:=oN hb
  have g:y.toNat<128:=by omega
  rw[Mi g]at b bl
  refine ar (dY (by show 1*(o.length+1)<=_;rw[cX]at bl;omega)) ?_
  show bytesOf (o++[wrap .u8 y])=pC x
  unfold pC
  rw[<-b,show wrap .u8 y=((y.toNat:Nat):Int) by rw[wrap_u8];omega]
theorem uP{x:Int}(h0:0<=x)(h1:x<18446744073709551616):(Pq x).w (λs=>s=pC x):=by
 unfold Pq
 exact bh (Yx h0 h1) λy hy=>hy
theorem Znf{s:List UInt8}(h:s.length<=1000000):(Pr s).w (λx=>x=FH s):=by
 have ew:wrap .u64 ((s.length:Nat):Int)=s.length:=by rw[wrap_u64];omega
 have hu:=pZ (x:=(s.length:Int)) (by omega)
 unfold Pr
 rw[ew]
 refine bh (Yx (by omega) (by omega)) λx e=>?_
 subst e
 exact ar (dY (by unfold maxLen;omega)) rfl
theorem Mk(b:Bool):Ju b=jU [Qo b]:=by
 cases b
 ·show[(0:UInt8)]=bytesOf (oZ 0)++[]
  rw[Mi (by decide)];rfl
 ·show[(1:UInt8)]=bytesOf (oZ 1)++[]
  rw[Mi (by decide)];rfl
theorem CL{o L:List Int}{i:Int}(h0:0<=i)(h:i<L.length){p:List Int}(e:o++L.drop i.toNat=p++L):(o++[L.getD i.toNat 0])++L.drop (i+1).toNat=p++L:=by
 have cq:i.toNat<L.length:=by omega
 rw[aB cq,<-Ph cq]at e
 rw[show(i+1).toNat=i.toNat+1 by omega,fF]
 exact e
set_option maxHeartbeats 1000000 in
theorem Zoe{m:ao}(hv:oC m)(hr:CI m)(hm:m.Mem.length<=1100)(hk:m.A2.C6.length<=100000)(ho:m.A4.B5.length<=100000):(Ps m).w (λs=>s=nN m/\s.length<=400000):=by
  obtain⟨c1,c2,c3⟩:=hv.lY
  obtain⟨d1,d2,d3,d4⟩:=hv.kM
  obtain⟨n1,n2,n3,n4⟩:=hv.r7
  obtain⟨b1,b2⟩:=hv.tO
  have W: ∀x:Int,0<=wrap .u64 x/\wrap .u64 x<18446744073709551616:=λx=>by rw[wrap_u64];omega
  have uu: ∀{x:Int},U x->0<=wrap .u64 x/\wrap .u64 x<18446744073709551616:=λ_=>W _
  have kl: ∀{s:List UInt8},s.length<=100000->(FH s).length<=100010:=fun{s} h=>by
    have:=pZ (x:=(s.length:Int)) (by omega)
    unfold FH;rw[lA];omega
  have fl: ∀b:Bool,(jU [Qo b]).length<=10:=λb=>Ew (l:=[Qo b]) λy hy=>by rw[List.mem_singleton.1 hy];cases b<;>decide
  have Js:(fu.l m.A7.X).length=16:=rfl
  have l8:(A8.l m.A7.B1).length=8:=rfl
  have eL:wrap .u64 ((m.Mem.length:Nat):Int)=m.Mem.length:=by rw[wrap_u64];omega
  have gu: ∀{L:List Int} {i:Int},(∀x∈L,U x)->0<=i->i<L.length->wrap .u64 (L.getD i.toNat 0)=L.getD i.toNat 0:=fun{L i} h h0 h1=>by
    have cq:i.toNat<L.length:=by omega
    rw[Ph cq];exact tR (h _ (fJ cq))
  have ew: ∀{i:Int},0<=i->i<1000000->i64.wrap (i+1)=i+1:=λh0 h1=>by rw[wrap_i64];omega
  unfold Ps
  refine ej (inv:=λv:Int×List Int=>0<=v.1/\v.1<=16/\v.2++(fu.l m.A7.X).drop v.1.toNat=[]++fu.l m.A7.X) (μ:=Qkt m) ⟨fI 0,by decide,rfl⟩ (cO _) λv ⟨a1,a2,a3⟩=> ?_
  obtain⟨i,o⟩:=v
  have a1:0<=i:=a1
  have a2:i<=16:=a2
  have a3:o++(fu.l m.A7.X).drop i.toNat=[]++fu.l m.A7.X:=a3
  have len:=congrArg dJ a3
  rw[lA,lA]at len
  refine ab (λhb=> ?_) (λhb=> ?_)
  . have hb:i<16:=oY hb
    refine ar (by simp [bJ];omega) (ar (dY (by show 8*(o.length+1)<=_;simp only[dI]at len;omega)) (dm ?_))
    show(0<=i64.wrap (i+1)/\i64.wrap (i+1)<=16/\(o++[wrap .u64 ((fu.l m.A7.X).getD i.toNat 0)])++(fu.l m.A7.X).drop (i64.wrap (i+1)).toNat=[]++fu.l m.A7.X)/\(16-i64.wrap (i+1)).toNat<(16-i).toNat
    rw[ew a1 (by omega),gu c1 a1 (by rw[Js];exact hb)]
    exact⟨⟨by omega,by omega,CL a1 (by rw[Js];exact hb) a3⟩,by omega⟩
  have hb: ¬i<16:=oN hb
  have o1:o=fu.l m.A7.X:=by
    rw[aA (by rw[Js];omega),cJ,fK]at a3;exact a3
  clear len a3
  subst o1
  refine ar (dY (by show 8*((fu.l m.A7.X).length+1)<=_;rw[Js];decide)) ?_
  refine ej (inv:=λv:Int×List Int=>0<=v.1/\v.1<=8/\v.2++(A8.l m.A7.B1).drop v.1.toNat=(fu.l m.A7.X++[m.A7.Pc])++A8.l m.A7.B1) (μ:=Qkf m) ⟨fI 0,by show(0:Int)<=8;decide,by show(fu.l m.A7.X++[wrap .u64 m.A7.Pc])++A8.l m.A7.B1=_;rw[tR c2]⟩ (cO _) λv ⟨a1,a2,a3⟩=> ?_
  obtain⟨i,o⟩:=v
  have a1:0<=i:=a1
  have a2:i<=8:=a2
  have a3:o++(A8.l m.A7.B1).drop i.toNat=(fu.l m.A7.X++[m.A7.Pc])++A8.l m.A7.B1:=a3
  have len:=congrArg dJ a3
  simp only[lA,Js,l8,cX]at len
  refine ab (λhb=> ?_) (λhb=> ?_)
  . have hb:i<8:=oY hb
    refine ar (by simp [bJ];omega) (ar (dY (by show 8*(o.length+1)<=_;omega)) (dm ?_))
    show(0<=i64.wrap (i+1)/\i64.wrap (i+1)<=8/\(o++[wrap .u64 ((A8.l m.A7.B1).getD i.toNat 0)])++(A8.l m.A7.B1).drop (i64.wrap (i+1)).toNat=(fu.l m.A7.X++[m.A7.Pc])++A8.l m.A7.B1)/\(8-i64.wrap (i+1)).toNat<(8-i).toNat
    rw[ew a1 (by omega),gu c3 a1 (by rw[l8];exact hb)]
    exact⟨⟨by omega,by omega,CL a1 (by rw[l8];exact hb) a3⟩,by omega⟩
  have hb: ¬i<8:=oN hb
  have o1:o=(fu.l m.A7.X++[m.A7.Pc])++A8.l m.A7.B1:=by
    rw[aA (by rw[l8];omega),cJ]at a3;exact a3
  clear a3
  refine ar (dY (by show 8*(o.length+1)<=_;omega)) ?_
  have e1:o++[(m.Mem.length:Int)]=pD m:=by
    rw[o1];unfold pD
    rw[fF (fu.l m.A7.X)];rfl
  have z1:(pD m).length=26:=by rfl
  refine ej (inv:=λv:Int×List Int=>0<=v.1/\v.1<=m.Mem.length/\v.2++m.Mem.drop v.1.toNat=pD m++m.Mem) (μ:=Qkz m) ⟨fI 0,by show(0:Int)<=_;omega,by show(o++[wrap .u64 ((m.Mem.length:Nat):Int)])++m.Mem=_;rw[eL,e1]⟩ (cO _) λv ⟨a1,a2,a3⟩=> ?_
  obtain⟨i,o⟩:=v
  have a1:0<=i:=a1
  have a2:i<=m.Mem.length:=a2
  have a3:o++m.Mem.drop i.toNat=pD m++m.Mem:=a3
  have len:=congrArg dJ a3
  rw[lA,lA,z1]at len
  refine ab (λhb=> ?_) (λhb=> ?_)
  . have hb:i<m.Mem.length:=oY hb
    refine ar (by simp [bJ];omega) (ar (dY (by show 8*(o.length+1)<=_;omega)) (dm ?_))
    show(0<=i64.wrap (i+1)/\i64.wrap (i+1)<=m.Mem.length/\(o++[wrap .u64 (m.Mem.getD i.toNat 0)])++m.Mem.drop (i64.wrap (i+1)).toNat=pD m++m.Mem)/\(m.Mem.length-i64.wrap (i+1)).toNat<(m.Mem.length-i).toNat
    rw[ew a1 (by omega),gu hv.mem a1 hb]
    exact⟨⟨by omega,by omega,CL a1 hb a3⟩,by omega⟩
  have hb: ¬i<m.Mem.length:=oN hb
  have o1:o=pD m++m.Mem:=by
    rw[aA (by omega),cJ]at a3;exact a3
  have ol:o.length<=1126:=by rw[o1,lA,z1];omega
  have ox : ∀x∈o,0<=x/\x<18446744073709551616:=λx hx=>by
    rw[o1]at hx
    have q:U x\/x=(m.Mem.length:Int):=by
      unfold pD at hx
      rcases List.mem_append.1 hx with hx|hx
      . rcases List.mem_append.1 hx with hx|hx
        . rcases List.mem_append.1 hx with hx|hx
          . exact .inl (c1 x hx)
          . rcases List.mem_cons.1 hx with hx|hx
            . rw[hx];exact .inl c2
            . exact .inl (c3 x hx)
        . exact .inr (List.mem_singleton.1 hx)
      . exact .inl (hv.mem x hx)
    rcases q with q|q
    . exact⟨q.1,by have:=q.2;omega⟩
    . rw[q];omega
  have ul:=Ew λy hy=>(ox y hy).2
  clear a3 len
  refine ej (inv:=λv:Int×List Int=>0<=v.1/\v.1<=o.length/\v.2++iX (jU (o.drop v.1.toNat))=iX (jU o)) (μ:=Qkh m) ⟨fI 0,by show(0:Int)<=_;omega,rfl⟩ (cO _) λv ⟨a1,a2,a3⟩=> ?_
  obtain⟨i,q⟩:=v
  have a1:0<=i:=a1
  have a2:i<=o.length:=a2
  have a3:q++iX (jU (o.drop i.toNat))=iX (jU o):=a3
  refine ab (λhb=> ?_) (λhb=> ?_)
  . have hb:i<o.length:=oY hb
    have cq:i.toNat<o.length:=by omega
    have ed:=Ph cq
    have Yy:=ox _ (fJ cq)
    rw[aB cq,Jo,Pg,<-ed]at a3
    rw[<-ed]at Yy
    have len:=congrArg dJ a3
    rw[lA,lA,lM,lM,lM]at len
    refine ar (by simp [bJ];omega) (bh (Yx Yy.1 Yy.2) λx0 e0=> ?_)
    have e0:x0=pC (o.getD i.toNat 0):=e0
    rw[e0]
    refine ar (dY (by show 1*(q.length+(iX (pC (o.getD i.toNat 0))).length)<=_;rw[lM];omega)) (dm ?_)
    show(0<=i64.wrap (i+1)/\i64.wrap (i+1)<=o.length/\(q++iX (pC (o.getD i.toNat 0)))++iX (jU (o.drop (i64.wrap (i+1)).toNat))=iX (jU o))/\(1000000000000-i64.wrap (i+1)).toNat<(1000000000000-i).toNat
    rw[ew a1 (by omega),show(i+1).toNat=i.toNat+1 by omega,fF]
    exact⟨⟨by omega,by omega,a3⟩,by omega⟩
  have hb: ¬i<o.length:=oN hb
  have q1:q=iX (jU o):=by
    rw[aA (by omega)]at a3
    rw[<-a3];exact(cJ q).symm
  clear a3
  have qb:bytesOf q=jU o:=by rw[q1,Yu]
  have zq:(bytesOf q).length<=11500:=by rw[qb];omega
  refine bh (Znf (s:=m.A2.C6) (by omega)) λx1 g1=> ?_
  have z1:x1.length<=100010:=by rw[g1];exact kl hk
  refine au λx2 g2=> ?_
  have g2:x2=jU [Qo m.A9.D0]:=g2.trans (Mk _)
  have z2:x2.length<=10:=by rw[g2];exact fl _
  refine ar (dY (by(try simp only[lA]);unfold maxLen;omega)) ?_
  refine bh (uP (uu hr.dl).1 (uu hr.dl).2) λx3 g3=> ?_
  rw[tR hr.dl]at g3
  have z3:x3.length<=10:=by rw[g3];exact pZ (by have:=hr.dl.2;omega)
  refine ar (dY (by(try simp only[lA]);unfold maxLen;omega)) ?_
  refine au λx4 g4=> ?_
  have g4:x4=jU [Qo m.A9.C9]:=g4.trans (Mk _)
  have z4:x4.length<=10:=by rw[g4];exact fl _
  refine ar (dY (by(try simp only[lA]);unfold maxLen;omega)) ?_
  refine bh (uP (uu hr.bl).1 (uu hr.bl).2) λx5 g5=> ?_
  rw[tR hr.bl]at g5
  have z5:x5.length<=10:=by rw[g5];exact pZ (by have:=hr.bl.2;omega)
  refine ar (dY (by(try simp only[lA]);unfold maxLen;omega)) ?_
  refine bh (uP (uu d1).1 (uu d1).2) λx6 g6=> ?_
  rw[tR d1]at g6
  have z6:x6.length<=10:=by rw[g6];exact pZ (by have:=d1.2;omega)
  refine ar (dY (by(try simp only[lA]);unfold maxLen;omega)) ?_
  refine bh (uP (uu d2).1 (uu d2).2) λx7 g7=> ?_
  rw[tR d2]at g7
  have z7:x7.length<=10:=by rw[g7];exact pZ (by have:=d2.2;omega)
  refine ar (dY (by(try simp only[lA]);unfold maxLen;omega)) ?_
  refine bh (uP (W _).1 (W _).2) λx8 g8=> ?_
  have z8:x8.length<=10:=by rw[g8];exact pZ (W _).2
  refine ar (dY (by(try simp only[lA]);unfold maxLen;omega)) ?_
  refine bh (uP (W _).1 (W _).2) λx9 g9=> ?_
  have z9:x9.length<=10:=by rw[g9];exact pZ (W _).2
  refine ar (dY (by(try simp only[lA]);unfold maxLen;omega)) ?_
  refine bh (uP (uu d3).1 (uu d3).2) λja g10=> ?_
  rw[tR d3]at g10
  have z10:ja.length<=10:=by rw[g10];exact pZ (by have:=d3.2;omega)
  refine ar (dY (by(try simp only[lA]);unfold maxLen;omega)) ?_
  refine bh (uP (uu d4).1 (uu d4).2) λjv g11=> ?_
  rw[tR d4]at g11
  have z11:jv.length<=10:=by rw[g11];exact pZ (by have:=d4.2;omega)
  refine ar (dY (by(try simp only[lA]);unfold maxLen;omega)) ?_
  refine bh (Znf (s:=m.A4.B5) (by omega)) λjO g12=> ?_
  have z12:jO.length<=100010:=by rw[g12];exact kl ho
  refine ar (dY (by(try simp only[lA]);unfold maxLen;omega)) ?_
  refine bh (uP (uu n1).1 (uu n1).2) λjW g13=> ?_
  rw[tR n1]at g13
  have z13:jW.length<=10:=by rw[g13];exact pZ (by have:=n1.2;omega)
  refine ar (dY (by(try simp only[lA]);unfold maxLen;omega)) ?_
  refine bh (uP (uu n2).1 (uu n2).2) λkF g14=> ?_
  rw[tR n2]at g14
  have z14:kF.length<=10:=by rw[g14];exact pZ (by have:=n2.2;omega)
  refine ar (dY (by(try simp only[lA]);unfold maxLen;omega)) ?_
  refine au λmh g15=> ?_
  have g15:mh=jU [Qo m.C1.C2]:=g15.trans (Mk _)
  have z15:mh.length<=10:=by rw[g15];exact fl _
  refine ar (dY (by(try simp only[lA]);unfold maxLen;omega)) ?_
  refine bh (uP (uu n3).1 (uu n3).2) λlB g16=> ?_
  rw[tR n3]at g16
  have z16:lB.length<=10:=by rw[g16];exact pZ (by have:=n3.2;omega)
  refine ar (dY (by(try simp only[lA]);unfold maxLen;omega)) ?_
  refine au λmP g17=> ?_
  have g17:mP=jU [Qo m.C1.B3]:=g17.trans (Mk _)
  have z17:mP.length<=10:=by rw[g17];exact fl _
  refine ar (dY (by(try simp only[lA]);unfold maxLen;omega)) ?_
  refine bh (uP (uu n4).1 (uu n4).2) λnw g18=> ?_
  rw[tR n4]at g18
  have z18:nw.length<=10:=by rw[g18];exact pZ (by have:=n4.2;omega)
  refine ar (dY (by(try simp only[lA]);unfold maxLen;omega)) ?_
  refine bh (uP (uu b1).1 (uu b1).2) λpY g19=> ?_
  rw[tR b1]at g19
  have z19:pY.length<=10:=by rw[g19];exact pZ (by have:=b1.2;omega)
  refine ar (dY (by(try simp only[lA]);unfold maxLen;omega)) ?_
  refine bh (uP (uu b2).1 (uu b2).2) λsU g20=> ?_
  rw[tR b2]at g20
  have z20:sU.length<=10:=by rw[g20];exact pZ (by have:=b2.2;omega)
  refine ar (dY (by(try simp only[lA]);unfold maxLen;omega)) ?_
  refine bh (uP hr.ct.1 hr.ct.2) λpA g21=> ?_
  have z21:pA.length<=10:=by rw[g21];exact pZ hr.ct.2
  refine ar (dY (by(try simp only[lA]);unfold maxLen;omega)) ?_
  refine au λpB g22=> ?_
  have g22:pB=jU [Qo m.A3]:=g22.trans (Mk _)
  have z22:pB.length<=10:=by rw[g22];exact fl _
  refine ar (dY (by(try simp only[lA]);unfold maxLen;omega)) ?_
  refine au λtQ g23=> ?_
  have g23:tQ=jU [Qo m.A6]:=g23.trans (Mk _)
  have z23:tQ.length<=10:=by rw[g23];exact fl _
  refine ar (dY (by(try simp only[lA]);unfold maxLen;omega)) ?_
  generalize eX:x1++x2++x3++x4++x5++x6++x7++x8++x9++ja++jv++jO++jW++kF++mh++lB++mP++nw++pY++sU++pA++pB++tQ=X
  have zX:X.length<=300400:=by rw[<-eX];simp only[lA];omega
  refine ar (dY (by(try simp only[lA]);unfold maxLen;omega)) ?_
  refine(show _/\_ from⟨?_,?_⟩)
  . show bytesOf q++_=_
    rw[<-eX,qb,o1,g1,g2,g3,g4,g5,g6,g7,g8,g9,g10,g11,g12,g13,g14,g15,g16,g17,g18,g19,g20,g21,g22,g23]
    unfold nN Jq Jr
    simp only[qm,Jo,fF,fK,show jU []=[] from rfl,cJ]
  . show(bytesOf q++_).length<=_
    simp only[lA];omega
theorem Zhv(h0:Int)(s:List UInt8):Pt h0 s=FI h0 s:=rfl
theorem Zgc{m:ao}(hv:oC m)(e:wX m)(hm:m.Mem.length<=1100):Pu m/\Ml m=FI 14695981039346656037 (nN m):=by
 refine Tree.pp (t:=Pv m) (W:=λr=>r=FI 14695981039346656037 (nN m)) ?_
 unfold Pv
 exact bh (Zoe hv e.r hm e.k e.o) λx hx=>cu (show x.length<=1000000000000 by have:=hx.2;omega) (au λy hy=>bq (by rw[hy,hx.1]))
theorem ym{m:ao}(hv:oC m)(e:wX m)(hm:m.Mem.length<=1100):Pw m/\Hh m=Pt 14695981039346656037 (nN m):=by
 refine Tree.pp (t:=Px m) (W:=λr=>r=Pt 14695981039346656037 (nN m)) ?_
 unfold Px
 exact bh (Zn0 hv e.r hm e.k e.o) λx hx=>cu (show x.length<=1000000000000 by have:=hx.2;omega) (au λy hy=>bq (by rw[hy,hx.1]))
theorem Yz{l:List dr}{i:Nat}(h:i<l.length):l.getD i (RK.cg RK.ae)=l[i]:=by
 rw[dC,cG h];rfl
abbrev iU:=ao×List fc×Int×Int
def kA:ao:={A7:={X:={a0:=0,a1:=0,a2:=0,a3:=0,a4:=0,a5:=0,a6:=0,a7:=0,a8:=0,a9:=0,kP:=0,kQ:=0,a12:=0,kR:=0,kS:=0,kT:=0},Pc:=0,B1:={a0:=0,a1:=0,a2:=0,a3:=0,a4:=0,a5:=0,a6:=0,a7:=0}},Mem:=[],A2:={C6:=[]},A9:={D0:=false,B8:=0,C9:=false},A4:={ag:=0,B9:=0,Frame:=0,B6:=0,D1:=0,B4:=0,B0:=0,B5:=[]},C1:={Frame:=0,D6:=0,C2:=false,B7:=0,B3:=false,D8:=0},A1:={C4:=0,C0:=0},A0:=0,A3:=false,A6:=false}
def fy(s:List dr)(i:Int):dr:=s.getD i.toNat (RK.cg RK.ae)
def kG(s:List dr):Nat->Int->ao->Int×ao
 |0,i,y=>(i,y)
 |n+1,i,y=>bif(decide (i<(s.length:Int))&&(((fy s i).At==y.A0)&&((fy s i).C5.C3 !=1)))then kG s n (i+1) (pX y (fy s i).C5).2 else(i,y)
def uQ(go:Int->ao->List fc->iU)(s:List dr)(i:Int)(y:ao)(out:List fc):iU:=
 bif y.A6 then(y,out,i,0)else
 bif pz y then(bif decide (i<(s.length:Int))then(kA,[],0,1303)else(y,out,i,0))else
 bif decide (i<(s.length:Int))then
  (bif((fy s i).At==y.A0)==lR y then
   (bif((fy s i).At==y.A0)then go (i+1) (ez y (fy s i).C5.N).2 (out++(ez y (fy s i).C5.N).1)else go i (ez y 0).2 (out++(ez y 0).1))
  else(kA,[],0,1302))
 else(bif false==lR y then go i (ez y 0).2 (out++(ez y 0).1)else(kA,[],0,1302))
def gp(s:List dr)(u:Int):Nat->Int->ao->List fc->iU
 |0,i,x,out=>(x,out,i,0)
 |k+1,i,x,out=>bif decide (x.A0<1152921504606846976)then uQ (gp s u k) s (kG s (s.length-i).toNat i x).1 (kG s (s.length-i).toNat i x).2 out else(x,out,i,0)
def uR(s:List dr)(i:Nat):Bool:=!decide ((s.getD i (RK.cg RK.ae)).At<(s.getD (i-1) (RK.cg RK.ae)).At)&&!(((s.getD i (RK.cg RK.ae)).At==(s.getD (i-1) (RK.cg RK.ae)).At)&&((s.getD (i-1) (RK.cg RK.ae)).C5.C3==1))
def ki(s:List dr):Bool:=decide (∀i,i<s.length->1<=i->uR s i=true)
def kH(m:ao)(s:List dr)(u:Int):Int:=
 if sd m=false then 1300 else if u<m.A0 then 1300 else if 4000<wrap .u64 (u-m.A0)then 1300 else if 400<s.length then 1300 else if ki s=false then 1301 else if 0<s.length/\(fy s 0).At<m.A0 then 1301 else 0
def bw(m:ao)(s:List dr)(u:Int):iU:=if kH m s u=0 then gp s u (u-m.A0).toNat 0 m []else(kA,[],0,kH m s u)
theorem Hi{β:Type}{c1 c2 c3 cc:Bool}{N T:Tree β}{W:β->Prop}(YA:c1=true->cc=true)(hN:c1=true->c2=true->c3=true->N.w W)(hT:(c1&&(c2&&c3))=false->T.w W):(Tree.br c1 (.cn cc (.br c2 (.cn cc (.br c3 (.cn cc N) T)) T)) T).w W:=by
 refine ab (λh1=>ar (YA h1) (ab (λh2=>ar (YA h1) (ab (λh3=>ar (YA h1) (hN h1 h2 h3)) λh3=>hT (by rw[h1,h2,h3];rfl))) λh2=>hT (by rw[h1,h2];rfl))) λh1=>hT (by rw[h1];rfl)
theorem bn1:∀a b:Bool,(!a==b)=true->(a==b)=false:=by decide
theorem bn2:∀a b:Bool,(!a==b)=false->(a==b)=true:=by decide
theorem bn3:∀a b:Bool,(!b==a)=true->(a==b)=false:=by decide
theorem bn4:∀a b:Bool,(!b==a)=false->(a==b)=true:=by decide
theorem YC{s:List dr}(h:ki s=true):∀i:Nat,i<s.length->1<=i->uR s i=true:=oY h
theorem qn{s:List dr}(h:ki s=true):∀i:Nat,i<s.length->(fy s 0).At<=(s.getD i (RK.cg RK.ae)).At:=by
 intro i
 induction i with
 |zero=>intro _;exact fI _
 |succ i ih=>
  intro hi
  have h1:=YC h (i+1) hi (by omega)
  have h2:=ih (by omega)
  unfold uR at h1
  rw[aE]at h1
  have h3:decide ((s.getD (i+1) (RK.cg RK.ae)).At<(s.getD i (RK.cg RK.ae)).At)=false:=by simpa using h1.1
  have h3:=oN h3
  omega
theorem Z6m{s:List dr}(hl:s.length<=1000000):(Mm s).w (λb=>b=ki s):=by
 unfold Mm
 refine ej (inv:=λz:Int=>1<=z/\(z<=s.length\/z=1)/\∀j:Nat,(j:Int)<z->1<=j->uR s j=true) (μ:=Mn s) ⟨fI 1,.inr rfl,λj h1 h2=>by omega⟩ (cO _) λi ⟨a,b,c⟩=>?_
 have ew:i64.wrap (i+1)=i+1:=by rw[wrap_i64];omega
 have em:i64.wrap (i-1)=i-1:=by rw[wrap_i64];omega
 refine ab (λhb=>?_) (λhb=>bq ?_)
 rotate_left
 ·have hb:=oN hb
  exact(dY λj h1 h2=>c j (by omega) h2).symm
 have hb:i<s.length:=oY hb
 have e1:(i-1).toNat=i.toNat-1:=by omega
 have no:uR s i.toNat=false->false=ki s:=λh=>(dN λk=>by rw[k i.toNat (by omega) (by omega)]at h;cases h).symm
 have nx:uR s i.toNat=true->(1<=i64.wrap (i+1)/\(i64.wrap (i+1)<=s.length\/i64.wrap (i+1)=1)/\∀j:Nat,(j:Int)<i64.wrap (i+1)->1<=j->uR s j=true)/\Mn s (i64.wrap (i+1))<Mn s i:=λh=>by
  show _/\(s.length-i64.wrap (i+1)).toNat<(s.length-i).toNat
  rw[ew]
  refine⟨⟨by omega,by omega,λj h1 h2=>?_⟩,by omega⟩
  by_cases e:(j:Int)<i
  ·exact c j e h2
  ·rw[show j=i.toNat by omega];exact h
 have c1:(bT 4 4&&bJ 0 4&&decide (0<=i64.wrap (i-1)/\i64.wrap (i-1)<(s.length:Int)))=true:=by rw[em];simp[bJ];omega
 have c2:(bT 4 4&&bJ 0 4&&decide (0<=i/\i<(s.length:Int)))=true:=by simp[bJ];omega
 have eP:uR s i.toNat=(!decide ((s.getD i.toNat (RK.cg RK.ae)).At<(s.getD (i64.wrap (i-1)).toNat (RK.cg RK.ae)).At)&&!(((s.getD i.toNat (RK.cg RK.ae)).At==(s.getD (i64.wrap (i-1)).toNat (RK.cg RK.ae)).At)&&((s.getD (i64.wrap (i-1)).toNat (RK.cg RK.ae)).C5.C3==1))):=by rw[em,e1];rfl
 refine ar c2 (ar c1 (ab (λh=>bq (no (by rw[eP,h];rfl))) λh=>ar c2 (ar c1 (ab (λh1=>ar c1 (ab (λh2=>bq (no (by rw[eP,h,h1,h2];rfl))) λh2=>dm (nx (by rw[eP,h,h1,h2];rfl)))) λh1=>dm (nx (by rw[eP,h,h1];rfl))))))
theorem Z8{s:List dr}(hl:s.length<=1000000):(Mo s).w (λb=>b=ki s):=by
 unfold Mo
 refine ej (inv:=λz:Int=>1<=z/\(z<=s.length\/z=1)/\∀j:Nat,(j:Int)<z->1<=j->uR s j=true) (μ:=Mp s) ⟨fI 1,.inr rfl,λj h1 h2=>by omega⟩ (cO _) λi ⟨a,b,c⟩=>?_
 have ew:i64.wrap (i+1)=i+1:=by rw[wrap_i64];omega
 have em:i64.wrap (i-1)=i-1:=by rw[wrap_i64];omega
 refine ab (λhb=>?_) (λhb=>bq ?_)
 rotate_left
 ·have hb:=oN hb
  exact(dY λj h1 h2=>c j (by omega) h2).symm
 have hb:i<s.length:=oY hb
 have e1:(i-1).toNat=i.toNat-1:=by omega
 have no:uR s i.toNat=false->false=ki s:=λh=>(dN λk=>by rw[k i.toNat (by omega) (by omega)]at h;cases h).symm
 have nx:uR s i.toNat=true->(1<=i64.wrap (i+1)/\(i64.wrap (i+1)<=s.length\/i64.wrap (i+1)=1)/\∀j:Nat,(j:Int)<i64.wrap (i+1)->1<=j->uR s j=true)/\Mp s (i64.wrap (i+1))<Mp s i:=λh=>by
  show _/\(s.length-i64.wrap (i+1)).toNat<(s.length-i).toNat
  rw[ew]
  refine⟨⟨by omega,by omega,λj h1 h2=>?_⟩,by omega⟩
  by_cases e:(j:Int)<i
  ·exact c j e h2
  ·rw[show j=i.toNat by omega];exact h
 have c1:(bT 4 4&&bJ 0 4&&decide (0<=i64.wrap (i-1)/\i64.wrap (i-1)<(s.length:Int)))=true:=by rw[em];simp[bJ];omega
 have c2:(bT 4 4&&bJ 0 4&&decide (0<=i/\i<(s.length:Int)))=true:=by simp[bJ];omega
 have eP:uR s i.toNat=(!decide ((s.getD i.toNat (RK.cg RK.ae)).At<(s.getD (i64.wrap (i-1)).toNat (RK.cg RK.ae)).At)&&!(((s.getD i.toNat (RK.cg RK.ae)).At==(s.getD (i64.wrap (i-1)).toNat (RK.cg RK.ae)).At)&&((s.getD (i64.wrap (i-1)).toNat (RK.cg RK.ae)).C5.C3==1))):=by rw[em,e1];rfl
 refine ar c1 (ar c2 (ab (λh=>bq (no (by rw[eP,h];rfl))) λh=>ab (λh1=>ab (λh2=>bq (no (by rw[eP,h,h1,h2];rfl))) λh2=>dm (nx (by rw[eP,h,h1,h2];rfl))) λh1=>dm (nx (by rw[eP,h,h1];rfl))))
theorem xn{m:ao}(hv:oC m){s:List dr}(hs:s.length<=1000000)(hu:∀e∈s,U e.C5.N){u:Int}(u0:0<=u)(u1:u<18446744073709551616):(Py m s u).w (λr=>r=bw m s u/\r.2.1.length<=4000/\r.1.Mem.length<=1024):=by
 unfold Py
 have m0:=hv.pV
 have er:∀c,kH m s u=c->c≠0->((kA,[],0,c):iU)=bw m s u/\((kA,[],0,c):iU).2.1.length<=4000/\((kA,[],0,c):iU).1.Mem.length<=1024:=λc h1 h2=>⟨by unfold bw;rw[h1,if_neg h2],aT _,aT _⟩
 refine au λx0 e0=>?_
 refine ab (λh=>bq (er 1300 ?_ (by decide))) λhm=>ab (λh=>bq (er 1300 ?_ (by decide))) λh1=>ab (λh=>bq (er 1300 ?_ (by decide))) λh2=>ab (λh=>bq (er 1300 ?_ (by decide))) λh3=>cu (show s.length<=1000000000000 by omega) (au λx1 e1=>?_)
 ·unfold kH;rw[if_pos (by rw[<-e0];simpa using h)]
 all_goals have jT:¬sd m=false:=by rw[<-e0];simpa using hm
 ·unfold kH;rw[if_neg jT,if_pos (oY h)]
 all_goals have mZ:¬u<m.A0:=oN h1
 ·unfold kH;rw[if_neg jT,if_neg mZ,if_pos (oY h)]
 all_goals have By:¬4000<wrap .u64 (u-m.A0):=oN h2
 ·unfold kH;rw[if_neg jT,if_neg mZ,if_neg By,if_pos (by have:=oY h;omega)]
 have CM:¬400<s.length:=by have:=oN h3;omega
 have e1:x1=ki s:=by rw[e1];exact Tree.post _ (Z6m (by omega))
 rw[e1]
 refine ab (λh=>bq (er 1301 ?_ (by decide))) λho=>?_
 ·unfold kH;rw[if_neg jT,if_neg mZ,if_neg By,if_neg CM,if_pos (by simpa using h)]
 have jd:¬ki s=false:=by simpa using ho
 have mm:mM m=true:=by rw[Jh hv];simpa using jT
 obtain⟨P,gS,gM⟩:=sT hv mm
 have g:ei P m:=⟨gM,mm⟩
 have hle:m.A0<=u:=by omega
 have h4:u-m.A0<=4000:=by rw[wrap_u64]at By;omega
 refine ab (λhl=>ar (by have:=oY hl;simp[bJ];omega) (ab (λha=>bq (er 1301 ?_ (by decide))) λha=>?_)) λhl=>?_
 ·have hl:=oY hl
  have ha:(fy s 0).At<m.A0:=oY ha
  unfold kH;rw[if_neg jT,if_neg mZ,if_neg By,if_neg CM,if_neg jd,if_pos ⟨by omega,ha⟩]
 all_goals(
  have h0:kH m s u=0:=by
   have hn:¬(0<s.length/\(fy s 0).At<m.A0):=by
    first
     |(have hl:=oN hl;exact fun⟨q,_⟩=>hl (by omega))
     |(have ha:¬(fy s 0).At<m.A0:=oN ha;exact fun⟨_,q⟩=>ha q)
   unfold kH;rw[if_neg jT,if_neg mZ,if_neg By,if_neg CM,if_neg jd,if_neg hn]
  have CN:gp s u (u-m.A0).toNat 0 m []=bw m s u:=by unfold bw;rw[h0,if_pos rfl]
  generalize bw m s u=kN at CN⊢
  refine cu (Tree.pp (qU gM)).1 (au λx2 e2=>?_)
  rw[e2,Jk]
  refine ej (inv:=λv:Int×ao×List fc=>0<=v.1/\v.1<=s.length/\ei P v.2.1/\v.2.1.A0<=u/\(v.2.2.length:Int)<=v.2.1.A0-m.A0/\gp s u (u-v.2.1.A0).toNat v.1 v.2.1 v.2.2=kN) (μ:=Qrq m s u) ⟨fI 0,by show(0:Int)<=_;omega,g,hle,by show((0:Nat):Int)<=m.A0-m.A0;omega,CN⟩ (cO _) λv ⟨a1,a2,a3,a4,a5,a6⟩=>?_
  obtain⟨i0,x,out⟩:=v
  have a1:0<=i0:=a1
  have a2:i0<=s.length:=a2
  have a3:ei P x:=a3
  have a4:x.A0<=u:=a4
  have a5:(out.length:Int)<=x.A0-m.A0:=a5
  have a6:gp s u (u-x.A0).toNat i0 x out=kN:=a6
  refine ab (λhb=>?_) (λhb=>bq ?_)
  rotate_left
  ·have hb:¬x.A0<u:=oN hb
   rw[show(u-x.A0).toNat=0 by omega]at a6
   exact⟨a6,by show out.length<=4000;omega,a3.len⟩
  have hb:x.A0<u:=oY hb
  obtain⟨k,hk⟩:∃k:Nat,(u-x.A0).toNat=k+1:=⟨(u-x.A0).toNat-1,by omega⟩
  rw[hk]at a6
  refine ab (λtP=>?_) (λtP=>bq ?_)
  rotate_left
  ·have sV:(bif decide (x.A0<1152921504606846976)then uQ (gp s u k) s (kG s (s.length-i0).toNat i0 x).1 (kG s (s.length-i0).toNat i0 x).2 out else(x,out,i0,0))=kN:=a6
   have tP:decide (x.A0<1152921504606846976)=false:=tP
   rw[tP]at sV
   exact⟨sV,by show out.length<=4000;omega,a3.len⟩
  have sV:(bif decide (x.A0<1152921504606846976)then uQ (gp s u k) s (kG s (s.length-i0).toNat i0 x).1 (kG s (s.length-i0).toNat i0 x).2 out else(x,out,i0,0))=kN:=a6
  have CO:decide (x.A0<1152921504606846976)=true:=tP
  rw[CO]at sV
  have sV:uQ (gp s u k) s (kG s (s.length-i0).toNat i0 x).1 (kG s (s.length-i0).toNat i0 x).2 out=kN:=sV
  have tP:x.A0<1152921504606846976:=oY CO
  clear a6
  generalize hE:kG s (s.length-i0).toNat i0 x=E at sV
  refine ej (inv:=λw:Int×ao=>0<=w.1/\w.1<=s.length/\ei P w.2/\w.2.A0=x.A0/\kG s (s.length-w.1).toNat w.1 w.2=E) (μ:=Qsa m s u (i0,x,out)) ⟨a1,a2,a3,rfl,hE⟩ (cO _) λw ⟨b1,b2,b3,b4,b5⟩=>?_
  obtain⟨i,y⟩:=w
  have b1:0<=i:=b1
  have b2:i<=s.length:=b2
  have b3:ei P y:=b3
  have b4:y.A0=x.A0:=b4
  have b5:kG s (s.length-i).toNat i y=E:=b5
  have ew:i64.wrap (i+1)=i+1:=by rw[wrap_i64];omega
  have cc:decide (i<(s.length:Int))=true->(bT 4 4&&bJ 0 4&&decide (0<=i/\i<((s.length:Nat):Int)))=true:=λh=>by have:=oY h;simp[bJ];omega
  have uN:decide (i<(s.length:Int))=true->U (s.getD i.toNat (RK.cg RK.ae)).C5.N:=λh=>by
   have:=oY h
   rw[Yz (show i.toNat<s.length by omega)]
   exact hu _ (fJ _)
  refine Hi (λh=>cc h) (λh1 h2 h3=>?_) λhx=>?_
  ·have hi:=oY h1
   obtain⟨g1,c1⟩:=Yj b3 (uN h1)
   refine cu (Tree.pp (Zmr b3.ok (uN h1))).1 (au λx3 e3=>dm ?_)
   have e3:x3.2=(pX y (s.getD i.toNat (RK.cg RK.ae)).C5).2:=by rw[e3]
   show(0<=i64.wrap (i+1)/\i64.wrap (i+1)<=s.length/\ei P x3.2/\x3.2.A0=x.A0/\kG s (s.length-i64.wrap (i+1)).toNat (i64.wrap (i+1)) x3.2=E)/\(s.length-i64.wrap (i+1)).toNat<(s.length-i).toNat
   rw[ew,e3]
   refine⟨⟨by omega,by omega,g1,by rw[c1];exact b4,?_⟩,by omega⟩
   rw[show(s.length-i).toNat=(s.length-(i+1)).toNat+1 by omega]at b5
   have CP:(bif(decide (i<(s.length:Int))&&(((fy s i).At==y.A0)&&((fy s i).C5.C3 !=1)))then kG s (s.length-(i+1)).toNat (i+1) (pX y (fy s i).C5).2 else(i,y))=E:=b5
   rw[show(decide (i<(s.length:Int))&&(((fy s i).At==y.A0)&&((fy s i).C5.C3 !=1)))=true by
    have h1:decide (i<(s.length:Int))=true:=h1
    have h2:((fy s i).At==y.A0)=true:=h2
    have h3:((fy s i).C5.C3 !=1)=true:=h3
    rw[h1,h2,h3];rfl]at CP
   exact CP
  have hx:(decide (i<(s.length:Int))&&(((fy s i).At==y.A0)&&((fy s i).C5.C3 !=1)))=false:=hx
  have eE:(i,y)=E:=by
   generalize(s.length-i).toNat=n at b5
   cases n with
   |zero=>exact b5
   |succ n=>
    have CP:(bif(decide (i<(s.length:Int))&&(((fy s i).At==y.A0)&&((fy s i).C5.C3 !=1)))then kG s n (i+1) (pX y (fy s i).C5).2 else(i,y))=E:=b5
    rw[hx]at CP;exact CP
  subst eE
  have R0:uQ (gp s u k) s i y out=kN:=sV
  unfold uQ at R0
  have lo:out.length<=4000:=by omega
  have st:y.A6=false->pz y=false->rF y=false:=λh1 h2=>(Jm b3).2 ⟨h1,h2,by omega⟩
  have fin:∀(c:Int) (j:Int),U c->rF y=false->0<=j->j<=s.length->gp s u k j (ez y c).2 (out++(ez y c).1)=kN->decide (40*(out.length+(ez y c).1.length)<=140737488355328)=true/\((0<=j/\j<=s.length/\ei P (ez y c).2/\(ez y c).2.A0<=u/\((out++(ez y c).1).length:Int)<=(ez y c).2.A0-m.A0/\gp s u (u-(ez y c).2.A0).toNat j (ez y c).2 (out++(ez y c).1)=kN)/\(u-(ez y c).2.A0).toNat<(u-x.A0).toNat):=λc j hc hs j1 j2 hr=>by
   obtain⟨g1,c1,l1⟩:=Me b3 hs hc
   refine⟨dY (by omega),⟨j1,j2,g1,by omega,by rw[lA];omega,?_⟩,by omega⟩
   rw[show(u-(ez y c).2.A0).toNat=k by omega];exact hr
  refine ab (λhh=>bq ?_) λhh=>cu (Tree.pp (qZ y)).1 (au λx4 e4=>?_)
  ·have hh:y.A6=true:=hh
   rw[hh]at R0
   exact⟨R0,lo,b3.len⟩
  have hh:y.A6=false:=hh
  rw[hh]at R0
  have e4:x4=pz y:=e4
  rw[e4]
  refine ab (λhi=>?_) λhi=>?_
  ·have R1:(bif pz y then(bif decide (i<(s.length:Int))then((kA,[],0,1303):iU)else(y,out,i,0))else _)=kN:=R0
   rw[hi]at R1
   have R1:(bif decide (i<(s.length:Int))then((kA,[],0,1303):iU)else(y,out,i,0))=kN:=R1
   refine ab (λhl=>bq ?_) λhl=>bq ?_
   ·have hl:decide (i<(s.length:Int))=true:=hl
    rw[hl]at R1;exact⟨R1,aT _,aT _⟩
   ·have hl:decide (i<(s.length:Int))=false:=hl
    rw[hl]at R1;exact⟨R1,lo,b3.len⟩
  have sk:=st hh hi
  have R2:(bif decide (i<(s.length:Int))then
   (bif((fy s i).At==y.A0)==lR y then
    (bif((fy s i).At==y.A0)then gp s u k (i+1) (ez y (fy s i).C5.N).2 (out++(ez y (fy s i).C5.N).1)else gp s u k i (ez y 0).2 (out++(ez y 0).1))
   else((kA,[],0,1302):iU))
  else(bif false==lR y then gp s u k i (ez y 0).2 (out++(ez y 0).1)else(kA,[],0,1302)))=kN:=by
   have R1:(bif pz y then(bif decide (i<(s.length:Int))then((kA,[],0,1303):iU)else(y,out,i,0))else _)=kN:=R0
   rw[hi]at R1;exact R1
  clear R0
  have rq:∀z,z=lR y->z=lR y:=λz hz=>hz
  have Jv:∀(c:Int),U c->Pz y c:=λc hc=>(Tree.pp (WU b3.ok hc)).1
  have CQ:∀(c:Int) (z:List fc×ao),z=ez y c->z.1=(ez y c).1/\z.2=(ez y c).2:=λc z hz=>by rw[hz];exact⟨rfl,rfl⟩
  have FJ:gp s u k i (ez y 0).2 (out++(ez y 0).1)=kN->∀z:List fc×ao,z=ez y 0->decide (40*(out.length+z.1.length)<=140737488355328)=true/\((0<=i/\i<=s.length/\ei P z.2/\z.2.A0<=u/\((out++z.1).length:Int)<=z.2.A0-m.A0/\gp s u (u-z.2.A0).toNat i z.2 (out++z.1)=kN)/\(u-z.2.A0).toNat<(u-x.A0).toNat):=λhr z hz=>by
   obtain⟨z1,z2⟩:=CQ 0 z hz
   rw[z1,z2]
   exact fin 0 i ep sk b1 b2 hr
  refine ab (λhl=>?_) λhl=>?_
  ·have hl:decide (i<(s.length:Int))=true:=hl
   have iJ:=oY hl
   rw[hl]at R2
   have R2:(bif((fy s i).At==y.A0)==lR y then
    (bif((fy s i).At==y.A0)then gp s u k (i+1) (ez y (fy s i).C5.N).2 (out++(ez y (fy s i).C5.N).1)else gp s u k i (ez y 0).2 (out++(ez y 0).1))
   else((kA,[],0,1302):iU))=kN:=R2
   refine ar (cc hl) (cu (Tree.pp (WW b3.ok.lY b3.ok.mem)).1 (au λx5 e5=>?_))
   have e5:=rq x5 e5
   rw[e5]
   refine ab (λhn=>bq ?_) λhn=>?_
   ·have hn:=bn1 ((fy s i).At==y.A0) (lR y) hn
    rw[hn]at R2
    exact⟨R2,aT _,aT _⟩
   have hn:=bn2 ((fy s i).At==y.A0) (lR y) hn
   rw[hn]at R2
   have R2:(bif((fy s i).At==y.A0)then gp s u k (i+1) (ez y (fy s i).C5.N).2 (out++(ez y (fy s i).C5.N).1)else gp s u k i (ez y 0).2 (out++(ez y 0).1))=kN:=R2
   refine ab (λha=>ar (cc hl) (cu (Jv _ (uN hl)) (au λx6 e6=>?_))) λha=>?_
   ·have ha:((fy s i).At==y.A0)=true:=ha
    rw[ha]at R2
    obtain⟨z1,z2⟩:=CQ _ x6 e6
    have F:=fin (fy s i).C5.N (i+1) (uN hl) sk (by omega) (by omega) R2
    refine ar (by rw[z1];exact F.1) (dm ?_)
    have F2:=F.2
    rw[<-ew]at F2
    show(0<=i64.wrap (i+1)/\i64.wrap (i+1)<=s.length/\ei P x6.2/\x6.2.A0<=u/\((out++x6.1).length:Int)<=x6.2.A0-m.A0/\gp s u (u-x6.2.A0).toNat (i64.wrap (i+1)) x6.2 (out++x6.1)=kN)/\(u-x6.2.A0).toNat<(u-x.A0).toNat
    rw[z1,z2];exact F2
   ·have ha:((fy s i).At==y.A0)=false:=ha
    rw[ha]at R2
    exact cu (Jv _ ep) (au λx7 e7=>ar (FJ R2 x7 e7).1 (dm (FJ R2 x7 e7).2))
  ·have hl:decide (i<(s.length:Int))=false:=hl
   rw[hl]at R2
   have R2:(bif false==lR y then gp s u k i (ez y 0).2 (out++(ez y 0).1)else((kA,[],0,1302):iU))=kN:=R2
   refine cu (Tree.pp (WW b3.ok.lY b3.ok.mem)).1 (au λx8 e8=>?_)
   have e8:=rq x8 e8
   rw[e8]
   refine ab (λhn=>bq ?_) λhn=>?_
   ·have hn:=bn1 false (lR y) hn
    rw[hn]at R2
    exact⟨R2,aT _,aT _⟩
   have hn:=bn2 false (lR y) hn
   rw[hn]at R2
   exact cu (Jv _ ep) (au λx7 e7=>ar (FJ R2 x7 e7).1 (dm (FJ R2 x7 e7).2)))
theorem PA{m:ao}(hv:oC m){s:List dr}(hs:s.length<=1000000){u:Int}:(PB m s u).w (λx=>x=kH m s u):=by
 unfold PB
 refine cu (Tree.pp (Tp hv.tO.2)).1 (au λx0 e0=>?_)
 have e0:x0=sd m:=e0.trans (Jh hv)
 refine ab (λh=>bq ?_) λhm=>ab (λh=>bq ?_) λh1=>ab (λh=>bq ?_) λh2=>ab (λh=>bq ?_) λh3=>cu (show s.length<=1000000000000 by omega) (au λx1 e1=>?_)
 ·unfold kH;rw[if_pos (by rw[<-e0];simpa using h)]
 all_goals have jT:¬sd m=false:=by rw[<-e0];simpa using hm
 ·unfold kH;rw[if_neg jT,if_pos (oY h)]
 all_goals have mZ:¬u<m.A0:=oN h1
 ·unfold kH;rw[if_neg jT,if_neg mZ,if_pos (oY h)]
 all_goals have By:¬4000<wrap .u64 (u-m.A0):=oN h2
 ·unfold kH;rw[if_neg jT,if_neg mZ,if_neg By,if_pos (by have:=oY h;omega)]
 have CM:¬400<s.length:=by have:=oN h3;omega
 have e1:x1=ki s:=by rw[e1];exact Tree.post _ (Z8 (by omega))
 rw[e1]
 refine ab (λh=>bq ?_) λho=>?_
 ·unfold kH;rw[if_neg jT,if_neg mZ,if_neg By,if_neg CM,if_pos (by simpa using h)]
 have jd:ki s=true:=by simpa using ho
 have ho2:¬ki s=false:=by rw[jd];simp
 refine ej (inv:=λi:Int=>0<=i/\i<=s.length/\(0<i->¬(fy s 0).At<m.A0)) (μ:=Qn1 m s u) ⟨fI 0,by omega,λh=>absurd h (Int.lt_irrefl 0)⟩ (cO _) λi ⟨v1,v2,v3⟩=>?_
 refine ab (λhb=>?_) (λhb=>bq ?_)
 ·have hb:=oY hb
  have cq:i.toNat<s.length:=by omega
  have of:=qn jd i.toNat cq
  have ew:i64.wrap (i+1)=i+1:=by rw[wrap_i64];omega
  refine ar (by simp[bJ];omega) (ab (λh=>bq ?_) λh=>dm ?_)
  ·have h:=oY h
   show(1301:Int)=_
   unfold kH;rw[if_neg jT,if_neg mZ,if_neg By,if_neg CM,if_neg ho2,if_pos ⟨by omega,by omega⟩]
  ·have h:=oN h
   show(0<=i64.wrap (i+1)/\i64.wrap (i+1)<=s.length/\(0<i64.wrap (i+1)->¬(fy s 0).At<m.A0))/\(s.length-i64.wrap (i+1)).toNat<(s.length-i).toNat
   rw[ew]
   refine⟨⟨by omega,by omega,λ_=>?_⟩,by omega⟩
   by_cases e:0<i
   ·exact v3 e
   ·have:i=0:=by omega
    subst this;exact h
 ·have hb:=oN hb
  show(0:Int)=_
  unfold kH;rw[if_neg jT,if_neg mZ,if_neg By,if_neg CM,if_neg ho2,if_neg fun⟨q1,q2⟩=>v3 (by omega) q2]
theorem zn{m:ao}(hv:oC m){s:List dr}(hs:s.length<=1000000)(hu:∀e∈s,U e.C5.N){u:Int}(u0:0<=u)(u1:u<18446744073709551616):(PC m s u).w (λr=>r=bw m s u/\r.2.1.length<=4000/\r.1.Mem.length<=1024):=by
 unfold PC
 have m0:=hv.pV
 refine bh (PA hv hs) λx0 e0=>?_
 rw[e0]
 refine ab (λh=>bq ⟨?_,aT _,aT _⟩) λh=>?_
 ·have h:¬kH m s u=0:=by simpa using h
  unfold bw;rw[if_neg h];rfl
 have h0:kH m s u=0:=by simpa using h
 have hm:¬sd m=false:=λq=>by unfold kH at h0;rw[if_pos q]at h0;cases h0
 have h1:¬u<m.A0:=λq=>by unfold kH at h0;rw[if_neg hm,if_pos q]at h0;cases h0
 have h2:¬4000<wrap .u64 (u-m.A0):=λq=>by unfold kH at h0;rw[if_neg hm,if_neg h1,if_pos q]at h0;cases h0
 have mm:mM m=true:=by rw[Jh hv];simpa using hm
 obtain⟨P,gS,gM⟩:=sT hv mm
 have g:ei P m:=⟨gM,mm⟩
 have hle:m.A0<=u:=by omega
 have h4:u-m.A0<=4000:=by rw[wrap_u64]at h2;omega
 have CN:gp s u (u-m.A0).toNat 0 m []=bw m s u:=by unfold bw;rw[h0,if_pos rfl]
 generalize bw m s u=kN at CN⊢
 refine cu (r6 gM.mem) (au λx1 e1=>?_)
 have gz:jK m.Mem=m.Mem:=rfl
 rw[gz]at e1
 subst e1
 refine ej (inv:=λv:Int×ao×List fc=>0<=v.1/\v.1<=s.length/\ei P v.2.1/\v.2.1.A0<=u/\(v.2.2.length:Int)<=v.2.1.A0-m.A0/\gp s u (u-v.2.1.A0).toNat v.1 v.2.1 v.2.2=kN) (μ:=Qs m s u) ⟨fI 0,by show(0:Int)<=_;omega,g,hle,by show((0:Nat):Int)<=m.A0-m.A0;omega,CN⟩ (cO _) λv ⟨a1,a2,a3,a4,a5,a6⟩=>?_
 obtain⟨i0,x,out⟩:=v
 have a1:0<=i0:=a1
 have a2:i0<=s.length:=a2
 have a3:ei P x:=a3
 have a4:x.A0<=u:=a4
 have a5:(out.length:Int)<=x.A0-m.A0:=a5
 have a6:gp s u (u-x.A0).toNat i0 x out=kN:=a6
 refine ab (λhb=>?_) (λhb=>bq ?_)
 rotate_left
 ·have hb:¬x.A0<u:=oN hb
  rw[show(u-x.A0).toNat=0 by omega]at a6
  exact⟨a6,by show out.length<=4000;omega,a3.len⟩
 have hb:x.A0<u:=oY hb
 obtain⟨k,hk⟩:∃k:Nat,(u-x.A0).toNat=k+1:=⟨(u-x.A0).toNat-1,by omega⟩
 rw[hk]at a6
 refine ab (λtP=>?_) (λtP=>bq ?_)
 rotate_left
 ·have sV:(bif decide (x.A0<1152921504606846976)then uQ (gp s u k) s (kG s (s.length-i0).toNat i0 x).1 (kG s (s.length-i0).toNat i0 x).2 out else(x,out,i0,0))=kN:=a6
  have tP:decide (x.A0<1152921504606846976)=false:=tP
  rw[tP]at sV
  exact⟨sV,by show out.length<=4000;omega,a3.len⟩
 have sV:(bif decide (x.A0<1152921504606846976)then uQ (gp s u k) s (kG s (s.length-i0).toNat i0 x).1 (kG s (s.length-i0).toNat i0 x).2 out else(x,out,i0,0))=kN:=a6
 have CO:decide (x.A0<1152921504606846976)=true:=tP
 rw[CO]at sV
 have sV:uQ (gp s u k) s (kG s (s.length-i0).toNat i0 x).1 (kG s (s.length-i0).toNat i0 x).2 out=kN:=sV
 have tP:x.A0<1152921504606846976:=oY CO
 clear a6
 generalize hE:kG s (s.length-i0).toNat i0 x=E at sV
 refine ej (inv:=λw:Int×ao=>0<=w.1/\w.1<=s.length/\ei P w.2/\w.2.A0=x.A0/\kG s (s.length-w.1).toNat w.1 w.2=E) (μ:=Qs7 m s u (i0,x,out)) ⟨a1,a2,a3,rfl,hE⟩ (cO _) λw ⟨b1,b2,b3,b4,b5⟩=>?_
 obtain⟨i,y⟩:=w
 have b1:0<=i:=b1
 have b2:i<=s.length:=b2
 have b3:ei P y:=b3
 have b4:y.A0=x.A0:=b4
 have b5:kG s (s.length-i).toNat i y=E:=b5
 have ew:i64.wrap (i+1)=i+1:=by rw[wrap_i64];omega
 have cc:decide (i<(s.length:Int))=true->(bT 4 4&&bJ 0 4&&decide (0<=i/\i<((s.length:Nat):Int)))=true:=λh=>by have:=oY h;simp[bJ];omega
 have uN:decide (i<(s.length:Int))=true->U (s.getD i.toNat (RK.cg RK.ae)).C5.N:=λh=>by
  have:=oY h
  rw[Yz (show i.toNat<s.length by omega)]
  exact hu _ (fJ _)
 refine Hi (λh=>cc h) (λh1 h2 h3=>?_) λhx=>?_
 ·have hi:=oY h1
  obtain⟨g1,c1⟩:=Yj b3 (uN h1)
  refine cu (Zqh b3.v b3.len (uN h1)) (au λx3 e3=>dm ?_)
  have e3:x3.1=(pX y (s.getD i.toNat (RK.cg RK.ae)).C5).2:=by rw[e3,b3.app]
  show(0<=i64.wrap (i+1)/\i64.wrap (i+1)<=s.length/\ei P x3.1/\x3.1.A0=x.A0/\kG s (s.length-i64.wrap (i+1)).toNat (i64.wrap (i+1)) x3.1=E)/\(s.length-i64.wrap (i+1)).toNat<(s.length-i).toNat
  rw[ew,e3]
  refine⟨⟨by omega,by omega,g1,by rw[c1];exact b4,?_⟩,by omega⟩
  rw[show(s.length-i).toNat=(s.length-(i+1)).toNat+1 by omega]at b5
  have CP:(bif(decide (i<(s.length:Int))&&(((fy s i).At==y.A0)&&((fy s i).C5.C3 !=1)))then kG s (s.length-(i+1)).toNat (i+1) (pX y (fy s i).C5).2 else(i,y))=E:=b5
  rw[show(decide (i<(s.length:Int))&&(((fy s i).At==y.A0)&&((fy s i).C5.C3 !=1)))=true by
   have h1:decide (i<(s.length:Int))=true:=h1
   have h2:((fy s i).At==y.A0)=true:=h2
   have h3:((fy s i).C5.C3 !=1)=true:=h3
   rw[h1,h2,h3];rfl]at CP
  exact CP
 have hx:(decide (i<(s.length:Int))&&(((fy s i).At==y.A0)&&((fy s i).C5.C3 !=1)))=false:=hx
 have eE:(i,y)=E:=by
  generalize(s.length-i).toNat=n at b5
  cases n with
  |zero=>exact b5
  |succ n=>
   have CP:(bif(decide (i<(s.length:Int))&&(((fy s i).At==y.A0)&&((fy s i).C5.C3 !=1)))then kG s n (i+1) (pX y (fy s i).C5).2 else(i,y))=E:=b5
   rw[hx]at CP;exact CP
 subst eE
 have R0:uQ (gp s u k) s i y out=kN:=sV
 unfold uQ at R0
 have lo:out.length<=4000:=by omega
 have st:y.A6=false->pz y=false->rF y=false:=λh1 h2=>(Jm b3).2 ⟨h1,h2,by omega⟩
 have fin:∀(c:Int) (j:Int),U c->rF y=false->0<=j->j<=s.length->gp s u k j (ez y c).2 (out++(ez y c).1)=kN->decide (40*(out.length+(ez y c).1.length)<=140737488355328)=true/\((0<=j/\j<=s.length/\ei P (ez y c).2/\(ez y c).2.A0<=u/\((out++(ez y c).1).length:Int)<=(ez y c).2.A0-m.A0/\gp s u (u-(ez y c).2.A0).toNat j (ez y c).2 (out++(ez y c).1)=kN)/\(u-(ez y c).2.A0).toNat<(u-x.A0).toNat):=λc j hc hs j1 j2 hr=>by
  obtain⟨g1,c1,l1⟩:=Me b3 hs hc
  refine⟨dY (by omega),⟨j1,j2,g1,by omega,by rw[lA];omega,?_⟩,by omega⟩
  rw[show(u-(ez y c).2.A0).toNat=k by omega];exact hr
 refine ab (λhh=>bq ?_) λhh=>cu (zaj b3.ok.target.2) (au λx4 e4=>?_)
 ·have hh:y.A6=true:=hh
  rw[hh]at R0
  exact⟨R0,lo,b3.len⟩
 have hh:y.A6=false:=hh
 rw[hh]at R0
 have e4:x4=pz y:=(e4.trans b3.idle)
 rw[e4]
 refine ab (λhi=>?_) λhi=>?_
 ·have R1:(bif pz y then(bif decide (i<(s.length:Int))then((kA,[],0,1303):iU)else(y,out,i,0))else _)=kN:=R0
  rw[hi]at R1
  have R1:(bif decide (i<(s.length:Int))then((kA,[],0,1303):iU)else(y,out,i,0))=kN:=R1
  refine ab (λhl=>bq ?_) λhl=>bq ?_
  ·have hl:decide (i<(s.length:Int))=true:=hl
   rw[hl]at R1;exact⟨R1,aT _,aT _⟩
  ·have hl:decide (i<(s.length:Int))=false:=hl
   rw[hl]at R1;exact⟨R1,lo,b3.len⟩
 have sk:=st hh hi
 have R2:(bif decide (i<(s.length:Int))then
  (bif((fy s i).At==y.A0)==lR y then
   (bif((fy s i).At==y.A0)then gp s u k (i+1) (ez y (fy s i).C5.N).2 (out++(ez y (fy s i).C5.N).1)else gp s u k i (ez y 0).2 (out++(ez y 0).1))
  else((kA,[],0,1302):iU))
 else(bif false==lR y then gp s u k i (ez y 0).2 (out++(ez y 0).1)else(kA,[],0,1302)))=kN:=by
  have R1:(bif pz y then(bif decide (i<(s.length:Int))then((kA,[],0,1303):iU)else(y,out,i,0))else _)=kN:=R0
  rw[hi]at R1;exact R1
 clear R0
 have rq:∀z,z=O3 y->z=lR y:=λz hz=>by rw[hz,Zq1 b3.v,show Ym y=bif rF y then false else lR y from rfl,sk];rfl
 have Jw:∀(c:Int),U c->O1 y c:=λc hc=>(vk b3.v b3.len (clock:=c) hc).1
 have CQ:∀(c:Int) (z:ao×List fc),z=AT y c->z.2=(ez y c).1/\z.1=(ez y c).2:=λc z hz=>by rw[hz,b3.step sk];exact⟨rfl,rfl⟩
 have FJ:gp s u k i (ez y 0).2 (out++(ez y 0).1)=kN->∀z:ao×List fc,z=AT y 0->decide (40*(out.length+z.2.length)<=140737488355328)=true/\((0<=i/\i<=s.length/\ei P z.1/\z.1.A0<=u/\((out++z.2).length:Int)<=z.1.A0-m.A0/\gp s u (u-z.1.A0).toNat i z.1 (out++z.2)=kN)/\(u-z.1.A0).toNat<(u-x.A0).toNat):=λhr z hz=>by
  obtain⟨z1,z2⟩:=CQ 0 z hz
  rw[z1,z2]
  exact fin 0 i ep sk b1 b2 hr
 refine ab (λhl=>?_) λhl=>?_
 ·have hl:decide (i<(s.length:Int))=true:=hl
  have iJ:=oY hl
  rw[hl]at R2
  have R2:(bif((fy s i).At==y.A0)==lR y then
   (bif((fy s i).At==y.A0)then gp s u k (i+1) (ez y (fy s i).C5.N).2 (out++(ez y (fy s i).C5.N).1)else gp s u k i (ez y 0).2 (out++(ez y 0).1))
  else((kA,[],0,1302):iU))=kN:=R2
  refine ar (cc hl) (cu (Tree.pp (Zmd b3.s)).1 (au λx5 e5=>?_))
  have e5:=rq x5 e5
  rw[e5]
  refine ab (λhn=>bq ?_) λhn=>?_
  ·have hn:=bn3 ((fy s i).At==y.A0) (lR y) hn
   rw[hn]at R2
   exact⟨R2,aT _,aT _⟩
  have hn:=bn4 ((fy s i).At==y.A0) (lR y) hn
  rw[hn]at R2
  have R2:(bif((fy s i).At==y.A0)then gp s u k (i+1) (ez y (fy s i).C5.N).2 (out++(ez y (fy s i).C5.N).1)else gp s u k i (ez y 0).2 (out++(ez y 0).1))=kN:=R2
  refine ab (λha=>ar (cc hl) (cu (Jw _ (uN hl)) (au λx6 e6=>?_))) λha=>?_
  ·have ha:((fy s i).At==y.A0)=true:=ha
   rw[ha]at R2
   obtain⟨z1,z2⟩:=CQ _ x6 e6
   have F:=fin (fy s i).C5.N (i+1) (uN hl) sk (by omega) (by omega) R2
   refine ar (by rw[z1];exact F.1) (dm ?_)
   have F2:=F.2
   rw[<-ew]at F2
   show(0<=i64.wrap (i+1)/\i64.wrap (i+1)<=s.length/\ei P x6.1/\x6.1.A0<=u/\((out++x6.2).length:Int)<=x6.1.A0-m.A0/\gp s u (u-x6.1.A0).toNat (i64.wrap (i+1)) x6.1 (out++x6.2)=kN)/\(u-x6.1.A0).toNat<(u-x.A0).toNat
   rw[z1,z2];exact F2
  ·have ha:((fy s i).At==y.A0)=false:=ha
   rw[ha]at R2
   exact cu (Jw _ ep) (au λx7 e7=>ar (FJ R2 x7 e7).1 (dm (FJ R2 x7 e7).2))
 ·have hl:decide (i<(s.length:Int))=false:=hl
  rw[hl]at R2
  have R2:(bif false==lR y then gp s u k i (ez y 0).2 (out++(ez y 0).1)else((kA,[],0,1302):iU))=kN:=R2
  refine cu (Tree.pp (Zmd b3.s)).1 (au λx8 e8=>?_)
  have e8:=rq x8 e8
  rw[e8]
  refine ab (λhn=>bq ?_) λhn=>?_
  ·have hn:=bn3 false (lR y) hn
   rw[hn]at R2
   exact⟨R2,aT _,aT _⟩
  have hn:=bn4 false (lR y) hn
  rw[hn]at R2
  exact cu (Jw _ ep) (au λx7 e7=>ar (FJ R2 x7 e7).1 (dm (FJ R2 x7 e7).2))
def Ey(s:List dr)(i:Int)(y:ao):Bool:=decide (i<(s.length:Int))&&(((fy s i).At==y.A0)&&((fy s i).C5.C3 !=1))
theorem YD(s:List dr)(n:Nat)(i:Int)(y:ao):kG s (n+1) i y=bif Ey s i y then kG s n (i+1) (pX y (fy s i).C5).2 else(i,y):=rfl
theorem zak{s:List dr}{i:Int}{y:ao}(hx:Ey s i y=false):∀n,kG s n i y=(i,y)
 |0=>rfl
 |n+1=>by rw[YD,hx];rfl
theorem PD(s:List dr)(u:Int)(k:Nat)(i:Int)(x:ao)(out:List fc):gp s u (k+1) i x out=bif decide (x.A0<1152921504606846976)then uQ (gp s u k) s (kG s (s.length-i).toNat i x).1 (kG s (s.length-i).toNat i x).2 out else(x,out,i,0):=rfl
def Ez(s:List dr)(i:Int)(x:ao):Prop:=∀j:Nat,i<=j->j<s.length->x.A0<=(fy s j).At
structure evK(P:Nat)(s:List dr)(i:Int)(x:ao)(E:Int×ao):Prop where
 lo:i<=E.1
 hi:E.1<=s.length
 g:ei P E.2
 c:E.2.A0=x.A0
 fix:Ey s E.1 E.2=false
theorem CR{s:List dr}(hu:∀e∈s,U e.C5.N){i:Int}(h0:0<=i)(h:i<s.length):U (fy s i).C5.N:=by
 unfold fy
 rw[Yz (show i.toNat<s.length by omega)]
 exact hu _ (fJ _)
theorem YE{P:Nat}{s:List dr}(hu:∀e∈s,U e.C5.N):∀(n:Nat) {i:Int} {x:ao},ei P x->0<=i->i<=s.length->(s.length-i).toNat<=n->evK P s i x (kG s n i x)
 |0,i,x,g,h0,h1,hn=>⟨fI i,h1,g,rfl,by unfold Ey;rw[show kG s 0 i x=(i,x) from rfl,dN (show¬i<(s.length:Int) by omega)];rfl⟩
 |n + 1,i,x,g,h0,h1,hn=>by
  rw[YD]
  cases hb:Ey s i x
  ·exact⟨fI i,h1,g,rfl,hb⟩
  ·have cq:i<s.length:=by
    unfold Ey at hb
    rw[aE]at hb
    exact oY hb.1
   obtain⟨g1,c1⟩:=Yj g (CR hu h0 cq)
   have k:=YE hu n (i:=i+1) g1 (by omega) (by omega) (by omega)
   show evK P s i x (kG s n (i+1) (pX x (fy s i).C5).2)
   exact⟨by have:=k.lo;omega,k.hi,k.g,k.c.trans c1,k.fix⟩
theorem Ui{s:List dr}{i:Int}{y:ao}(hx:Ey s i y=false)(h:y.A6=true\/(pz y=true/\decide (i<(s.length:Int))=false))(u:Int):∀(b:Nat) (out:List fc),gp s u b i y out=(y,out,i,0)
 |0,_=>rfl
 |b +1,out=>by
  rw[PD,zak hx]
  cases decide (y.A0<1152921504606846976)
  ·rfl
  ·unfold uQ
   rcases h with h|⟨h1,h2⟩
   ·rw[h];rfl
   ·rw[h1,h2];cases y.A6<;>rfl
theorem zW{s:List dr}(h:ki s=true)(i:Nat):∀j:Nat,i<=j->j<s.length->(fy s i).At<=(fy s j).At:=by
 intro j
 induction j with
 |zero=>intro h1 _;rw[show i=0 by omega];exact fI _
 |succ j ih=>
  intro h1 h2
  by_cases e:i=j+1
  ·rw[e];exact fI _
  ·have h3:=YC h (j+1) h2 (by omega)
   have h4:=ih (by omega) (by omega)
   unfold uR at h3
   rw[aE]at h3
   have h5:decide ((s.getD (j+1) (RK.cg RK.ae)).At<(s.getD j (RK.cg RK.ae)).At)=false:=by simpa using h3.1
   have h5:=oN h5
   unfold fy at h4⊢
   rw[eC]at h4⊢
   rw[eC]at h4⊢
   omega
theorem zaA{s:List dr}(h:ki s=true)(i:Nat)(hk:(fy s i).C5.C3=1)(j:Nat)(h1:i<j)(h2:j<s.length):(fy s i).At<(fy s j).At:=by
 have h3:=YC h (i+1) (by omega) (by omega)
 have h4:=zW h (i+1) j (by omega) h2
 unfold uR at h3
 rw[aE]at h3
 have h5:decide ((s.getD (i+1) (RK.cg RK.ae)).At<(s.getD i (RK.cg RK.ae)).At)=false:=by simpa using h3.1
 have h5:=oN h5
 unfold fy at h4 hk⊢
 rw[eC]at hk h4⊢
 rw[eC]at h4⊢
 have h6:=h3.2
 rw[show i+1-1=i by omega,show((s.getD i (RK.cg RK.ae)).C5.C3==1)=true by rw[hk];rfl]at h6
 have h7:¬(s.getD (i+1) (RK.cg RK.ae)).At=(s.getD i (RK.cg RK.ae)).At:=by simpa using h6
 omega
theorem PE{s:List dr}{i j:Int}{x y:ao}(h:Ez s i x)(hl:i<=j)(hc:y.A0=x.A0):Ez s j y:=λq h1 h2=>by
 have:=h q (by omega) h2;omega
theorem Zna{s:List dr}{j:Int}{y z:ao}(ho:ki s=true)(h:Ez s j y)(h0:0<=j)(hn:j<s.length->¬(fy s j).At=y.A0)(hc:z.A0=y.A0+1):Ez s j z:=λq h1 h2=>by
 have a:=h j.toNat (by omega) (by omega)
 have b:=zW ho j.toNat q (by omega) h2
 rw[eG h0]at a b
 have:=hn (by omega)
 omega
theorem yn{s:List dr}{j:Int}{y z:ao}(ho:ki s=true)(h:Ez s j y)(h0:0<=j)(hj:j<s.length)(hk:(fy s j).C5.C3=1)(hc:z.A0=y.A0+1):Ez s (j+1) z:=λq h1 h2=>by
 have a:=h j.toNat (by omega) (by omega)
 have b:=zaA ho j.toNat (by rw[eG h0];exact hk) q (by omega) h2
 rw[eG h0]at a b
 omega
structure YF(P:Nat)(s:List dr)(i:Int)(x:ao)(k:Nat)(r:iU):Prop where
 g:ei P r.1
 lo:i<=r.2.2.1
 hi:r.2.2.1<=s.length
 c0:x.A0<=r.1.A0
 c1:r.1.A0<=x.A0+k
 ah:ki s=true->Ez s i x->Ez s r.2.2.1 r.1
 st:r.1.A0=x.A0+k\/∀(u:Int) (b:Nat) (o:List fc),gp s u b r.2.2.1 r.1 o=(r.1,o,r.2.2.1,0)
theorem vn{P:Nat}{s:List dr}(hu:∀e∈s,U e.C5.N)(u:Int):∀(a:Nat) {i:Int} {x:ao} {out:List fc},ei P x->0<=i->i<=s.length->
 ((gp s u a i x out).2.2.2=0->YF P s i x a (gp s u a i x out))/\((gp s u a i x out).2.2.2≠0->(gp s u a i x out).1=kA/\(gp s u a i x out).2.1=[]/\(gp s u a i x out).2.2.1=0)/\
 ∀b,gp s u (a+b) i x out=bif(gp s u a i x out).2.2.2==0 then gp s u b (gp s u a i x out).2.2.1 (gp s u a i x out).1 (gp s u a i x out).2.1 else gp s u a i x out
 |0,i,x,out,g,h0,h1=>⟨λ_=>⟨g,fI i,h1,fI _,by show x.A0<=x.A0+0;omega,λ_ h=>h,.inl (by show x.A0=x.A0+0;omega)⟩,λh=>absurd rfl h,λb=>by rw[Nat.zero_add];rfl⟩
 |a + 1,i,x,out,g,h0,h1=>by
  have ih:=fun{i:Int} {x:ao} {out:List fc}=>vn (P:=P) hu u a (i:=i) (x:=x) (out:=out)
  have hab:∀b,a+1+b=(a+b)+1:=λb=>by omega
  simp only[hab,PD]
  cases hc:decide (x.A0<1152921504606846976)
  ·refine⟨λ_=>⟨g,fI i,h1,fI _,by show x.A0<=x.A0+_;omega,λ_ h=>h,.inr λu b o=>?_⟩,λh=>absurd rfl h,λb=>?_⟩
   ·cases b with
    |zero=>rfl
    |succ b=>show gp s u (b+1) i x o=_;rw[PD,hc];rfl
   ·cases b with
    |zero=>rfl
    |succ b=>show(x,out,i,(0:Int))=gp s u (b+1) i x out;rw[PD,hc];rfl
  have hcx:=oY hc
  have k:=YE (P:=P) hu (s.length-i).toNat g h0 h1 (aO _)
  generalize kG s (s.length-i).toNat i x=E at k⊢
  obtain⟨j,y⟩:=E
  have EA:i<=j:=k.lo
  have Jx:j<=s.length:=k.hi
  have kg:ei P y:=k.g
  have kc:y.A0=x.A0:=k.c
  have kf:Ey s j y=false:=k.fix
  simp only[cond_true]
  unfold uQ
  cases hh:y.A6
  rotate_left
  ·refine⟨λ_=>⟨kg,EA,Jx,by show x.A0<=y.A0;omega,by show y.A0<=_;omega,λ_ h=>PE h EA kc,.inr λu b o=>Ui kf (.inl hh) u b o⟩,λh=>absurd rfl h,λb=>?_⟩
   exact(Ui kf (.inl hh) u b out).symm
  cases hi:pz y
  rotate_left
  ·cases hl:decide (j<(s.length:Int))
   ·refine⟨λ_=>⟨kg,EA,Jx,by show x.A0<=y.A0;omega,by show y.A0<=_;omega,λ_ h=>PE h EA kc,.inr λu b o=>Ui kf (.inr ⟨hi,hl⟩) u b o⟩,λh=>absurd rfl h,λb=>?_⟩
    exact(Ui kf (.inr ⟨hi,hl⟩) u b out).symm
   ·exact⟨λh=>absurd (show(1303:Int)=0 from h) (by decide),λ_=>⟨rfl,rfl,rfl⟩,λb=>rfl⟩
  have sk:rF y=false:=(Jm kg).2 ⟨hh,hi,by omega⟩
  have next:∀(c:Int) (q:Int),U c->0<=q->q<=s.length->i<=q->((ez y c).2.A0=y.A0+1->ki s=true->Ez s i x->Ez s q (ez y c).2)->
   ((gp s u a q (ez y c).2 (out++(ez y c).1)).2.2.2=0->YF P s i x (a+1) (gp s u a q (ez y c).2 (out++(ez y c).1)))/\
   ((gp s u a q (ez y c).2 (out++(ez y c).1)).2.2.2≠0->(gp s u a q (ez y c).2 (out++(ez y c).1)).1=kA/\(gp s u a q (ez y c).2 (out++(ez y c).1)).2.1=[]/\(gp s u a q (ez y c).2 (out++(ez y c).1)).2.2.1=0)/\
   ∀b,gp s u (a+b) q (ez y c).2 (out++(ez y c).1)=bif(gp s u a q (ez y c).2 (out++(ez y c).1)).2.2.2==0 then gp s u b (gp s u a q (ez y c).2 (out++(ez y c).1)).2.2.1 (gp s u a q (ez y c).2 (out++(ez y c).1)).1 (gp s u a q (ez y c).2 (out++(ez y c).1)).2.1 else gp s u a q (ez y c).2 (out++(ez y c).1):=λc q hU q0 q1 q2 q3=>by
   obtain⟨g1,c1,_⟩:=Me kg sk hU
   have n:=ih (i:=q) (x:=(ez y c).2) (out:=out++(ez y c).1) g1 q0 q1
   refine⟨λh=>?_,n.2⟩
   have n1:=n.1 h
   exact⟨n1.g,by have:=n1.lo;omega,n1.hi,by have:=n1.c0;omega,by have:=n1.c1;omega,λho h=>n1.ah ho (q3 c1 ho h),n1.st.imp (λh=>by omega) id⟩
  have bad:∀c:Int,c≠0->((((kA,[],0,c):iU).2.2.2=0->YF P s i x (a+1) (kA,[],0,c))/\(((kA,[],0,c):iU).2.2.2≠0->((kA,[],0,c):iU).1=kA/\((kA,[],0,c):iU).2.1=[]/\((kA,[],0,c):iU).2.2.1=0)/\
   ∀b,((kA,[],0,c):iU)=bif((kA,[],0,c):iU).2.2.2==0 then gp s u b ((kA,[],0,c):iU).2.2.1 ((kA,[],0,c):iU).1 ((kA,[],0,c):iU).2.1 else(kA,[],0,c)):=λc h=>⟨λe=>absurd e h,λ_=>⟨rfl,rfl,rfl⟩,λb=>by
   rw[show(((kA,[],0,c):iU).2.2.2==0)=false by simpa using h];rfl⟩
  simp only[cond_false]
  cases hl:decide (j<(s.length:Int))
  ·simp only[cond_false]
   cases hr:(false==lR y)
   ·exact bad 1302 (by decide)
   ·simp only[cond_true];exact next 0 j ep (by omega) Jx EA λc ho h=>Zna ho (PE h EA kc) (by omega) (λq=>absurd q (oN hl)) c
  ·have AW:=oY hl
   simp only[cond_true]
   cases hr:(((fy s j).At==y.A0)==lR y)
   ·exact bad 1302 (by decide)
   ·simp only[cond_true]
    cases ha:((fy s j).At==y.A0)
    ·simp only[cond_false];exact next 0 j ep (by omega) Jx EA λc ho h=>Zna ho (PE h EA kc) (by omega) (λ_=>by simpa using ha) c
    ·simp only[cond_true];exact next _ (j+1) (CR hu (by omega) AW) (by omega) (by omega) (by omega) λc ho h=>yn ho (PE h EA kc) (by omega) AW (by unfold Ey at kf;rw[hl,ha]at kf;simpa using kf) c
theorem qo{m:ao}{s:List dr}{u:Int}:kH m s u=0↔ ¬sd m=false/\¬u<m.A0/\¬4000<wrap .u64 (u-m.A0)/\¬400<s.length/\¬ki s=false/\¬(0<s.length/\(fy s 0).At<m.A0):=by
 unfold kH
 constructor
 ·intro h
  by_cases h1:sd m=false
  ·rw[if_pos h1]at h;cases h
  rw[if_neg h1]at h
  by_cases h2:u<m.A0
  ·rw[if_pos h2]at h;cases h
  rw[if_neg h2]at h
  by_cases h3:4000<wrap .u64 (u-m.A0)
  ·rw[if_pos h3]at h;cases h
  rw[if_neg h3]at h
  by_cases h4:400<s.length
  ·rw[if_pos h4]at h;cases h
  rw[if_neg h4]at h
  by_cases h5:ki s=false
  ·rw[if_pos h5]at h;cases h
  rw[if_neg h5]at h
  by_cases h6:0<s.length/\(fy s 0).At<m.A0
  ·rw[if_pos h6]at h;cases h
  exact⟨h1,h2,h3,h4,h5,h6⟩
 ·rintro⟨h1,h2,h3,h4,h5,h6⟩
  rw[if_neg h1,if_neg h2,if_neg h3,if_neg h4,if_neg h5,if_neg h6]
theorem xo{m:ao}{s:List dr}{u:Int}(h:kH m s u=0):bw m s u=gp s u (u-m.A0).toNat 0 m []:=by unfold bw;rw[if_pos h]
theorem Znz{m:ao}{s:List dr}{u:Int}(h:kH m s u≠0):bw m s u=(kA,[],0,kH m s u):=by unfold bw;rw[if_neg h]
theorem yK{m:ao}{s:List dr}{u:Int}(h:(bw m s u).2.2.2=0):kH m s u=0:=by
 by_cases e:kH m s u=0
 ·exact e
 ·rw[Znz e]at h;exact h
structure runK(P:Nat)(m:ao)(s:List dr)(u:Int)(r:iU):Prop where
 g:ei P r.1
 lo:0<=r.2.2.1
 hi:r.2.2.1<=s.length
 c0:m.A0<=r.1.A0
 c1:r.1.A0<=u
theorem vK{P:Nat}{m:ao}(g:ei P m){s:List dr}(hu:∀e∈s,U e.C5.N){u:Int}(h:(bw m s u).2.2.2=0):runK P m s u (bw m s u):=by
 have hc:=yK h
 rw[xo hc]at h⊢
 have k:=(vn (P:=P) hu u (u-m.A0).toNat g (fI 0) (by omega)).1 h
 have:=(qo.1 hc).2.1
 exact⟨k.g,k.lo,k.hi,k.c0,by have:=k.c1;omega⟩
def lN(m:ao):Int:=FI 14695981039346656037 (nN m)
def jx:ao->List dr->List Int->List fe×Int
 |_,_,[]=>([],0)
 |m,s,u::l=>
  bif (bw m s u).2.2.2==0 then
   (bif(jx (bw m s u).1 (s.drop (bw m s u).2.2.1.toNat) l).2==0 then
    ({At:=u,C8:=lN (bw m s u).1}::(jx (bw m s u).1 (s.drop (bw m s u).2.2.1.toNat) l).1,0)
   else([],(jx (bw m s u).1 (s.drop (bw m s u).2.2.1.toNat) l).2))
  else([],(bw m s u).2.2.2)
def gw:ao->List dr->Int->Int->List fe->jH
 |_,_,_,_,[]=>{Good:=true,D4:=0,At:=0}
 |m,s,i,last,c::l=>
  bif((bw m s c.At).2.2.2==0)&&(lN (bw m s c.At).1==c.C8)then gw (bw m s c.At).1 (s.drop (bw m s c.At).2.2.1.toNat) (i+1) c.At l
  else{Good:=false,D4:=i,At:=last}
theorem Ql{m:ao}{s:List dr}{u:Int}{l:List Int}{L:List fe}(h:jx m s (u::l)=(L,0)):
 (bw m s u).2.2.2=0/\∃K,L={At:=u,C8:=lN (bw m s u).1}::K/\jx (bw m s u).1 (s.drop (bw m s u).2.2.1.toNat) l=(K,0):=by
 unfold jx at h
 cases h1:(bw m s u).2.2.2==0
 ·rw[h1]at h
  have:(bw m s u).2.2.2=0:=(Prod.mk.inj h).2
  rw[this]at h1;cases h1
 ·rw[h1]at h
  have h1:=eq_of_beq h1
  refine⟨h1,?_⟩
  generalize jx (bw m s u).1 (s.drop (bw m s u).2.2.1.toNat) l=q at h⊢
  obtain⟨K,e⟩:=q
  cases h2:e==0
  ·have h:(bif e==0 then(({At:=u,C8:=lN (bw m s u).1}::K:List fe),(0:Int))else([],e))=(L,0):=h
   rw[h2]at h
   have:e=0:=(Prod.mk.inj h).2
   rw[this]at h2;cases h2
  ·have h:(bif e==0 then(({At:=u,C8:=lN (bw m s u).1}::K:List fe),(0:Int))else([],e))=(L,0):=h
   rw[h2]at h
   exact⟨K,(Prod.mk.inj h).1.symm,by rw[eq_of_beq h2]⟩
theorem YG:∀{l:List Int} {m:ao} {s:List dr} {L:List fe},jx m s l=(L,0)->L.map (·.At)=l
 |[],m,s,L,h=>by rw[show L=[] from(Prod.mk.inj h).1.symm];rfl
 |u::l,m,s,L,h=>by
  obtain⟨_,K,e,h2⟩:=Ql h
  rw[e,List.map_cons,YG h2]
theorem wY:∀{l:List Int} {m:ao} {s:List dr} {L:List fe},jx m s l=(L,0)->∀i last,gw m s i last L={Good:=true,D4:=0,At:=0}
 |[],m,s,L,h,i,last=>by rw[show L=[] from(Prod.mk.inj h).1.symm];rfl
 |u::l,m,s,L,h,i,last=>by
  obtain⟨h1,K,e,h2⟩:=Ql h
  rw[e]
  unfold gw
  rw[show((bw m s ({At:=u,C8:=lN (bw m s u).1}:fe).At).2.2.2==0)=true by show((bw m s u).2.2.2==0)=true;rw[h1];rfl,show(lN (bw m s ({At:=u,C8:=lN (bw m s u).1}:fe).At).1==({At:=u,C8:=lN (bw m s u).1}:fe).C8)=true from beq_self_eq_true _]
  exact wY h2 _ _
theorem Hj:∀(k:Nat) {l:List Int} {m:ao} {s:List dr} {L:List fe},jx m s l=(L,0)->k<L.length->∀(i last h:Int),h≠(L.getD k default).C8->
 gw m s i last (L.set k {At:=(L.getD k default).At,C8:=h})={Good:=false,D4:=i+k,At:=if k=0 then last else(L.getD (k-1) default).At}
 |k,[],m,s,L,h,hk,i,last,x,hx=>by rw[show L=[] from(Prod.mk.inj h).1.symm]at hk;exact absurd hk (Nat.not_lt_zero _)
 |0,u::l,m,s,L,h,hk,i,last,x,hx=>by
  obtain⟨h1,K,e,h2⟩:=Ql h
  rw[e]at hx⊢
  have hx:x≠lN (bw m s u).1:=hx
  show gw m s i last ({At:=u,C8:=x}::K)=_
  unfold gw
  rw[show(lN (bw m s ({At:=u,C8:=x}:fe).At).1==({At:=u,C8:=x}:fe).C8)=false by show(lN (bw m s u).1==x)=false;simpa using λe=>hx e.symm,Bool.and_false]
  show _=({Good:=false,D4:=i+((0:Nat):Int),At:=last}:jH)
  rw[show i+((0:Nat):Int)=i by omega];rfl
 |k+1,u::l,m,s,L,h,hk,i,last,x,hx=>by
  obtain⟨h1,K,e,h2⟩:=Ql h
  rw[e]at hx hk⊢
  have hx:x≠(K.getD k default).C8:=hx
  have ih:=Hj k h2 (by simpa using hk) (i+1) u x hx
  show gw m s i last ({At:=u,C8:=lN (bw m s u).1}::K.set k {At:=(K.getD k default).At,C8:=x})=_
  unfold gw
  rw[show((bw m s ({At:=u,C8:=lN (bw m s u).1}:fe).At).2.2.2==0)=true by show((bw m s u).2.2.2==0)=true;rw[h1];rfl,show(lN (bw m s ({At:=u,C8:=lN (bw m s u).1}:fe).At).1==({At:=u,C8:=lN (bw m s u).1}:fe).C8)=true from beq_self_eq_true _]
  refine Eq.trans ih ?_
  rw[if_neg (Nat.succ_ne_zero k),show i+1+(k:Int)=i+((k+1:Nat):Int) by omega]
  congr 1
  cases k with
  |zero=>rfl
  |succ k=>rfl
def PF:Int->List Int->Prop
 |_,[]=>True
 |a,x::l=>a<=x/\PF x l
theorem xaA{s:List dr}(hu:∀e∈s,U e.C5.N)(n:Nat):∀e∈s.drop n,U e.C5.N:=λe he=>hu e (List.mem_of_mem_drop he)
theorem Uj:kh kA:=⟨ep,ep⟩
theorem yW(s:List dr):∀(n:Nat) (i:Int) (x:ao),kh x->kh (kG s n i x).2
 |0,i,x,h=>h
 |n+1,i,x,h=>by
  rw[YD]
  cases Ey s i x
  ·exact h
  ·exact yW s n _ _ (xaz h _)
theorem vW{P:Nat}{s:List dr}(hu:∀e∈s,U e.C5.N)(u:Int):∀(k:Nat) {i:Int} {x:ao} (out:List fc),ei P x->kh x->0<=i->i<=s.length->kh (gp s u k i x out).1
 |0,i,x,out,g,d,h0,h1=>d
 |k + 1,i,x,out,g,d,h0,h1=>by
  rw[PD]
  cases hc:decide (x.A0<1152921504606846976)
  ·exact d
  have hcx:=oY hc
  have ke:=YE (P:=P) hu (s.length-i).toNat g h0 h1 (aO _)
  have de:=yW s (s.length-i).toNat i x d
  generalize kG s (s.length-i).toNat i x=E at ke de⊢
  obtain⟨j,y⟩:=E
  have EA:i<=j:=ke.lo
  have Jx:j<=s.length:=ke.hi
  have kg:ei P y:=ke.g
  have kc:y.A0=x.A0:=ke.c
  have dy:kh y:=de
  rw[cond_true]
  unfold uQ
  cases hh:y.A6
  rotate_left
  ·exact dy
  cases hi:pz y
  rotate_left
  ·cases decide (j<(s.length:Int))
   ·exact dy
   ·exact Uj
  have sk:rF y=false:=(Jm kg).2 ⟨hh,hi,by omega⟩
  have next:∀(c:Int) (p:Int),U c->0<=p->p<=s.length->kh (gp s u k p (ez y c).2 (out++(ez y c).1)).1:=λc p hU p0 p1=>
   vW hu u k _ (Me kg sk hU).1 (xW kg dy c) p0 p1
  rw[cond_false,cond_false]
  cases hl:decide (j<(s.length:Int))
  ·rw[cond_false]
   cases(false==lR y)
   ·exact Uj
   ·exact next 0 j ep (by omega) Jx
  ·have AW:=oY hl
   rw[cond_true]
   cases((fy s j).At==y.A0)==lR y
   ·exact Uj
   ·cases(fy s j).At==y.A0
    ·exact next 0 j ep (by omega) Jx
    ·exact next _ (j+1) (CR hu (by omega) AW) (by omega) (by omega)
theorem qaB{P:Nat}{m:ao}(g:ei P m)(d:kh m){s:List dr}(hu:∀e∈s,U e.C5.N)(u:Int):kh (bw m s u).1:=by
 unfold bw
 split
 ·exact vW hu u _ _ g d (fI 0) (by omega)
 ·exact Uj
theorem zo(m:ao):lN m=FI 14695981039346656037 (nN m):=rfl
theorem Hk{P:Nat}{m:ao}(g:ei P m)(d:kh m):Pw m/\Hh m=lN m:=by
 obtain⟨a,b⟩:=ym g.v (Yv g d) (by have:=g.len;omega)
 exact⟨a,b.trans (Zhv _ _)⟩
theorem Hl{P:Nat}{m:ao}(g:ei P m)(d:kh m):Pu m/\Ml m=lN m:=Zgc g.v (Yv g d) (by have:=g.len;omega)
theorem Zog(s:List UInt8)(hl:s.length<=1000000):0<=FI 14695981039346656037 s/\FI 14695981039346656037 s<18446744073709551616:=by
 have h:(Mq 14695981039346656037 s).w (λr=>0<=r/\r<18446744073709551616):=by
  unfold Mq
  refine ej (inv:=λv:Int×Int=>(0<=v.2/\v.2<=s.length)/\0<=v.1/\v.1<18446744073709551616) (μ:=Uk 14695981039346656037 s) ⟨⟨fI 0,by show(0:Int)<=_;omega⟩,by decide,by decide⟩ (cO _) λv ⟨⟨a,b⟩,c⟩=>?_
  refine ab (λhb=>?_) λ_=>bq c
  have hb:=oY hb
  have ew:i64.wrap (v.2+1)=v.2+1:=by rw[wrap_i64];omega
  refine ar (dY ⟨a,hb⟩) (dm ?_)
  show((0<=i64.wrap (v.2+1)/\i64.wrap (v.2+1)<=s.length)/\0<=wrap .u64 _/\wrap .u64 _<18446744073709551616)/\(s.length-i64.wrap (v.2+1)).toNat<(s.length-v.2).toNat
  rw[ew]
  exact⟨⟨⟨by omega,by omega⟩,Yw _⟩,by omega⟩
 exact Tree.post _ h
theorem Zk1{P:Nat}{m:ao}(g:ei P m)(d:kh m):0<=lN m/\lN m<18446744073709551616:=by
 have e:=Yv g d
 have:=Tree.post _ (Zn0 g.v e.r (by have:=g.len;omega) e.k e.o)
 rw[zo]
 refine Zog _ ?_
 have h1:YH m=nN m:=this.1
 rw[<-h1]
 have:=this.2
 change(YH m).length<=_ at this
 omega
attribute [local irreducible] lN
theorem Mr{α:Type}{l:List α}{i:Int}(h0:0<=i)(h:i<l.length)(d:α):l.drop i.toNat=l.getD i.toNat d::l.drop (i+1).toNat:=by
 have cq:i.toNat<l.length:=by omega
 rw[show(i+1).toNat=i.toNat+1 by omega,dC,cG cq]
 exact aB cq
def jX:Int->List Int->Bool
 |_,[]=>true
 |a,x::l=>bif decide (x<a)then false else bif decide (wrap .u64 (x-a)>4000)then false else jX x l
def iY(m:ao)(s:List dr)(l:List Int):Int:=bif jX m.A0 l then kH m s m.A0 else 4300
theorem Jy(m:ao)(s:List dr):(bw m s m.A0).2.2.2=kH m s m.A0:=by
 by_cases h:kH m s m.A0=0
 ·rw[xo h,h,show(m.A0-m.A0).toNat=0 by omega];rfl
 ·rw[Znz h]
theorem Zo5{l:List Int}{i:Int}(h0:0<=i)(h:i<l.length)(a:Int):jX a (l.drop i.toNat)=bif decide (l.getD i.toNat 0<a)then false else bif decide (wrap .u64 (l.getD i.toNat 0-a)>4000)then false else jX (l.getD i.toNat 0) (l.drop (i+1).toNat):=by
 rw[Mr h0 h 0];rfl
theorem yo{l:List Int}{i:Int}(h:¬i<l.length)(a:Int):jX a (l.drop i.toNat)=true:=by
 rw[aA (by omega)];rfl
section
variable {m:ao} (hv:oC m) (hc:m.A0<18446744073709551616) {s:List dr} (hs:s.length<=1000000) (hu:∀e∈s,U e.C5.N)
include hv hc hs hu
theorem Zmf{l:List Int}(hl:l.length<=400):(PG m s l).w (λe=>e=iY m s l):=by
 unfold PG
 refine ab (λh=>by have:=oY h;omega) λ_=>?_
 refine ej (inv:=λv:Int×Int=>0<=v.2/\v.2<=l.length/\jX m.A0 l=jX v.1 (l.drop v.2.toNat)) (μ:=Qlm m s l) ⟨fI 0,by show(0:Int)<=_;omega,rfl⟩ (cO _) λv ⟨a,b,c⟩=>?_
 obtain⟨last,i⟩:=v
 have a:0<=i:=a
 have b:i<=l.length:=b
 have c:jX m.A0 l=jX last (l.drop i.toNat):=c
 refine ab (λhb=>?_) λhb=>?_
 ·have hb:i<l.length:=oY hb
  have ew:i64.wrap (i+1)=i+1:=by rw[wrap_i64];omega
  rw[Zo5 a hb]at c
  refine ar (by simp[bJ];omega) (ab (λh1=>bq ?_) λh1=>ab (λh2=>bq ?_) λh2=>dm ?_)
  ·show(4300:Int)=iY m s l
   have h1:decide (l.getD i.toNat 0<last)=true:=h1
   rw[h1]at c
   unfold iY;rw[c];rfl
  ·show(4300:Int)=iY m s l
   have h1:decide (l.getD i.toNat 0<last)=false:=h1
   have h2:decide (wrap .u64 (l.getD i.toNat 0-last)>4000)=true:=h2
   rw[h1,h2]at c
   unfold iY;rw[c];rfl
  ·have h1:decide (l.getD i.toNat 0<last)=false:=h1
   have h2:decide (wrap .u64 (l.getD i.toNat 0-last)>4000)=false:=h2
   rw[h1,h2]at c
   show(0<=i64.wrap (i+1)/\i64.wrap (i+1)<=l.length/\jX m.A0 l=jX (l.getD i.toNat 0) (l.drop (i64.wrap (i+1)).toNat))/\(l.length-i64.wrap (i+1)).toNat<(l.length-i).toNat
   rw[ew]
   exact⟨⟨by omega,by omega,c⟩,by omega⟩
 ·have hb:¬i<l.length:=oN hb
  rw[yo hb]at c
  refine bh (zn hv hs hu hv.pV hc) λx0 ⟨e0,_⟩=>bq ?_
  show x0.2.2.2=iY m s l
  unfold iY;rw[c,e0,Jy];rfl
end
theorem qX{m:ao}{l:List Int}(hl:l.length<=400):(PH m l).w (λe=>e=jX m.A0 l):=by
 unfold PH
 refine ab (λh=>by have:=oY h;omega) λ_=>?_
 refine ej (inv:=λv:Int×Int=>0<=v.2/\v.2<=l.length/\jX m.A0 l=jX v.1 (l.drop v.2.toNat)) (μ:=Qes m l) ⟨fI 0,by show(0:Int)<=_;omega,rfl⟩ (cO _) λv ⟨a,b,c⟩=>?_
 obtain⟨last,i⟩:=v
 have a:0<=i:=a
 have b:i<=l.length:=b
 have c:jX m.A0 l=jX last (l.drop i.toNat):=c
 refine ab (λhb=>?_) λhb=>bq ?_
 ·have hb:i<l.length:=oY hb
  have ew:i64.wrap (i+1)=i+1:=by rw[wrap_i64];omega
  rw[Zo5 a hb]at c
  have cc:(bT 1 1&&bJ 0 1&&decide (0<=i/\i<((l.length:Nat):Int)))=true:=by simp[bJ];omega
  refine ar cc (ab (λh1=>bq ?_) λh1=>ar cc (ab (λh2=>bq ?_) λh2=>ar cc (dm ?_)))
  ·show false=jX m.A0 l
   have h1:decide (l.getD i.toNat 0<last)=true:=h1
   rw[h1]at c
   exact c.symm
  ·show false=jX m.A0 l
   have h1:decide (l.getD i.toNat 0<last)=false:=h1
   have h2:decide (wrap .u64 (l.getD i.toNat 0-last)>4000)=true:=h2
   rw[h1,h2]at c
   exact c.symm
  ·have h1:decide (l.getD i.toNat 0<last)=false:=h1
   have h2:decide (wrap .u64 (l.getD i.toNat 0-last)>4000)=false:=h2
   rw[h1,h2]at c
   show(0<=i64.wrap (i+1)/\i64.wrap (i+1)<=l.length/\jX m.A0 l=jX (l.getD i.toNat 0) (l.drop (i64.wrap (i+1)).toNat))/\(l.length-i64.wrap (i+1)).toNat<(l.length-i).toNat
   rw[ew]
   exact⟨⟨by omega,by omega,c⟩,by omega⟩
 ·have hb:¬i<l.length:=oN hb
  rw[yo hb]at c
  exact c.symm
def comb(vl:List fe)(q:List fe×Int):List fe×Int:=bif q.2==0 then(vl++q.1,0)else([],q.2)
theorem PI(m:ao)(s:List dr)(u:Int)(l:List Int):jx m s (u::l)=bif(bw m s u).2.2.2==0 then comb [{At:=u,C8:=lN (bw m s u).1}] (jx (bw m s u).1 (s.drop (bw m s u).2.2.1.toNat) l)else([],(bw m s u).2.2.2):=rfl
theorem Zg(a b:List fe)(q:List fe×Int):comb a (comb b q)=comb (a++b) q:=by
 unfold comb
 cases h:q.2==0
 ·show(bif q.2==0 then _ else _)=_
  rw[h];rfl
 ·show((a++(b++q.1),(0:Int)):List fe×Int)=(a++b++q.1,0)
  rw[fF]
theorem Ul{sc:List dr}{i:Int}(h0:0<=i)(h1:i<=sc.length):cZ (((sc.length:Nat):Int).toNat-i.toNat) (dA i.toNat sc)=sc.drop i.toNat:=by
 rw[eC]
 exact fL (by rw[bF];omega)
theorem vo{i hash err:Int}{lh:List fe}{lC:List Int}{tS:Int}(h0:0<=i)(h1:i<lC.length)(h2:lh.length<=1000000):(PJ i hash err lh lC tS).w (λr=>r=(true,lh++[{At:=lC.getD i.toNat 0,C8:=hash}],lC,err)):=by
 unfold PJ
 exact ar (dY ⟨h0,h1⟩) (ar (dY (by omega)) (bq rfl))
structure ra(P:Nat)(x:ao)(sc:List dr):Prop where
 g:ei P x
 d:kh x
 hs:sc.length<=1000000
 hu:∀e∈sc,U e.C5.N
theorem ra.next{P:Nat}{x:ao}{sc:List dr}(h:ra P x sc){u:Int}(he:(bw x sc u).2.2.2=0):ra P (bw x sc u).1 (sc.drop (bw x sc u).2.2.1.toNat)/\0<=(bw x sc u).2.2.1/\(bw x sc u).2.2.1<=sc.length:=by
 have k:=vK h.g h.hu he
 exact⟨⟨k.g,qaB h.g h.d h.hu u,by rw[bF];have:=h.hs;omega,xaA h.hu _⟩,k.lo,k.hi⟩
theorem qp{P:Nat}{m:ao}{s:List dr}(st:ra P m s){l:List Int}(hl:l.length<=400)(hr:∀x∈l,0<=x/\x<18446744073709551616):
 (PK m s l [] l 0).w (λr=>(bif r.2.2==0 then(r.1,0)else([],r.2.2))=jx m s l):=by
 unfold PK
 refine ej (inv:=λv:List dr×Int×List Int×Int×List fe×ao=>0<=v.2.1/\v.2.1<=l.length/\v.2.2.1=l/\v.2.2.2.1=0/\ra P v.2.2.2.2.2 v.1/\(v.2.2.2.2.1.length:Int)=v.2.1/\comb v.2.2.2.2.1 (jx v.2.2.2.2.2 v.1 (l.drop v.2.1.toNat))=jx m s l) (μ:=Qfq m s l [] l 0)
  ⟨fI 0,by show(0:Int)<=_;omega,rfl,rfl,st,rfl,?_⟩ (cO _) λv ⟨a1,a2,a3,a4,a5,a6,a7⟩=>?_
 ·show comb [] (jx m s l)=_
  unfold comb
  cases h:(jx m s l).2==0
  ·have:∀q:List fe×Int,jx m s l=q->(q.2==0)=false->q.1=[]:=λq hq hz=>by
    cases l with
    |nil=>rw[<-hq]at hz;cases hz
    |cons u l=>
     rw[PI]at hq
     cases h1:(bw m s u).2.2.2==0
     ·rw[h1]at hq;rw[<-hq];rfl
     ·rw[h1]at hq
      rw[<-hq]at hz⊢
      have hz:((comb [{At:=u,C8:=lN (bw m s u).1}] (jx (bw m s u).1 (s.drop (bw m s u).2.2.1.toNat) l)).2==0)=false:=hz
      show(comb [{At:=u,C8:=lN (bw m s u).1}] (jx (bw m s u).1 (s.drop (bw m s u).2.2.1.toNat) l)).1=[]
      unfold comb at hz⊢
      generalize jx (bw m s u).1 (s.drop (bw m s u).2.2.1.toNat) l=w at hz⊢
      cases h2:w.2==0
      ·rfl
      ·rw[h2]at hz;cases hz
   have h3:=this _ rfl h
   generalize jx m s l=q at h h3⊢
   obtain⟨q1,q2⟩:=q
   have h3:q1=[]:=h3
   rw[h3];rfl
  ·generalize jx m s l=q at h⊢
   obtain⟨q1,q2⟩:=q
   have h:(q2==0)=true:=h
   rw[show q2=0 from eq_of_beq h];rfl
 obtain⟨sc,i,va,vf,vl,x⟩:=v
 have a1:0<=i:=a1
 have a2:i<=l.length:=a2
 have a3:va=l:=a3
 have a4:vf=0:=a4
 subst a3;subst a4
 have a5:ra P x sc:=a5
 have a6:(vl.length:Int)=i:=a6
 have a7:comb vl (jx x sc (va.drop i.toNat))=jx m s va:=a7
 refine ab (λhb=>?_) λhb=>bq ?_
 ·have hb:i<va.length:=oY hb
  have ew:i64.wrap (i+1)=i+1:=by rw[wrap_i64];omega
  have ru:=hr (va.getD i.toNat 0) (by rw[dC,cG (show i.toNat<va.length by omega)];exact fJ _)
  rw[Mr a1 hb 0,PI]at a7
  refine ar (by simp[bJ];omega) (bh (zn a5.g.v a5.hs a5.hu ru.1 ru.2) λx0 ⟨e0,_,_⟩=>?_)
  have e0:x0=bw x sc (va.getD i.toNat 0):=e0
  refine ab (λhe=>bh (vo a1 hb (by omega)) λx1 e1=>bq ?_) λhe=>?_
  ·have he:(x0.2.2.2==0)=false:=by simpa using he
   rw[e1]
   show(bif x0.2.2.2==0 then((_,0):List fe×Int)else([],x0.2.2.2))=jx m s va
   rw[he,<-a7]
   rw[e0]at he⊢
   rw[he]
   show(([],_):List fe×Int)=comb vl ([],_)
   unfold comb
   show _=bif(bw x sc (va.getD i.toNat 0)).2.2.2==0 then _ else _
   rw[he];rfl
  ·have he:x0.2.2.2=0:=by simpa using he
   have AX:(bw x sc (va.getD i.toNat 0)).2.2.2=0:=by rw[<-e0];exact he
   obtain⟨sn,n1,n2⟩:=a5.next AX
   have pE:((bw x sc (va.getD i.toNat 0)).2.2.2==0)=true:=by rw[AX];rfl
   rw[pE]at a7
   have a7:comb vl (comb [{At:=va.getD i.toNat 0,C8:=lN (bw x sc (va.getD i.toNat 0)).1}] (jx (bw x sc (va.getD i.toNat 0)).1 (sc.drop (bw x sc (va.getD i.toNat 0)).2.2.1.toNat) (va.drop (i+1).toNat)))=jx m s va:=a7
   rw[Zg]at a7
   rw[<-e0]at sn n1 n2 a7
   obtain⟨hp,hh⟩:=Hk sn.g sn.d
   refine ar (by simp[bJ];omega) (cu hp (au λx2 e2=>bh (vo a1 hb (by omega)) λx3 e3=>?_))
   rw[e3]
   refine ab (λh=>by cases h) λ_=>dm ?_
   show(0<=i64.wrap (i+1)/\i64.wrap (i+1)<=va.length/\va=va/\(0:Int)=0/\ra P x0.1 (cZ (((sc.length:Nat):Int).toNat-x0.2.2.1.toNat) (dA x0.2.2.1.toNat sc))/\((vl++[({At:=va.getD i.toNat 0,C8:=x2}:fe)]).length:Int)=i64.wrap (i+1)/\comb (vl++[({At:=va.getD i.toNat 0,C8:=x2}:fe)]) (jx x0.1 (cZ (((sc.length:Nat):Int).toNat-x0.2.2.1.toNat) (dA x0.2.2.1.toNat sc)) (va.drop (i64.wrap (i+1)).toNat))=jx m s va)/\(va.length-i64.wrap (i+1)).toNat<(va.length-i).toNat
   rw[ew,Ul n1 n2,e2,hh,lA,cX]
   exact⟨⟨by omega,by omega,rfl,rfl,sn,by omega,a7⟩,by omega⟩
 ·have hb:¬i<va.length:=oN hb
  rw[aA (by omega)]at a7
  show(bif(0:Int)==0 then(vl,(0:Int))else([],0))=_
  rw[<-a7]
  show(vl,(0:Int))=(vl++[],0)
  rw[cJ]
def tT(m:ao)(s:List dr)(l:List Int):List fe×Int:=bif iY m s l==0 then jx m s l else([],iY m s l)
theorem Um{m:ao}{s:List dr}{l:List Int}(h:iY m s l=0):jX m.A0 l=true/\kH m s m.A0=0:=by
 unfold iY at h
 cases hp:jX m.A0 l
 ·rw[hp]at h;exact absurd (show(4300:Int)=0 from h) (by decide)
 ·rw[hp]at h;exact⟨rfl,h⟩
theorem Un{m:ao}(hv:oC m){s:List dr}{u:Int}(h:kH m s u=0):∃P,ei P m:=by
 have mm:mM m=true:=by rw[Jh hv];simpa using(qo.1 h).1
 obtain⟨P,gS,gM⟩:=sT hv mm
 exact⟨P,gM,mm⟩
theorem xp{m:ao}(hv:oC m)(hc:m.A0<18446744073709551616)(d:kh m){s:List dr}(hs:s.length<=1000000)(hu:∀e∈s,U e.C5.N){l:List Int}(hl:l.length<=400)(hr:∀x∈l,0<=x/\x<18446744073709551616):(PL m s l).w (λr=>r=tT m s l):=by
 unfold PL
 refine bh (Zmf hv hc hs hu hl) λx0 e0=>?_
 refine ab (λh=>bq ?_) λh=>?_
 ·have h:(x0==0)=false:=by simpa using h
  unfold tT;rw[<-e0,h];rfl
 ·have h:x0=0:=by simpa using h
  have h0:iY m s l=0:=e0.symm.trans h
  obtain⟨P,g⟩:=Un hv (Um h0).2
  refine bh (qp ⟨g,d,hs,hu⟩ hl hr) λx1 e1=>?_
  have em:tT m s l=jx m s l:=by unfold tT;rw[h0];rfl
  rw[em,<-e1]
  refine ab (λh=>bq ?_) λh=>bq ?_
  ·have h:(x1.2.2==0)=false:=by simpa using h
   rw[h];rfl
  ·have h:(x1.2.2==0)=true:=by simpa using h
   rw[h];rfl
theorem Zf{P:Nat}{x:ao}{sc:List dr}(st:ra P x sc){u:Int}(u0:0<=u)(u1:u<18446744073709551616):(PM x sc u).w (λr=>r=((bw x sc u).1,(bw x sc u).2.2.1,(bw x sc u).2.2.2)):=by
 unfold PM
 refine bh (xn st.g.v st.hs st.hu u0 u1) λx0 ⟨e0,_⟩=>bq ?_
 rw[e0]
theorem zp{m:ao}(hv:oC m)(hc:m.A0<18446744073709551616)(d:kh m){s:List dr}(hs:s.length<=1000000)(hu:∀e∈s,U e.C5.N){l:List Int}(hl:l.length<=400)(hr:∀x∈l,0<=x/\x<18446744073709551616):(PN m s l).w (λr=>r=tT m s l):=by
 unfold PN
 refine bh (qX hl) λx0 e0=>?_
 refine ab (λh=>bq ?_) λh=>?_
 ·have h:x0=false:=by simpa using h
  have:iY m s l=4300:=by unfold iY;rw[<-e0,h];rfl
  unfold tT;rw[this];rfl
 have h:x0=true:=by simpa using h
 have hk:iY m s l=kH m s m.A0:=by unfold iY;rw[<-e0,h];rfl
 refine bh (xn hv hs hu hv.pV hc) λx1 ⟨e1,_⟩=>?_
 have ee:x1.2.2.2=iY m s l:=by rw[e1,hk];exact Jy m s
 refine ab (λh=>bq ?_) λh=>?_
 ·have h:(x1.2.2.2==0)=false:=by simpa using h
  unfold tT;rw[<-ee,h];rfl
 have h:x1.2.2.2=0:=by simpa using h
 have h0:iY m s l=0:=ee.symm.trans h
 obtain⟨P,g⟩:=Un hv (Um h0).2
 have em:tT m s l=jx m s l:=by unfold tT;rw[h0];rfl
 rw[em]
 refine ej (inv:=λv:List dr×Int×ao×List fe=>0<=v.2.1/\v.2.1<=l.length/\ra P v.2.2.1 v.1/\(v.2.2.2.length:Int)=v.2.1/\(v.2.2.2=[]/\v.2.2.1=m/\v.1=s/\v.2.1=0\/comb v.2.2.2 (jx v.2.2.1 v.1 (l.drop v.2.1.toNat))=jx m s l)) (μ:=Qhh m s l)
  ⟨fI 0,by show(0:Int)<=_;omega,⟨g,d,hs,hu⟩,rfl,.inl ⟨rfl,rfl,rfl,rfl⟩⟩ (cO _) λv ⟨a1,a2,a5,a6,a7⟩=>?_
 obtain⟨sc,i,x,vl⟩:=v
 have a1:0<=i:=a1
 have a2:i<=l.length:=a2
 have a5:ra P x sc:=a5
 have a6:(vl.length:Int)=i:=a6
 refine ab (λhb=>?_) λhb=>bq ?_
 ·have hb:i<l.length:=oY hb
  have ew:i64.wrap (i+1)=i+1:=by rw[wrap_i64];omega
  have ru:=hr (l.getD i.toNat 0) (by rw[dC,cG (show i.toNat<l.length by omega)];exact fJ _)
  have step:(((bw x sc (l.getD i.toNat 0)).2.2.2==0)=false->jx m s l=([],(bw x sc (l.getD i.toNat 0)).2.2.2))/\(((bw x sc (l.getD i.toNat 0)).2.2.2==0)=true->comb (vl++[{At:=l.getD i.toNat 0,C8:=lN (bw x sc (l.getD i.toNat 0)).1}]) (jx (bw x sc (l.getD i.toNat 0)).1 (sc.drop (bw x sc (l.getD i.toNat 0)).2.2.1.toNat) (l.drop (i+1).toNat))=jx m s l):=by
   rcases a7 with⟨q1,q2,q3,q4⟩|a7
   ·have q1:vl=[]:=q1
    have q2:x=m:=q2
    have q3:sc=s:=q3
    have q4:i=0:=q4
    have e:=Mr a1 hb 0
    rw[q4]at e
    have e:l=l.getD (0:Int).toNat 0::l.drop ((0:Int)+1).toNat:=e
    have em:=PI m s (l.getD (0:Int).toNat 0) (l.drop ((0:Int)+1).toNat)
    rw[<-e]at em
    rw[q1,q2,q3,q4,em]
    exact⟨λh=>by rw[h];rfl,λh=>by rw[h];rfl⟩
   ·have a7:comb vl (jx x sc (l.drop i.toNat))=jx m s l:=a7
    rw[Mr a1 hb 0,PI]at a7
    refine⟨λh=>?_,λh=>?_⟩
    ·rw[h]at a7
     rw[<-a7]
     show comb vl ([],_)=_
     unfold comb
     show(bif(bw x sc (l.getD i.toNat 0)).2.2.2==0 then _ else _)=_
     rw[h];rfl
    ·rw[h]at a7
     rw[<-Zg];exact a7
  have cc:(bT 1 1&&bJ 0 1&&decide (0<=i/\i<((l.length:Nat):Int)))=true:=by simp[bJ];omega
  refine ar cc (bh (Zf a5 ru.1 ru.2) λx2 e2=>?_)
  rw[e2]
  refine ab (λhe=>bq ?_) λhe=>?_
  ·have he:((bw x sc (l.getD i.toNat 0)).2.2.2==0)=false:=by simpa using he
   exact(step.1 he).symm
  ·have AX:(bw x sc (l.getD i.toNat 0)).2.2.2=0:=by simpa using he
   have Uo:=step.2 (by rw[AX];rfl)
   obtain⟨sn,n1,n2⟩:=a5.next AX
   generalize bw x sc (l.getD i.toNat 0)=r at sn n1 n2 Uo⊢
   obtain⟨hp,hh⟩:=Hl sn.g sn.d
   refine ar (by show(bT 4 4&&bJ 0 4&&decide (0<=r.2.2.1/\r.2.2.1<=((sc.length:Nat):Int)/\((sc.length:Nat):Int)<=((sc.length:Nat):Int)))=true;simp[bJ];omega) (ar cc (cu hp (au λx3 e3=>ar (dY (by show 16*(vl.length+1)<=_;omega)) (dm ?_))))
   show(0<=i64.wrap (i+1)/\i64.wrap (i+1)<=l.length/\ra P r.1 (cZ (((sc.length:Nat):Int).toNat-r.2.2.1.toNat) (dA r.2.2.1.toNat sc))/\((vl++[({At:=l.getD i.toNat 0,C8:=x3}:fe)]).length:Int)=i64.wrap (i+1)/\(_\/comb (vl++[({At:=l.getD i.toNat 0,C8:=x3}:fe)]) (jx r.1 (cZ (((sc.length:Nat):Int).toNat-r.2.2.1.toNat) (dA r.2.2.1.toNat sc)) (l.drop (i64.wrap (i+1)).toNat))=jx m s l))/\(l.length-i64.wrap (i+1)).toNat<(l.length-i).toNat
   have e3:x3=lN r.1:=e3.trans hh
   rw[ew,Ul n1 n2,e3,lA,cX]
   exact⟨⟨by omega,by omega,sn,by omega,.inr Uo⟩,by omega⟩
 ·have hb:¬i<l.length:=oN hb
  show(vl,(0:Int))=jx m s l
  rcases a7 with⟨q1,q2,q3,q4⟩|a7
  ·have q1:vl=[]:=q1
   have q4:i=0:=q4
   have:l=[]:=by cases l with|nil=>rfl|cons a b=>exfalso;rw[q4]at hb;simp at hb
   rw[this,q1];rfl
  ·have a7:comb vl (jx x sc (l.drop i.toNat))=jx m s l:=a7
   rw[aA (by omega)]at a7
   rw[<-a7]
   show(vl,(0:Int))=(vl++[],0)
   rw[cJ]
abbrev ib(l:List fe)(i:Int):fe:=l.getD i.toNat (RK.cg RK.aa)
def lO(i last:Int):jH:={Good:=false,D4:=i,At:=last}
def Bz(m:ao)(va:List Int)(i:Int):Int:=if i>0 then va.getD (i-1).toNat 0 else m.A0
theorem zaB(l:List fe)(n:Nat):(l.map (·.At)).getD n 0=(l.getD n (RK.cg RK.aa)).At:=by
 rw[dC,dC,fM]
 cases l[n]? <;>rfl
theorem Zo6(m:ao)(s:List dr)(i last:Int)(c:fe)(l:List fe):gw m s i last (c::l)=bif((bw m s c.At).2.2.2==0)&&(lN (bw m s c.At).1==c.C8)then gw (bw m s c.At).1 (s.drop (bw m s c.At).2.2.1.toNat) (i+1) c.At l else lO i last:=rfl
theorem Zo7{i hash err:Int}{lh:List fe}{lC:ao}{tS:jH}{nW:List Int}(h0:0<=i)(h1:i<lh.length)(h3:nW.length=lh.length)(hl:lh.length<=1000000):
 (PO i hash err lh lC tS nW).w (λr=>r=((err==0)&&(hash==(ib lh i).C8),lh,lC,bif(err==0)&&(hash==(ib lh i).C8)then tS else lO i (Bz lC nW i),nW)):=by
 unfold PO
 have ew:i64.wrap (i-1)=i-1:=by rw[wrap_i64];omega
 have bad:∀b:Bool,b=false->(Tree.br (decide (i>0)) (.cn (decide (0<=i64.wrap (i-1)/\i64.wrap (i-1)<((nW.length:Nat):Int))) (.lf ((false,lh,lC,{Good:=false,D4:=i,At:=nW.getD (i64.wrap (i-1)).toNat 0},nW):Bool×List fe×ao×jH×List Int))) (.lf (false,lh,lC,{Good:=false,D4:=i,At:=lC.A0},nW))).w (λr=>r=(b,lh,lC,bif b then tS else lO i (Bz lC nW i),nW)):=λb hb=>by
  subst hb
  refine ab (λh=>ar (dY (by have:=oY h;rw[ew];omega)) (bq ?_)) λh=>bq ?_
  ·have h:=oY h
   rw[ew]
   show _=((false,lh,lC,lO i (Bz lC nW i),nW):Bool×List fe×ao×jH×List Int)
   unfold lO Bz;rw[if_pos h]
  ·have h:=oN h
   show _=((false,lh,lC,lO i (Bz lC nW i),nW):Bool×List fe×ao×jH×List Int)
   unfold lO Bz;rw[if_neg h]
 refine ab (λhe=>ar (by simp[bJ];omega) (ab (λhh=>bq ?_) λhh=>?_)) λhe=>?_
 ·have hh:(hash==(ib lh i).C8)=true:=hh
  rw[he,hh];rfl
 ·have hh:(hash==(ib lh i).C8)=false:=hh
  exact bad _ (by rw[he,hh];rfl)
 ·exact bad _ (by rw[he];rfl)
theorem yp{P:Nat}{m:ao}{s:List dr}(st:ra P m s){l:List fe}(hl:l.length<=400)(hr:∀c∈l,0<=c.At/\c.At<18446744073709551616):
 (PQ m s (l.map (·.At)) l m {Good:=true,D4:=0,At:=0} (l.map (·.At))).w (λr=>r.2.2.1=gw m s 0 m.A0 l):=by
 unfold PQ
 refine ej (inv:=λv:List dr×Int×List fe×ao×jH×List Int×ao=>0<=v.2.1/\v.2.1<=l.length/\v.2.2.1=l/\v.2.2.2.1=m/\v.2.2.2.2.1={Good:=true,D4:=0,At:=0}/\v.2.2.2.2.2.1=l.map (·.At)/\ra P v.2.2.2.2.2.2 v.1/\gw v.2.2.2.2.2.2 v.1 v.2.1 (Bz m (l.map (·.At)) v.2.1) (l.drop v.2.1.toNat)=gw m s 0 m.A0 l) (μ:=Qft m s (l.map (·.At)) l m {Good:=true,D4:=0,At:=0} (l.map (·.At)))
  ⟨fI 0,by show(0:Int)<=_;omega,rfl,rfl,rfl,rfl,st,rfl⟩ (cO _) λv ⟨a1,a2,a3,a4,a5,a6,a7,a8⟩=>?_
 obtain⟨sc,i,vl,vm,vv,va,x⟩:=v
 have a1:0<=i:=a1
 have a2:i<=l.length:=a2
 have a3:vl=l:=a3
 have a4:vm=m:=a4
 have a5:vv={Good:=true,D4:=0,At:=0}:=a5
 have a6:va=l.map (·.At):=a6
 subst a3;subst a4;subst a5;subst a6
 have a7:ra P x sc:=a7
 have a8:gw x sc i (Bz vm (vl.map (·.At)) i) (vl.drop i.toNat)=gw vm s 0 vm.A0 vl:=a8
 have ml:(vl.map (·.At)).length=vl.length:=fH ..
 have vl6:vl.length<=1000000:=by omega
 refine ab (λhb=>?_) λhb=>bq ?_
 ·have hb:i<((vl.map (·.At)).length:Nat):=oY hb
  have hb:i<vl.length:=by rw[ml]at hb;exact hb
  have ew:i64.wrap (i+1)=i+1:=by rw[wrap_i64];omega
  have em:(vl.map (·.At)).getD i.toNat 0=(ib vl i).At:=zaB vl i.toNat
  have ru:=hr (ib vl i) (by show vl.getD i.toNat _∈vl;rw[dC,cG (show i.toNat<vl.length by omega)];exact fJ _)
  rw[Mr a1 hb (RK.cg RK.aa)]at a8
  have a8:gw x sc i (Bz vm (vl.map (·.At)) i) (ib vl i::vl.drop (i+1).toNat)=gw vm s 0 vm.A0 vl:=a8
  rw[Zo6]at a8
  refine ar (by simp[bJ];omega) ?_
  show(Tree.an (Qf x sc ((vl.map (·.At)).getD i.toNat 0)) _).w _
  rw[em]
  refine bh (zn a7.g.v a7.hs a7.hu ru.1 ru.2) λx0 ⟨e0,_,_⟩=>?_
  have e0:x0=bw x sc (ib vl i).At:=e0
  refine ab (λhe=>bh (Zo7 a1 hb ml vl6) λx1 e1=>bq ?_) λhe=>?_
  ·have he:(x0.2.2.2==0)=false:=by simpa using he
   have AX:((bw x sc (ib vl i).At).2.2.2==0)=false:=by rw[<-e0];exact he
   rw[AX]at a8
   rw[e1,<-a8]
   show(bif(x0.2.2.2==0)&&_ then _ else lO i _)=_
   rw[he];rfl
  ·have he:x0.2.2.2=0:=by simpa using he
   have AX:(bw x sc (ib vl i).At).2.2.2=0:=by rw[<-e0];exact he
   obtain⟨sn,n1,n2⟩:=a7.next AX
   have pE:((bw x sc (ib vl i).At).2.2.2==0)=true:=by rw[AX];rfl
   rw[pE,fN]at a8
   rw[<-e0]at sn n1 n2 a8
   obtain⟨hp,hh⟩:=Hk sn.g sn.d
   refine ar (by simp[bJ];omega) (cu hp (au λx2 e2=>bh (Zo7 a1 hb ml vl6) λx3 e3=>?_))
   have e2:x2=lN x0.1:=e2.trans hh
   rw[<-e2]at a8
   have z:(((0:Int)==0)&&(x2==(ib vl i).C8))=(x2==(ib vl i).C8):=fN _
   rw[z]at e3
   rw[e3]
   refine ab (λh=>bq ?_) λh=>dm ?_
   ·have h:(x2==(ib vl i).C8)=false:=by simpa using h
    rw[h]at a8
    show(bif(x2==(ib vl i).C8)then _ else lO i _)=_
    rw[h];exact a8
   ·have h:(x2==(ib vl i).C8)=true:=by simpa using h
    rw[h]at a8
    have a8:gw x0.1 (sc.drop x0.2.2.1.toNat) (i+1) (ib vl i).At (vl.drop (i+1).toNat)=gw vm s 0 vm.A0 vl:=a8
    have la:Bz vm (vl.map (·.At)) (i+1)=(ib vl i).At:=by
     unfold Bz;rw[if_pos (by omega),show i+1-1=i by omega];exact em
    show(0<=i64.wrap (i+1)/\i64.wrap (i+1)<=vl.length/\vl=vl/\vm=vm/\(bif(x2==(ib vl i).C8)then({Good:=true,D4:=0,At:=0}:jH)else lO i _)={Good:=true,D4:=0,At:=0}/\vl.map (·.At)=vl.map (·.At)/\ra P x0.1 (cZ (((sc.length:Nat):Int).toNat-x0.2.2.1.toNat) (dA x0.2.2.1.toNat sc))/\gw x0.1 (cZ (((sc.length:Nat):Int).toNat-x0.2.2.1.toNat) (dA x0.2.2.1.toNat sc)) (i64.wrap (i+1)) (Bz vm (vl.map (·.At)) (i64.wrap (i+1))) (vl.drop (i64.wrap (i+1)).toNat)=gw vm s 0 vm.A0 vl)/\((vl.map (·.At)).length-i64.wrap (i+1)).toNat<((vl.map (·.At)).length-i).toNat
    rw[ew,Ul n1 n2,la,h,ml]
    exact⟨⟨by omega,by omega,rfl,rfl,rfl,rfl,sn,a8⟩,by omega⟩
 ·have hb:¬i<((vl.map (·.At)).length:Nat):=oN hb
  have hb:¬i<vl.length:=by rw[ml]at hb;exact hb
  rw[aA (by omega)]at a8
  exact a8
def tU(m:ao)(s:List dr)(l:List fe):jH×Int:=bif iY m s (l.map (·.At))==0 then(gw m s 0 m.A0 l,0)else(lO 0 0,iY m s (l.map (·.At)))
theorem Znq{l:List fe}{i:Int}(h0:0<=i)(h:i<l.length):(l.take i.toNat).map (·.At)++[(ib l i).At]=(l.take (i+1).toNat).map (·.At):=by
 have cq:i.toNat<l.length:=by omega
 rw[show(i+1).toNat=i.toNat+1 by omega,<-List.take_append_getElem cq,bL,List.map_singleton]
 congr 2
 show(l.getD i.toNat _).At=_
 rw[dC,cG cq];rfl
section
variable {m:ao} (hv:oC m) (hc:m.A0<18446744073709551616) (d:kh m) {s:List dr} (hs:s.length<=1000000) (hu:∀e∈s,U e.C5.N) {l:List fe} (hl:l.length<=400) (hr:∀c∈l,0<=c.At/\c.At<18446744073709551616)
include hv hc d hs hu hl hr
theorem YI:(PR m s l).w (λr=>r=tU m s l):=by
 unfold PR
 refine ej (inv:=λv:Int×List Int=>0<=v.1/\v.1<=l.length/\v.2=(l.take v.1.toNat).map (·.At)) (μ:=Qk8 m s l) ⟨fI 0,by show(0:Int)<=_;omega,rfl⟩ (cO _) λv ⟨a1,a2,a3⟩=>?_
 obtain⟨i,out⟩:=v
 have a1:0<=i:=a1
 have a2:i<=l.length:=a2
 have a3:out=(l.take i.toNat).map (·.At):=a3
 have ol:out.length<=400:=by rw[a3,fH,bD];omega
 refine ab (λhb=>?_) λhb=>?_
 ·have hb:i<l.length:=oY hb
  have ew:i64.wrap (i+1)=i+1:=by rw[wrap_i64];omega
  refine ar (by simp[bJ];omega) (ar (dY (by show 8*(out.length+1)<=_;omega)) (dm ?_))
  show(0<=i64.wrap (i+1)/\i64.wrap (i+1)<=l.length/\out++[(ib l i).At]=(l.take (i64.wrap (i+1)).toNat).map (·.At))/\(l.length-i64.wrap (i+1)).toNat<(l.length-i).toNat
  rw[ew,a3]
  exact⟨⟨by omega,by omega,Znq a1 hb⟩,by omega⟩
 ·have hb:¬i<l.length:=oN hb
  have a3:out=l.map (·.At):=by rw[a3,fL (by omega)]
  subst a3
  refine bh (Zmf hv hc hs hu ol) λx0 e0=>?_
  refine ab (λh=>bq ?_) λh=>?_
  ·have h:(x0==0)=false:=by simpa using h
   show(lO 0 0,x0)=tU m s l
   unfold tU;rw[<-e0,h];rfl
  ·have h:x0=0:=by simpa using h
   have h0:iY m s (l.map (·.At))=0:=e0.symm.trans h
   obtain⟨P,g⟩:=Un hv (Um h0).2
   refine bh (yp ⟨g,d,hs,hu⟩ hl hr) λx1 e1=>bq ?_
   show(x1.2.2.1,(0:Int))=tU m s l
   unfold tU;rw[h0,e1];rfl
theorem Zpi(NA:l.length<=300):(PS m s l).w (λr=>r=tU m s l):=by
  unfold PS
  refine ej (inv:=λv:Int×List Int=>0<=v.1/\v.1<=l.length/\v.2=(l.take v.1.toNat).map (·.At)) (μ:=Qlg m s l) ⟨fI 0,by show(0:Int)<=_;omega,rfl⟩ (cO _) λv ⟨a1,a2,a3⟩=> ?_
  obtain⟨i,out⟩:=v
  have a1:0<=i:=a1
  have a2:i<=l.length:=a2
  have a3:out=(l.take i.toNat).map (·.At):=a3
  have ol:out.length<=400:=by rw[a3,fH,bD];omega
  refine ab (λhb=>ab (λ_=> ?_) λh4=>by exfalso;have h4: ¬i<=400:=oN h4;omega) λhb=> ?_
  . have hb:i<l.length:=oY hb
    have ew:i64.wrap (i+1)=i+1:=by rw[wrap_i64];omega
    refine ar (by simp [bJ];omega) (ar (dY (by show 8*(out.length+1)<=_;omega)) (dm ?_))
    show(0<=i64.wrap (i+1)/\i64.wrap (i+1)<=l.length/\out++[(ib l i).At]=(l.take (i64.wrap (i+1)).toNat).map (·.At))/\(l.length-i64.wrap (i+1)).toNat<(l.length-i).toNat
    rw[ew,a3]
    exact⟨⟨by omega,by omega,Znq a1 hb⟩,by omega⟩
  . have hb : ¬i<l.length:=oN hb
    have a3:out=l.map (·.At):=by rw[a3,fL (by omega)]
    subst a3
    clear a1 a2 hb
    refine bh (qX ol) λx0 e0=> ?_
    refine ab (λh=>bq ?_) λh=> ?_
    . have h:x0=false:=by simpa using h
      have:iY m s (l.map (·.At))=4300:=by unfold iY;rw[<-e0,h];rfl
      show(lO 0 0,(4300:Int))=tU m s l
      unfold tU;rw[this];rfl
    have h:x0=true:=by simpa using h
    have hk:iY m s (l.map (·.At))=kH m s m.A0:=by unfold iY;rw[<-e0,h];rfl
    refine bh (xn hv hs hu hv.pV hc) λx1 ⟨e1,_⟩=> ?_
    have ee:x1.2.2.2=iY m s (l.map (·.At)):=by rw[e1,hk];exact Jy m s
    refine ab (λh=>bq ?_) λh=> ?_
    . have h:(x1.2.2.2==0)=false:=by simpa using h
      show(lO 0 0,x1.2.2.2)=tU m s l
      unfold tU;rw[<-ee,h];rfl
    have h:x1.2.2.2=0:=by simpa using h
    have h0:iY m s (l.map (·.At))=0:=ee.symm.trans h
    obtain⟨P,g⟩:=Un hv (Um h0).2
    have em:tU m s l=(gw m s 0 m.A0 l,0):=by unfold tU;rw[h0];rfl
    rw[em]
    refine ej (inv:=λv:List dr×Int×Int×ao=>0<=v.2.2.1/\v.2.2.1<=l.length/\ra P v.2.2.2 v.1/\gw v.2.2.2 v.1 v.2.2.1 v.2.1 (l.drop v.2.2.1.toNat)=gw m s 0 m.A0 l) (μ:=Qlq m s l) ⟨fI 0,by show(0:Int)<=_;omega,⟨g,d,hs,hu⟩,rfl⟩ (cO _) λv ⟨a1,a2,a7,a8⟩=> ?_
    obtain⟨sc,last,i,x⟩:=v
    have a1:0<=i:=a1
    have a2:i<=l.length:=a2
    have a7:ra P x sc:=a7
    have a8:gw x sc i last (l.drop i.toNat)=gw m s 0 m.A0 l:=a8
    refine ab (λhb=> ?_) λhb=>bq ?_
    . have hb:i<l.length:=oY hb
      have ew:i64.wrap (i+1)=i+1:=by rw[wrap_i64];omega
      have ru:=hr (ib l i) (by show l.getD i.toNat _∈l;rw[dC,cG (show i.toNat<l.length by omega)];exact fJ _)
      rw[Mr a1 hb (RK.cg RK.aa)]at a8
      have a8:gw x sc i last (ib l i::l.drop (i+1).toNat)=gw m s 0 m.A0 l:=a8
      rw[Zo6]at a8
      have cc:(bT 2 2&&bJ 0 2&&decide (0<=i/\i<((l.length:Nat):Int)))=true:=by simp [bJ];omega
      refine ar cc (bh (Zf a7 ru.1 ru.2) λx2 e2=> ?_)
      have e2:x2=((bw x sc (ib l i).At).1,(bw x sc (ib l i).At).2.2.1,(bw x sc (ib l i).At).2.2.2):=e2
      rw[e2]
      refine ab (λhe=>bq ?_) λhe=> ?_
      . have he:((bw x sc (ib l i).At).2.2.2==0)=false:=by simpa using he
        rw[he]at a8
        show(lO i last,(0:Int))=(gw m s 0 m.A0 l,0)
        rw[<-a8];rfl
      . have AX:(bw x sc (ib l i).At).2.2.2=0:=by simpa using he
        obtain⟨sn,n1,n2⟩:=a7.next AX
        rw[show((bw x sc (ib l i).At).2.2.2==0)=true by rw[AX];rfl,fN]at a8
        generalize bw x sc (ib l i).At=r at sn n1 n2 a8⊢
        obtain⟨hp,hh⟩:=Hl sn.g sn.d
        refine cu hp (au λx3 e3=>ar cc ?_)
        have e3:x3=lN r.1:=e3.trans hh
        rw[<-e3]at a8
        refine ab (λhx=>bq ?_) λhx=> ?_
        . have hx:(x3==(ib l i).C8)=false:=by
            have hx:(x3 !=(ib l i).C8)=true:=hx
            simpa using hx
          rw[hx]at a8
          show(lO i last,(0:Int))=(gw m s 0 m.A0 l,0)
          rw[<-a8];rfl
        . have hx:(x3==(ib l i).C8)=true:=by
            have hx:(x3 !=(ib l i).C8)=false:=hx
            simpa using hx
          rw[hx]at a8
          have a8:gw r.1 (sc.drop r.2.2.1.toNat) (i+1) (ib l i).At (l.drop (i+1).toNat)=gw m s 0 m.A0 l:=a8
          refine ar (by show(bT 4 4&&bJ 0 4&&decide (0<=r.2.2.1/\r.2.2.1<=((sc.length:Nat):Int)/\((sc.length:Nat):Int)<=((sc.length:Nat):Int)))=true;simp [bJ];omega) (ar cc (dm ?_))
          show(0<=i64.wrap (i+1)/\i64.wrap (i+1)<=l.length/\ra P r.1 (cZ (((sc.length:Nat):Int).toNat-r.2.2.1.toNat) (dA r.2.2.1.toNat sc))/\gw r.1 (cZ (((sc.length:Nat):Int).toNat-r.2.2.1.toNat) (dA r.2.2.1.toNat sc)) (i64.wrap (i+1)) (ib l i).At (l.drop (i64.wrap (i+1)).toNat)=gw m s 0 m.A0 l)/\(l.length-i64.wrap (i+1)).toNat<(l.length-i).toNat
          rw[ew,Ul n1 n2]
          exact⟨⟨by omega,by omega,sn,a8⟩,by omega⟩
    . have hb: ¬i<l.length:=oN hb
      rw[aA (by omega)]at a8
      show(({Good:=true,D4:=0,At:=0}:jH),(0:Int))=(gw m s 0 m.A0 l,0)
      rw[<-a8];rfl
end
structure Jal(m:ao)(s:List dr):Prop where
 st:ra 8 m s
 c:m.A0<=87
structure Hm(c:Int)(r:List Int):Prop where
 asc:PF c r
 le:∀x∈r,c<=x/\x<=c+200
theorem Hm.u{c:Int}{r:List Int}(h:Hm c r)(h0:0<=c)(h1:c<=87):∀x∈r,0<=x/\x<18446744073709551616:=λx hx=>by have:=h.le x hx;omega
theorem vp{l:List Int}{m:ao}{s:List dr}(h:(jx m s l).2≠0):(jx m s l).1=[]:=by
 cases l with
 |nil=>exact absurd rfl h
 |cons u l=>
  rw[PI]at h⊢
  cases h1:(bw m s u).2.2.2==0
  ·rfl
  ·rw[h1]at h
   show(comb _ _).1=[]
   have h:(comb [{At:=u,C8:=lN (bw m s u).1}] (jx (bw m s u).1 (s.drop (bw m s u).2.2.1.toNat) l)).2≠0:=h
   unfold comb at h⊢
   generalize jx (bw m s u).1 (s.drop (bw m s u).2.2.1.toNat) l=w at h⊢
   cases h2:w.2==0
   ·rfl
   ·rw[h2]at h;exact absurd rfl h
theorem Zq8{l:List Int}{m:ao}{s:List dr}(h:(tT m s l).2≠0):(tT m s l).1=[]:=by
 unfold tT at h⊢
 cases h1:iY m s l==0
 ·rfl
 ·rw[h1]at h;exact vp h
theorem Zi6{l:List Int}{m:ao}{s:List dr}(h:(tT m s l).2=0):iY m s l=0/\jx m s l=((tT m s l).1,0):=by
 unfold tT at h⊢
 cases h1:iY m s l==0
 ·rw[h1]at h
  have h:iY m s l=0:=h
  rw[h]at h1;cases h1
 ·rw[h1]at h
  have h:(jx m s l).2=0:=h
  refine⟨eq_of_beq h1,?_⟩
  show jx m s l=((jx m s l).1,0)
  rw[<-h]
theorem Zii:∀{l:List Int} {m:ao} {s:List dr} {L:List fe} {P:Nat},ra P m s->jx m s l=(L,0)->∀c∈L,c.At∈l/\0<=c.C8/\c.C8<18446744073709551616
 |[],m,s,L,P,st,h,c,hc=>by rw[show L=[] from(Prod.mk.inj h).1.symm]at hc;cases hc
 |u ::l,m,s,L,P,st,h,c,hc=>by
  obtain⟨h1,K,e,h2⟩:=Ql h
  obtain⟨sn,_,_⟩:=st.next h1
  rw[e]at hc
  rcases List.mem_cons.1 hc with hc|hc
  ·rw[hc];exact⟨by simp,Zk1 sn.g sn.d⟩
  ·obtain⟨p,q⟩:=Zii sn h2 c hc
   exact⟨by simp[p],q⟩
theorem qL{a:List fe}(ha:a.length<=1000000):(PU a a).w (λb=>b=true):=by
 unfold PU
 refine ab (λh=>by simp at h) λ_=>?_
 refine ej (inv:=λv:Int=>0<=v/\v<=a.length) (μ:=Qn2 a a) ⟨fI 0,by show(0:Int)<=_;omega⟩ (cO _) λv ⟨a1,a2⟩=>?_
 refine ab (λhb=>?_) λ_=>bq rfl
 have hb:v<a.length:=oY hb
 have ew:i64.wrap (v+1)=v+1:=by rw[wrap_i64];omega
 have cc:(bT 2 2&&bJ 0 2&&decide (0<=v/\v<((a.length:Nat):Int)))=true:=by simp[bJ];omega
 refine ar cc (ar cc (ab (λh=>?_) λ_=>dm ?_))
 ·exfalso
  generalize a.getD v.toNat (RK.cg RK.aa)=c at h
  have:eqs [D.int .u64 c.At,D.int .u64 c.C8] [D.int .u64 c.At,D.int .u64 c.C8]=true:=by simp[eqs,Jz]
  rw[this]at h;cases h
 ·show(0<=i64.wrap (v+1)/\i64.wrap (v+1)<=a.length)/\(a.length-i64.wrap (v+1)).toNat<(a.length-v).toNat
  rw[ew]
  exact⟨⟨by omega,by omega⟩,by omega⟩
section
instance qq (i:Int):Ck (Hn i):=let d:Decidable (Hn i):=(by delta Hn;infer_instance);⟨@decide _ d,@oY _ d⟩
instance Zkl (a:bg) (b:bg):Ck (Q9z a b):=rQ (t:=JA a b) (by delta JA;infer_instance)
instance Zky (a:List Int) (b:List Int):Ck (Qa a b):=rQ (t:=JB a b) (by delta JB;infer_instance)
instance Zr5 (a:ao) (b:ao):Ck (Ms a b):=rQ (t:=JC a b) (by delta JC;infer_instance)
abbrev mA:ao:=Mf 2 [0]
def mA5(m:ao):ao:={A7:={X:={a0:=m.A7.X.a0,a1:=m.A7.X.a1,a2:=m.A7.X.a2,a3:=m.A7.X.a3,a4:=m.A7.X.a4,a5:=7,a6:=m.A7.X.a6,a7:=m.A7.X.a7,a8:=m.A7.X.a8,a9:=m.A7.X.a9,kP:=m.A7.X.kP,kQ:=m.A7.X.kQ,a12:=m.A7.X.a12,kR:=m.A7.X.kR,kS:=m.A7.X.kS,kT:=m.A7.X.kT},Pc:=m.A7.Pc,B1:=m.A7.B1},Mem:=m.Mem,A2:=m.A2,A9:=m.A9,A4:=m.A4,C1:=m.C1,A1:=m.A1,A0:=m.A0,A3:=m.A3,A6:=m.A6}
theorem xL:Ms mA (mA5 mA):=ck inferInstance (by kernel_rfl)
theorem zL:Ms mA mA:=ck inferInstance (by kernel_rfl)
theorem yL:PV mA (mA5 mA)=[120,32,53]:=by kernel_rfl
theorem vL:PV mA mA=[]:=by kernel_rfl
end
theorem CS:(tT mA [] [1,3]).2=0:=by kernel_rfl
theorem Ho:PW.w (λr=>r=true):=by
 unfold PW
 refine cu (Tree.pp (xg 2 [0] (by decide))).1 (au λx0 e0=>?_)
 subst e0
 obtain⟨g,gc⟩:=Zfj 2 [0] (by decide) (by decide)
 have d:=Zp 2 [0] (by decide) (by decide)
 have hc:mA.A0<18446744073709551616:=by show(Mf 2 [0]).A0<_;omega
 refine bh (xp g.v hc d (s:=[]) (aT _) (λe he=>by cases he) (l:=[1,3]) (by decide) (λx hx=>by simp at hx;omega)) λx1 e1=>?_
 obtain⟨c0,mk⟩:=Zi6 CS
 rw[<-e1]at mk
 have ja:x1.2=0:=by rw[e1];exact CS
 obtain⟨L,e⟩:=x1
 have ja:e=0:=ja
 subst ja
 have mk:jx mA [] [1,3]=(L,0):=mk
 have ma:=YG mk
 have l2:L.length=2:=by rw[<-fH (f:=(·.At)),ma];rfl
 have mm:=Zii (P:=8) ⟨g,d,aT _,λe he=>by cases he⟩ mk
 have hr:∀c∈L,0<=c.At/\c.At<18446744073709551616:=λc hc=>by have:=(mm c hc).1;simp at this;omega
 have ckL:tU mA [] L=({Good:=true,D4:=0,At:=0},0):=by
  unfold tU
  rw[ma,c0]
  show(gw mA [] 0 mA.A0 L,(0:Int))=_
  rw[wY mk]
 refine ab (λh=>by cases h) λ_=>ab (λh=>?_) λ_=>?_
 ·exfalso
  have h:(((L.length:Nat):Int) !=2)=true:=h
  rw[l2]at h;cases h
 refine bh (YI g.v hc d (s:=[]) (aT _) (λe he=>by cases he) (l:=L) (by omega) hr) λx2 e2=>?_
 have cc:(bT 2 2&&bJ 0 2&&decide ((0:Int)<=1/\(1:Int)<((L.length:Nat):Int)))=true:=by rw[l2];rfl
 refine ar cc (ar cc ?_)
 obtain⟨q,hq⟩:∃q:fe,q=L.getD 1 (RK.cg RK.aa):=⟨_,rfl⟩
 have hqd:L.getD 1 default=q:=by
  rw[hq,dC,dC,cG (show 1<L.length by omega)];rfl
 have hqm:q∈L:=by rw[hq,dC,cG (show 1<L.length by omega)];exact fJ _
 have hqr:=(mm q hqm).2
 have sl:(L.set 1 {At:=q.At,C8:=wrap .u64 (q.C8+1)}).length=2:=by rw[dG,l2]
 have sm:(L.set 1 ({At:=q.At,C8:=wrap .u64 (q.C8+1)}:fe)).map (·.At)=L.map (·.At):=by
  apply List.ext_getElem
  ·rw[fH,fH,dG]
  ·intro n h1 h2
   rw[bO,bO,List.getElem_set]
   split
   ·rename_i hn
    subst hn
    show q.At=_
    rw[hq,dC,cG (show 1<L.length by omega)];rfl
   ·rfl
 have ckS:tU mA [] (L.set 1 {At:=q.At,C8:=wrap .u64 (q.C8+1)})=({Good:=false,D4:=1,At:=1},0):=by
  unfold tU
  rw[sm,ma,c0]
  have f:=Hj 1 mk (by omega) 0 mA.A0 (wrap .u64 (q.C8+1)) (by rw[hqd,wrap_u64];omega)
  rw[hqd]at f
  show(gw mA [] 0 mA.A0 _,(0:Int))=_
  rw[f]
  have h0:(L.getD (1-1) default).At=1:=by
   have:(L.map (·.At)).getD 0 0=(L.getD 0 default).At:=by
    rw[dC,dC,fM,cG (show 0<L.length by omega)];rfl
   rw[ma]at this
   exact this.symm
  rw[h0];rfl
 have PX:∀c∈L.set 1 {At:=(L.getD 1 (RK.cg RK.aa)).At,C8:=wrap .u64 ((L.getD 1 (RK.cg RK.aa)).C8+1)},0<=c.At/\c.At<18446744073709551616:=λc rG=>by
  rcases List.mem_or_eq_of_mem_set rG with h|h
  ·exact hr c h
  ·rw[h,<-hq];exact hr q hqm
 refine bh (YI g.v hc d (s:=[]) (aT _) (λe he=>by cases he) (l:=L.set 1 {At:=(L.getD 1 (RK.cg RK.aa)).At,C8:=wrap .u64 ((L.getD 1 (RK.cg RK.aa)).C8+1)}) (by rw[dG];omega) PX) λx3 e3=>?_
 rw[<-hq]at e3
 rw[e2,e3,ckL,ckS]
 have no:∀{t:Tree Bool},false=true->t.w (λr=>r=true):=λh=>by cases h
 refine ab (λ_=>ab (λ_=>ab (λ_=>ab (λ_=>ab (λ_=>ab (λ_=>?_) λh=>by cases h) λh=>by cases h) λh=>by cases h) λh=>by cases h) λh=>by cases h) λh=>by cases h
 refine cu xL (au λx4 e4=>ab (λ_=>cu zL (au λx5 e5=>bq ?_)) λh=>?_)
 ·have e5:x5=[]:=e5.trans vL
  rw[e5];rfl
 ·have e4:x4=[120,32,53]:=e4.trans yL
  rw[e4]at h;cases h
theorem YJ{W:Bool->Prop}(h:W true):(Tree.an CU (.lv AY λx=>.lf x)).w W:=by
 obtain⟨p,q⟩:=Tree.pp Ho
 exact cu p (au λx e=>by show W x;rw[e,show AY=true from q];exact h)
theorem xq:∀(k n:Nat),n<10^k->0<k->n<18446744073709551616->rH k (n:Int)=Lib.decDigits n
 |0,n,_,h,_=>absurd h (fO 0)
 |k + 1,n,h,_,hb=>by
  show(FK (λ_=>True) (rH k) (n:Int)).m=_
  unfold FK
  by_cases AS:n<10
  ·rw[Lib.decDigits,dif_pos AS]
   have e:decide ((n:Int)<10)=true:=dY (by omega)
   simp only[Tree.m,e]
   have e2:wrap .u64 (48+(n:Int))=48+n:=by rw[wrap_u64];omega
   have e3:wrap .u8 (48+(n:Int))=48+n:=by rw[wrap_u8];omega
   have e4:Int.toNat (48+(n:Int))=48+n:=by omega
   simp[e2,e3,e4]
  ·rw[Lib.decDigits,dif_neg AS]
   have e:decide ((n:Int)<10)=false:=dN (by omega)
   have d1:Int.tdiv (n:Int) 10=((n/10:Nat):Int):=by rw[Int.tdiv_eq_ediv_of_nonneg (by omega)];omega
   have d2:Int.tmod (n:Int) 10=((n%10:Nat):Int):=by rw[eD (by omega)];omega
   have e1:wrap .u64 ((n/10:Nat):Int)=((n/10:Nat):Int):=by rw[wrap_u64];omega
   have e2:wrap .u64 (48+((n%10:Nat):Int))=48+((n%10:Nat):Int):=by rw[wrap_u64];omega
   have e3:wrap .u8 (48+((n%10:Nat):Int))=48+((n%10:Nat):Int):=by rw[wrap_u8];omega
   have e4:Int.toNat (48+((n%10:Nat):Int))=48+n%10:=by omega
   have hk:0<k:=by
    rcases fP k with rfl|hk
    ·simp at h;omega
    ·exact hk
   have ih:=xq k (n/10) (by rw[fG]at h;omega) hk (by omega)
   simp only[Tree.m,e,dk,d1,d2,e1,e2,e3,e4,ih]
   rfl
def Mt(p:List UInt8)(i:Int):List UInt8:=p++[32]++Lib.decDigits i.toNat
theorem yq{i:Int}(h0:0<=i)(h1:i<1000000000):(Fq i).w (λr=>r=Lib.decDigits i.toNat):=by
 unfold Fq
 have e:wrap .u64 i=i:=by rw[wrap_u64];omega
 refine ab (λh=>by have:=oY h;omega) λ_=>cu (show(0:Int)<=wrap .u64 i/\wrap .u64 i<18446744073709551616 by rw[e];omega) (au λx ex=>bq ?_)
 rw[ex,e]
 show rH 20 i=_
 have:=xq 20 i.toNat (by omega) (by omega) (by omega)
 rw[eG h0]at this
 exact this
theorem Up{n:Nat}:∀k,n<10^k->0<k->(Lib.decDigits n).length<=k:=by
 intro k
 induction k generalizing n with
 |zero=>intro _ h;exact absurd h (fO 0)
 |succ k ih=>
  intro h _
  rw[Lib.decDigits]
  split
  ·simp
  ·rename_i AS
   have hk:0<k:=by
    rcases fP k with rfl|hk
    ·simp at h;omega
    ·exact hk
   have:=ih (n:=n/10) (by rw[fG]at h;omega) hk
   simp;omega
theorem YL{p:List UInt8}(hp:p.length<=10){i:Int}(h0:0<=i)(h1:i<1000000000):(PY p i).w (λr=>r=Mt p i):=by
 unfold PY
 have hl:=Up (n:=i.toNat) 9 (by omega) (by omega)
 have hm:maxLen=1000000000000\/100<=maxLen:=.inr (by decide)
 have hm:100<=maxLen:=by rcases hm with h|h<;>omega
 refine ar (dY (by omega)) (bh (yq h0 h1) λx ex=>ar (dY (by rw[ex];simp;omega)) (bq ?_))
 rw[ex];rfl
def scan(p:List UInt8)(l l':List Int)(rest:List UInt8)(i:Nat):Nat->List UInt8
 |0=>rest
 |n+1=>bif l.getD i 0 !=l'.getD i 0 then Mt p i else scan p l l' rest (i+1) n
theorem Mu{p:List UInt8}(hp:p≠[])(l l':List Int)(rest:List UInt8):∀(n i:Nat),scan p l l' rest i n=bif decide (scan p l l' [] i n=[])then rest else scan p l l' [] i n
 |0,i=>rfl
 |n +1,i=>by
  unfold scan
  cases h:(l.getD i 0 !=l'.getD i 0)with
  |true=>
   have:Mt p i≠[]:=by unfold Mt;simp
   simp[this]
  |false=>exact Mu hp l l' rest n (i+1)
theorem Mv{p:List UInt8}{l l':List Int}{rest F:List UInt8}{N:Int}{z:Int}(z0:0<=z)(z1:z<N)(h:F=scan p l l' rest z.toNat (N-z).toNat):
 ((l.getD z.toNat 0 !=l'.getD z.toNat 0)=true->Mt p z=F)/\((l.getD z.toNat 0 !=l'.getD z.toNat 0)=false->F=scan p l l' rest (z+1).toNat (N-(z+1)).toNat):=by
 have e1:(N-z).toNat=(N-(z+1)).toNat+1:=by omega
 have e2:(z+1).toNat=z.toNat+1:=by omega
 rw[e1]at h
 unfold scan at h
 refine⟨λg=>?_,λg=>?_⟩
 ·rw[g]at h;rw[h]
  show _=Mt p ((z.toNat:Nat):Int)
  rw[eG z0]
 ·rw[g]at h;rw[h,e2];rfl
theorem Mw{p:List UInt8}{l l':List Int}{rest F:List UInt8}{N:Int}{z:Int}(z1:N<=z)(h:F=scan p l l' rest z.toNat (N-z).toNat):F=rest:=by
 rw[show(N-z).toNat=0 by omega]at h;exact h
def sW(a b:bg)(rest:List UInt8):List UInt8:=scan [120] (fu.l a.X) (fu.l b.X) (bif a.Pc !=b.Pc then[112,99]else scan [99,115,114] (A8.l a.B1) (A8.l b.B1) rest 0 8) 0 16
def tV(a b:List Int)(rest:List UInt8):List UInt8:=bif((a.length:Int) !=(b.length:Int))then[109,101,109]else scan [109,101,109] a b rest 0 a.length
theorem qM(a b:bg):(JA a b).w (λr=>r=sW a b []):=by
 unfold JA
 refine ej (inv:=λz:Int=>0<=z/\z<=16/\sW a b []=scan [120] (fu.l a.X) (fu.l b.X) (bif a.Pc !=b.Pc then[112,99]else scan [99,115,114] (A8.l a.B1) (A8.l b.B1) [] 0 8) z.toNat (16-z).toNat) (μ:=Qcu a b) ⟨fI 0,by decide,rfl⟩ (cO _) λz ⟨z0,z1,hz⟩=>?_
 refine ab (λh=>?_) λh=>?_
 ·have h:z<16:=oY h
  obtain⟨g1,g2⟩:=Mv z0 h hz
  have ew:i64.wrap (z+1)=z+1:=by rw[wrap_i64];omega
  refine ar (by simp[bJ];omega) (ar (by simp[bJ];omega) (ab (λe=>?_) λe=>dm ?_))
  ·refine cu (by show _/\_;omega) (au λx ex=>ar (dY ?_) (bq ?_))
   ·have:=Up (n:=z.toNat) 9 (by omega) (by omega)
    have hm:100<=maxLen:=by decide
    rw[ex];show 2+(Lib.decDigits z.toNat).length<=_;omega
   ·rw[ex];exact g1 e
  ·show(0<=i64.wrap (z+1)/\_)/\(16-i64.wrap (z+1)).toNat<(16-z).toNat
   rw[ew];exact⟨⟨by omega,by omega,g2 e⟩,by omega⟩
 ·have h:¬z<16:=oN h
  have hz:=Mw (by omega) hz
  refine ab (λe=>bq ?_) λe=>?_
  ·rw[e]at hz;exact hz.symm
  rw[e]at hz
  refine ej (inv:=λz:Int=>0<=z/\z<=8/\sW a b []=scan [99,115,114] (A8.l a.B1) (A8.l b.B1) [] z.toNat (8-z).toNat) (μ:=Qct a b) ⟨fI 0,by decide,hz⟩ (cO _) λz ⟨z0,z1,hz⟩=>?_
  refine ab (λh=>?_) λh=>?_
  ·have h:z<8:=oY h
   obtain⟨g1,g2⟩:=Mv z0 h hz
   have ew:i64.wrap (z+1)=z+1:=by rw[wrap_i64];omega
   refine ar (by simp[bJ];omega) (ar (by simp[bJ];omega) (ab (λe=>?_) λe=>dm ?_))
   ·refine cu (by show _/\_;omega) (au λx ex=>ar (dY ?_) (bq ?_))
    ·have:=Up (n:=z.toNat) 9 (by omega) (by omega)
     have hm:100<=maxLen:=by decide
     rw[ex];show 4+(Lib.decDigits z.toNat).length<=_;omega
    ·rw[ex];exact g1 e
   ·show(0<=i64.wrap (z+1)/\_)/\(8-i64.wrap (z+1)).toNat<(8-z).toNat
    rw[ew];exact⟨⟨by omega,by omega,g2 e⟩,by omega⟩
  ·have h:¬z<8:=oN h
   exact bq (Mw (by omega) hz).symm
theorem xM{a b:List Int}(ha:a.length<=1000000):(JB a b).w (λr=>r=tV a b []):=by
 unfold JB
 refine ab (λe=>bq ?_) λe=>?_
 ·unfold tV;rw[e];rfl
 have hl:(a.length:Int)=b.length:=by simpa using e
 have Hp:tV a b []=scan [109,101,109] a b [] 0 a.length:=by unfold tV;rw[e];rfl
 refine ej (inv:=λz:Int=>0<=z/\z<=a.length/\tV a b []=scan [109,101,109] a b [] z.toNat (a.length-z).toNat) (μ:=Qcy a b) ⟨fI 0,by omega,by rw[Hp,show((a.length:Int)-0).toNat=a.length by omega];rfl⟩ (cO _) λz ⟨z0,z1,hz⟩=>?_
 refine ab (λh=>?_) λh=>?_
 ·have h:z<a.length:=oY h
  obtain⟨g1,g2⟩:=Mv z0 h hz
  have ew:i64.wrap (z+1)=z+1:=by rw[wrap_i64];omega
  refine ar (by simp[bJ];omega) (ar (by simp[bJ];omega) (ab (λe=>?_) λe=>dm ?_))
  ·refine cu (by show _/\_;omega) (au λx ex=>ar (dY ?_) (bq ?_))
   ·have:=Up (n:=z.toNat) 9 (by omega) (by omega)
    have hm:100<=maxLen:=by decide
    rw[ex];show 4+(Lib.decDigits z.toNat).length<=_;omega
   ·rw[ex];exact g1 e
  ·show(0<=i64.wrap (z+1)/\_)/\((a.length:Int)-i64.wrap (z+1)).toNat<((a.length:Int)-z).toNat
   rw[ew];exact⟨⟨by omega,by omega,g2 e⟩,by omega⟩
 ·have h:¬z<a.length:=oN h
  exact bq (Mw (by omega) hz).symm
def nO(a b:ao):List UInt8:=
 bif !eqs [D.str a.A2.C6] [D.str b.A2.C6]then[99,111,110,115,111,108,101]else bif !eqs [D.bool a.A9.D0,D.int .u32 a.A9.B8,D.bool a.A9.C9] [D.bool b.A9.D0,D.int .u32 b.A9.B8,D.bool b.A9.C9]then[116,105,109,101,114]else bif !eqs [D.int .u32 a.A4.ag,D.int .u32 a.A4.B9,D.int .u32 a.A4.Frame,D.int .i64 a.A4.B6,D.int .i64 a.A4.D1,D.int .u32 a.A4.B4,D.int .u32 a.A4.B0,D.str a.A4.B5] [D.int .u32 b.A4.ag,D.int .u32 b.A4.B9,D.int .u32 b.A4.Frame,D.int .i64 b.A4.B6,D.int .i64 b.A4.D1,D.int .u32 b.A4.B4,D.int .u32 b.A4.B0,D.str b.A4.B5]then[100,105,115,107]else bif !eqs [D.int .u32 a.C1.Frame,D.int .u32 a.C1.D6,D.bool a.C1.C2,D.int .u32 a.C1.B7,D.bool a.C1.B3,D.int .u32 a.C1.D8] [D.int .u32 b.C1.Frame,D.int .u32 b.C1.D6,D.bool b.C1.C2,D.int .u32 b.C1.B7,D.bool b.C1.B3,D.int .u32 b.C1.D8]then[110,105,99]else bif !eqs [D.int .u32 a.A1.C4,D.int .u32 a.A1.C0] [D.int .u32 b.A1.C4,D.int .u32 b.A1.C0]then[98,97,108,108,111,111,110]else bif a.A0 !=b.A0 then[99,111,117,110,116]else bif !a.A3==b.A3 then[119,97,105,116,105,110,103]else bif !a.A6==b.A6 then[104,97,108,116,101,100]else[]
theorem vq(a b:bg)(rest:List UInt8):sW a b rest=bif decide (sW a b []=[])then rest else sW a b []:=by
 unfold sW
 cases hp:(a.Pc !=b.Pc)with
 |true=>
  show scan _ _ _ [112,99] 0 16=bif decide (scan _ _ _ [112,99] 0 16=[])then _ else scan _ _ _ [112,99] 0 16
  rw[Mu (by simp) (fu.l a.X) (fu.l b.X) [112,99] 16 0]
  cases h:decide (scan [120] (fu.l a.X) (fu.l b.X) [] 0 16=[])with
  |true=>rfl
  |false=>simp only[cond_false];rw[h];rfl
 |false=>
  show scan _ _ _ (scan _ _ _ rest 0 8) 0 16=bif decide (scan _ _ _ (scan _ _ _ [] 0 8) 0 16=[])then _ else scan _ _ _ (scan _ _ _ [] 0 8) 0 16
  rw[Mu (by simp) (fu.l a.X) (fu.l b.X) (scan _ _ _ rest 0 8) 16 0,Mu (by simp) (fu.l a.X) (fu.l b.X) (scan _ _ _ [] 0 8) 16 0]
  cases h:decide (scan [120] (fu.l a.X) (fu.l b.X) [] 0 16=[])with
  |true=>simp only[cond_true];exact Mu (by simp) _ _ rest 8 0
  |false=>simp only[cond_false];rw[h];rfl
theorem Zp2(a b:List Int)(rest:List UInt8):tV a b rest=bif decide (tV a b []=[])then rest else tV a b []:=by
 unfold tV
 cases hp:((a.length:Int) !=(b.length:Int))with
 |true=>rfl
 |false=>exact Mu (by simp) _ _ rest a.length 0
def sX(a b:ao):List UInt8:=sW a.A7 b.A7 (tV a.Mem b.Mem (nO a b))
theorem qr{a b:ao}(ha:a.Mem.length<=1000000):(JC a b).w (λr=>r=sX a b):=by
 unfold JC
 refine bh (qM _ _) λx0 e0=>?_
 have h0:=vq a.A7 b.A7 (tV a.Mem b.Mem (nO a b))
 rw[<-e0]at h0
 refine ab (λh=>bq ?_) λh=>?_
 ·have h:decide (x0=[])=false:=by simpa using h
  unfold sX;rw[h0,h];rfl
 have h:decide (x0=[])=true:=by simpa using h
 rw[h]at h0
 refine bh (xM ha) λx1 e1=>?_
 have h1:=Zp2 a.Mem b.Mem (nO a b)
 rw[<-e1]at h1
 refine ab (λh=>bq ?_) λh=>?_
 ·have h:decide (x1=[])=false:=by simpa using h
  unfold sX;rw[h0];show _=tV _ _ _;rw[h1,h];rfl
 have h:decide (x1=[])=true:=by simpa using h
 rw[h]at h1
 have hF:sX a b=nO a b:=h0.trans h1
 rw[hF]
 exact ab (λe=>bq ((by unfold nO;rw[e];rfl))) λg0=>ab (λe=>bq ((by unfold nO;rw[g0];rw[e];rfl))) λg1=>ab (λe=>bq ((by unfold nO;rw[g0];rw[g1];rw[e];rfl))) λg2=>ab (λe=>bq ((by unfold nO;rw[g0];rw[g1];rw[g2];rw[e];rfl))) λg3=>ab (λe=>bq ((by unfold nO;rw[g0];rw[g1];rw[g2];rw[g3];rw[e];rfl))) λg4=>ab (λe=>bq ((by unfold nO;rw[g0];rw[g1];rw[g2];rw[g3];rw[g4];rw[e];rfl))) λg5=>ab (λe=>bq ((by unfold nO;rw[g0];rw[g1];rw[g2];rw[g3];rw[g4];rw[g5];rw[e];rfl))) λg6=>ab (λe=>bq ((by unfold nO;rw[g0];rw[g1];rw[g2];rw[g3];rw[g4];rw[g5];rw[g6];rw[e];rfl))) λg7=>bq ((by unfold nO;rw[g0];rw[g1];rw[g2];rw[g3];rw[g4];rw[g5];rw[g6];rw[g7];rfl))
theorem Zoy{a b:ao}(ha:a.Mem.length<=1000000):(PZ a b).w (λr=>r=sX a b):=by
 unfold PZ
 refine ej (inv:=λz:Int=>0<=z/\z<=16/\sX a b=scan [120] (fu.l a.A7.X) (fu.l b.A7.X) (bif a.A7.Pc !=b.A7.Pc then[112,99]else scan [99,115,114] (A8.l a.A7.B1) (A8.l b.A7.B1) (tV a.Mem b.Mem (nO a b)) 0 8) z.toNat (16-z).toNat) (μ:=Qgy a b) ⟨fI 0,by decide,rfl⟩ (cO _) λz ⟨z0,z1,hz⟩=>?_
 refine ab (λh=>?_) λh=>?_
 ·have h:z<16:=oY h
  obtain⟨g1,g2⟩:=Mv z0 h hz
  have ew:i64.wrap (z+1)=z+1:=by rw[wrap_i64];omega
  refine ar (by simp[bJ];omega) (ar (by simp[bJ];omega) (ab (λe=>bh (YL (by simp) z0 (by omega)) λx ex=>bq ?_) λe=>dm ?_))
  ·show x=_;rw[ex];exact g1 e
  ·show(0<=i64.wrap (z+1)/\_)/\(16-i64.wrap (z+1)).toNat<(16-z).toNat
   rw[ew];exact⟨⟨by omega,by omega,g2 e⟩,by omega⟩
 have h:¬z<16:=oN h
 have hz:=Mw (by omega) hz
 refine ab (λe=>bq ?_) λe=>?_
 ·rw[e]at hz;exact hz.symm
 rw[e]at hz
 refine ej (inv:=λz:Int=>0<=z/\z<=8/\sX a b=scan [99,115,114] (A8.l a.A7.B1) (A8.l b.A7.B1) (tV a.Mem b.Mem (nO a b)) z.toNat (8-z).toNat) (μ:=Qig a b) ⟨fI 0,by decide,hz⟩ (cO _) λz ⟨z0,z1,hz⟩=>?_
 refine ab (λh=>?_) λh=>?_
 ·have h:z<8:=oY h
  obtain⟨g1,g2⟩:=Mv z0 h hz
  have ew:i64.wrap (z+1)=z+1:=by rw[wrap_i64];omega
  refine ar (by simp[bJ];omega) (ar (by simp[bJ];omega) (ab (λe=>bh (YL (by simp) z0 (by omega)) λx ex=>bq ?_) λe=>dm ?_))
  ·show x=_;rw[ex];exact g1 e
  ·show(0<=i64.wrap (z+1)/\_)/\(8-i64.wrap (z+1)).toNat<(8-z).toNat
   rw[ew];exact⟨⟨by omega,by omega,g2 e⟩,by omega⟩
 have h:¬z<8:=oN h
 have hz:=Mw (by omega) hz
 refine ab (λe=>bq ?_) λe=>?_
 ·unfold tV at hz;rw[e]at hz;exact hz.symm
 have hl:(a.Mem.length:Int)=b.Mem.length:=by simpa using e
 unfold tV at hz
 rw[e]at hz
 refine ej (inv:=λz:Int=>0<=z/\z<=a.Mem.length/\sX a b=scan [109,101,109] a.Mem b.Mem (nO a b) z.toNat (a.Mem.length-z).toNat) (μ:=Qi0 a b) ⟨fI 0,by omega,by rw[hz,show((a.Mem.length:Int)-0).toNat=a.Mem.length by omega];rfl⟩ (cO _) λz ⟨z0,z1,hz⟩=>?_
 refine ab (λh=>?_) λh=>?_
 ·have h:z<a.Mem.length:=oY h
  obtain⟨g1,g2⟩:=Mv z0 h hz
  have ew:i64.wrap (z+1)=z+1:=by rw[wrap_i64];omega
  refine ar (by simp[bJ];omega) (ar (by simp[bJ];omega) (ab (λe=>bh (YL (by simp) z0 (by omega)) λx ex=>bq ?_) λe=>dm ?_))
  ·show x=_;rw[ex];exact g1 e
  ·show(0<=i64.wrap (z+1)/\_)/\((a.Mem.length:Int)-i64.wrap (z+1)).toNat<((a.Mem.length:Int)-z).toNat
   rw[ew];exact⟨⟨by omega,by omega,g2 e⟩,by omega⟩
 have h:¬z<a.Mem.length:=oN h
 have hz:=Mw (by omega) hz
 show Tree.w _ _
 rw[hz]
 exact ab (λe=>bq ((by unfold nO;rw[e];rfl))) λg0=>ab (λe=>bq ((by unfold nO;rw[g0];rw[e];rfl))) λg1=>ab (λe=>bq ((by unfold nO;rw[g0];rw[g1];rw[e];rfl))) λg2=>ab (λe=>bq ((by unfold nO;rw[g0];rw[g1];rw[g2];rw[e];rfl))) λg3=>ab (λe=>bq ((by unfold nO;rw[g0];rw[g1];rw[g2];rw[g3];rw[e];rfl))) λg4=>ab (λe=>bq ((by unfold nO;rw[g0];rw[g1];rw[g2];rw[g3];rw[g4];rw[e];rfl))) λg5=>ab (λe=>bq ((by unfold nO;rw[g0];rw[g1];rw[g2];rw[g3];rw[g4];rw[g5];rw[e];rfl))) λg6=>ab (λe=>bq ((by unfold nO;rw[g0];rw[g1];rw[g2];rw[g3];rw[g4];rw[g5];rw[g6];rw[e];rfl))) λg7=>bq ((by unfold nO;rw[g0];rw[g1];rw[g2];rw[g3];rw[g4];rw[g5];rw[g6];rw[g7];rfl))
theorem wZ{α:Type}{k:Bool->α}{W:α->Prop}(h:W (k true)):(Tree.an CU (.lv AY λx=>.lf (k x))).w W:=by
 obtain⟨p,q⟩:=Tree.pp Ho
 exact cu p (au λx e=>by show W (k x);rw[e,show AY=true from q];exact h)
theorem yM{m:ao}{x:Bool}(h:x=Uq m)(hx:(!x)=false):m.Mem.length<=1100/\m.A2.C6.length<=100/\m.A4.B5.length<=300:=by
 rw[h]at hx
 have hx:Uq m=true:=by simpa using hx
 revert hx
 show(Ur m).m=true->_
 unfold Ur
 intro hx
 by_cases h1:(m.Mem.length:Int)<=1100
 ·by_cases h2:(m.A2.C6.length:Int)<=100
  ·have:decide ((m.A4.B5.length:Int)<=300)=true:=by simpa[Tree.m,h1,h2]using hx
   have:=oY this
   omega
  ·simp[Tree.m,h1,h2]at hx
 ·simp[Tree.m,h1]at hx
theorem EL{m n:ao}{script:List dr}{bn:List Int}{l:List fe}(hv:oC m)(hr:CI m)(d:kh m)(hu:∀e∈script,U e.C5.N)(ha:∀x∈bn,0<=x/\x<18446744073709551616)(hl:∀c∈l,0<=c.At/\c.At<18446744073709551616):Qfn m n script bn l/\Qfh m n script bn l=true:=by
 have aw:=YJ (W:=λr=>r=true) rfl
 refine Tree.pp (W:=λr=>r=true) ?_
 unfold Us
 refine au λx0 h0=>ab (λ_=>aw) λb0=>au λx2 h2=>ab (λ_=>aw) λb2=>ab (λ_=>aw) λb3=>ab (λ_=>aw) λb4=>ab (λ_=>aw) λb5=>?_
 obtain⟨l1,l2,l3⟩:=yM h0 b0
 have f3:script.length<=30:=by have:=oN b3;omega
 have f4:bn.length<=10:=by have:=oN b4;omega
 have f5:l.length<=10:=by have:=oN b5;omega
 have he:wX m:=⟨hr,by omega,by omega⟩
 refine ej (inv:=λz:Int=>0<=z/\z<=script.length) (μ:=Qcw m n script bn l) ⟨fI 0,by omega⟩ (cO _) λz ⟨z0,z1⟩=>?_
 refine ab (λh=>?_) λh=>?_
 ·have h:z<script.length:=oY h
  have ew:i64.wrap (z+1)=z+1:=by rw[wrap_i64];omega
  refine ar (by simp[bJ];omega) (ab (λ_=>wZ rfl) λ_=>dm ?_)
  show(0<=i64.wrap (z+1)/\i64.wrap (z+1)<=script.length)/\((script.length:Int)-i64.wrap (z+1)).toNat<((script.length:Int)-z).toNat
  rw[ew];omega
 refine ej (inv:=λz:Int=>0<=z/\z<=bn.length) (μ:=Qcx m n script bn l) ⟨fI 0,by omega⟩ (cO _) λz ⟨z0,z1⟩=>?_
 refine ab (λh=>?_) λh=>?_
 ·have h:z<bn.length:=oY h
  have ew:i64.wrap (z+1)=z+1:=by rw[wrap_i64];omega
  have nx:(0<=i64.wrap (z+1)/\i64.wrap (z+1)<=bn.length)/\((bn.length:Int)-i64.wrap (z+1)).toNat<((bn.length:Int)-z).toNat:=by rw[ew];omega
  exact ar (by simp[bJ];omega) (ab (λ_=>ar (by simp[bJ];omega) (ab (λ_=>wZ rfl) λ_=>dm nx)) λ_=>dm nx)
 refine ej (inv:=λz:Int=>0<=z/\z<=l.length) (μ:=Qcv m n script bn l) ⟨fI 0,by omega⟩ (cO _) λz ⟨z0,z1⟩=>?_
 refine ab (λh=>?_) λh=>?_
 ·have h:z<l.length:=oY h
  have ew:i64.wrap (z+1)=z+1:=by rw[wrap_i64];omega
  have nx:(0<=i64.wrap (z+1)/\i64.wrap (z+1)<=l.length)/\((l.length:Int)-i64.wrap (z+1)).toNat<((l.length:Int)-z).toNat:=by rw[ew];omega
  exact ar (by simp[bJ];omega) (ab (λ_=>ar (by simp[bJ];omega) (ab (λ_=>wZ rfl) λ_=>dm nx)) λ_=>dm nx)
 refine bh (xp hv hr.ct.2 d (by omega) hu (l:=bn) (by omega) ha) λja Ub=>?_
 refine bh (zp hv hr.ct.2 d (by omega) hu (l:=bn) (by omega) ha) λjv Uc=>?_
 have Uc:jv=ja:=Uc.trans Ub.symm
 subst Uc
 refine bh (YI hv hr.ct.2 d (by omega) hu (l:=l) (by omega) hl) λjO e12=>?_
 refine bh (Zpi hv hr.ct.2 d (by omega) hu (l:=l) (by omega) hl (by omega)) λjW Ud=>?_
 have Ud:jW=jO:=Ud.trans e12.symm
 subst Ud
 obtain⟨p1,q1⟩:=ym hv he l1
 obtain⟨p2,q2⟩:=Zgc hv he l1
 have hq:Ml m=Hh m:=by rw[q1,q2];exact(Zhv _ _).symm
 refine bh (t:=Ut m) (Q:=λx=>x={At:=m.A0,C8:=Hh m}) (cu p1 (au λx ex=>bq (by rw[ex]))) λkF e14=>?_
 refine bh (t:=Uu m) (Q:=λx=>x={At:=m.A0,C8:=Hh m}) (cu p2 (au λx ex=>bq (by rw[ex,hq]))) λmh Ue=>?_
 have Ue:mh=kF:=Ue.trans e14.symm
 subst Ue
 refine ab (λ_=>?_) λh=>by simp[eqs,Jz,fe.cells]at h
 have ll:jv.1.length<=10:=by
  by_cases h:jv.2=0
  ·rw[Ub]at h⊢
   have:=YG (Zi6 h).2
   rw[<-fH (f:=(·.At)),this];omega
  ·rw[Ub]at h⊢
   rw[Zq8 h];exact aT _
 refine bh (qL (by omega)) λlB e16=>ab (λ_=>?_) λh=>by rw[e16]at h;cases h
 refine ab (λ_=>?_) λh=>by simp at h
 refine ab (λ_=>?_) λh=>by simp[eqs,Jz]at h
 refine ab (λ_=>?_) λh=>by simp at h
 refine bh (qr (a:=m) (b:=n) (by omega)) λmP e17=>bh (Zoy (a:=m) (b:=n) (by omega)) λnw e18=>ab (λ_=>wZ rfl) λh=>absurd (e17.trans e18.symm) (oN h)
theorem Zll{d:D}(h:Fit (.sl [.int .u64,.int .i64,.int .u32,.str]) d):∃l:List dr,pF d (.sl 4 (.ba .ae l) false)/\∀e∈l,U e.C5.N:=by
 unfold Fit at h
 obtain⟨es,rfl,hl,h⟩:=h
 obtain⟨l,rfl,hu⟩:=Zh7 h
 exact⟨l,gd.Pa (k:=.ae) rfl,λe he=>(hu e he).1⟩
theorem Zlz{es:List (List D)}(h:∀e∈es,Fits [.int .u64,.int .u64] e):∃l:List fe,es=l.map fe.cells/\∀c∈l,0<=c.At/\c.At<18446744073709551616:=by
 induction es with
 |nil=>exact⟨[],rfl,λe he=>by cases he⟩
 |cons x es ih=>
  obtain⟨l,h1,h2⟩:=ih (λe he=>h e (by simp[he]))
  obtain⟨d0,e0,rfl,h0,H0⟩:=ju (h x (by simp))
  obtain⟨x0,rfl,b0⟩:=jV h0
  obtain⟨d1,e1,rfl,g1,H1⟩:=ju H0
  obtain⟨x1,rfl,b1⟩:=jV g1
  obtain rfl:=Yo H1
  refine⟨⟨x0,x1⟩::l,by rw[h1];rfl,λq hq=>?_⟩
  rcases List.mem_cons.1 hq with hq|hq
  ·rw[hq]
   have e:u64.max=18446744073709551615:=rfl
   have b:=b0.2
   exact⟨b0.1,by show x0<_;omega⟩
  ·exact h2 q hq
theorem Zqe{d:D}(h:Fit (.sl [.int .u64,.int .u64]) d):∃l:List fe,pF d (.sl 2 (.ba .aa l) false)/\∀c∈l,0<=c.At/\c.At<18446744073709551616:=by
 unfold Fit at h
 obtain⟨es,rfl,hl,h⟩:=h
 obtain⟨l,rfl,hu⟩:=Zlz h
 exact⟨l,gd.Pa (k:=.aa) rfl,hu⟩
