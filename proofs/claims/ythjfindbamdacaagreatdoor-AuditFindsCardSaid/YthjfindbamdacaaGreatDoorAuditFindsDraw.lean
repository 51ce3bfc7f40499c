import Derived.Test.YthjfindbamdacaaGreatDoorAuditFindsFt
open List renaming drop_eq_nil_of_le->aA,drop_eq_getElem_cons->aB,foldl_cons->aD,getD->aK,getElem?_eq_none->aM
open Array renaming getD_eq_getD_getElem?->aF,foldl_toList->aH,getElem?_eq_getElem->aJ,getD->aP,getElem?_setIfInBounds_ne->aQ
open Option renaming getD_some->aG,bind_some->aL,map_some->aR
open Bool renaming or_eq_true->aI,false_eq_true->aN,not_eq_true'->aS
open Nat renaming le_refl->aO,zero_le->aT
set_option linter.all false
namespace Go.GD
open Go
structure Chain(P:Program)(G:List bc)(N M:Nat)(ops:Array Oper)(s:Nat->St)(ks:Nat->List Nat)(val:Nat->D):Prop where
 op:∀(i:Nat) (o:Oper),ops[i]?=some o->nz P G M ops o (s i).env (s i).rows (ks i) (val i) (s (i+1)).rows
 env:∀(i:Nat) (o:Oper) (t:Nat),ops[i]?=some o->look (s (i+1)).env t=if o.dst=some t then val i else look (Q9 (ks i) (s i).env) t
 dst:∀(i:Nat) (o:Oper) (t:Nat),ops[i]?=some o->o.dst=some t->t<N
theorem Zls{P:Program}{T:fq}(hT:jy P T){G:List bc}(hG:jW P G){N M:Nat}{ops:Array Oper}{K:St->Prop}:∀(l:List Oper) (k:Nat) (st:St),ops.toList.drop k=l->Qc T G N M ops l st K->
 ∃ (s:Nat->St) (ks:Nat->List Nat) (val:Nat->D),s k=st/\K (s (k+l.length))/\(∀(i:Nat) (o:Oper),k<=i->ops[i]?=some o->nz P G M ops o (s i).env (s i).rows (ks i) (val i) (s (i+1)).rows)/\
  (∀(i:Nat) (o:Oper) (t:Nat),k<=i->ops[i]?=some o->look (s (i+1)).env t=if o.dst=some t then val i else look (Q9 (ks i) (s i).env) t)/\(∀(i:Nat) (o:Oper) (t:Nat),k<=i->ops[i]?=some o->o.dst=some t->t<N)
 |[],k,st,hk,h=>by
  have hlen:ops.size<=k:=by
   have:=congrArg List.length hk
   simp at this;omega
  have no:∀(i:Nat) (o:Oper),k<=i->ops[i]?=some o->False:=λi o hi ho=>by
   have:=(Array.getElem?_eq_some_iff.1 ho).1;omega
  exact⟨λ_=>st,λ_=>[],λ_=>.dead,rfl,h,λi o hi ho=>(no i o hi ho).elim,λi o t hi ho=>(no i o hi ho).elim,λi o t hi ho=>(no i o hi ho).elim⟩
 |o ::l,k,st,hk,h=>by
  have cf:k<ops.toList.length:=by
   by_cases cf:k<ops.toList.length
   ·exact cf
   ·rw[aA (by omega)]at hk;cases hk
  rw[aB cf]at hk
  have ho:ops[k]?=some o:=by
   have:=(List.cons.inj hk).1
   rw[<-this]
   simp at cf
   simp[cf]
  obtain⟨kk,v,R',iJ,h1,h2,h3,h4⟩:=V1 hT hG h
  obtain⟨s,ks,val,g1,g2,g3,g4,g5⟩:=Zls hT hG l (k+1) _ (List.cons.inj hk).2 h4
  refine⟨λi=>if i=k then st else s i,λi=>if i=k then kk else ks i,λi=>if i=k then v else val i,by simp,?_,λi p hi hp=>?_,λi p t hi hp=>?_,λi p t hi hp hd=>?_⟩
  ·simp only[List.length_cons]
   rw[if_neg (by omega),show k+(l.length+1)=k+1+l.length by omega]
   exact g2
  ·by_cases e:i=k
   ·subst e
    rw[ho]at hp;cases hp
    simp only[if_true,show¬i+1=i by omega,if_false,g1]
    exact h3
   ·simp only[if_neg e,if_neg (show¬i+1=k by omega)]
    exact g3 i p (by omega) hp
  ·by_cases e:i=k
   ·subst e
    rw[ho]at hp;cases hp
    simp only[if_true,show¬i+1=i by omega,if_false,g1]
    cases tM:o.dst with
    |none=>simp[r9,h1]
    |some u=>simp only[r9,Bg,Option.some.injEq,h1]
   ·simp only[if_neg e,if_neg (show¬i+1=k by omega)]
    exact g4 i p t (by omega) hp
  ·by_cases e:i=k
   ·subst e
    rw[ho]at hp;cases hp
    exact h2 t hd
   ·exact g5 i p t (by omega) hp hd
theorem Z2q(ops:Array Oper): ∀(l:List Oper) (acc:Array Nat),(∀k,acc.size<=k-> ∀i,(acc.getD k 0).testBit i=false)->
    ∀(listed:Nat->Prop),(∀(j:Nat) (hj:j<acc.size) (i:Nat),(∀o,ops[j]? =some o-> ∀e∈o.after,Region.binds .any e=true->listed e.on)->(acc.getD j 0).testBit i=true->listed i)->
    (∀j,listed j-> ∀o,ops[j]? =some o-> ∀e∈o.after,Region.binds .any e=true->listed e.on)->ops.toList.drop acc.size=l->
    ∀ (j i:Nat),(∀o,ops[j]? =some o-> ∀e∈o.after,Region.binds .any e=true->listed e.on)->
      ((l.foldl (λ(acc:Array Nat) o=>acc.push (o.after.foldl (λs e=>if Region.binds .any e then s|||2^e.on|||acc.getD e.on 0 else s) 0)) acc).getD j 0).testBit i=true->listed i
  | [],acc,hz,listed,EE,gm,hl,j,i,hj,h=>by
    simp only[List.foldl_nil]at h
    by_cases cf:j<acc.size
    . exact EE j cf i hj h
    . rw[hz j (by omega) i]at h;cases h
  | o :: l, acc,hz,listed,EE,gm,hl,j,i,hj,h=>by
    simp only[aD]at h
    have cf:acc.size<ops.toList.length:=by
      by_cases cf:acc.size<ops.toList.length
      . exact cf
      . rw[aA (by omega)]at hl;cases hl
    rw[aB cf]at hl
    have ho:ops[acc.size]? =some o:=by
      rw[<-(List.cons.inj hl).1]
      simp at cf
      simp [cf]
    refine Z2q ops l _ (λk hk i=> ?_) listed (λk hk i EF hb=> ?_) gm (by simpa using(List.cons.inj hl).2) j i hj h
    . simp at hk
      rw[aF,Array.getElem?_eq_none (by simp;omega)]
      simp
    . simp only [Array.size_push]at hk
      by_cases e:k=acc.size
      . subst e
        rw[aF,Array.getElem?_push_size,aG]at hb
        have iP:=EF o ho
        rw[<-aH]at hb
        have fold: ∀(es:List Edge) (s0:Nat),(∀e∈es,Region.binds .any e=true->listed e.on)->(s0.testBit i=true->listed i)->(es.foldl (λs e=>if Region.binds .any e then s|||2^e.on|||acc.getD e.on 0 else s) s0).testBit i=true->listed i:=by
          intro es
          induction es with
          |nil=>intro s0 _ h0 hb;exact h0 hb
          | cons e es ih=>
            intro s0 he h0 hb
            simp only[aD]at hb
            refine ih _ (λe' Ac=>he e' (by simp [Ac])) (λhs=> ?_) hb
            split at hs
            . rename_i MY
              have hle:=he e (by simp) MY
              simp only[Nat.testBit_or,aI,Nat.testBit_two_pow,decide_eq_true_eq]at hs
              rcases hs with(hs|hs)|hs
              . exact h0 hs
              . rw[<-hs];exact hle
              . by_cases cf:e.on<acc.size
                . exact EE e.on cf i (gm e.on hle) hs
                . rw[hz e.on (by omega) i]at hs;cases hs
            . exact h0 hs
        exact fold o.after.toList 0 (λe he hb=>iP e (by simpa using he) hb) (by simp) hb
      . have mO:k<acc.size:=by omega
        rw[aF,Array.getElem?_push_lt mO,<-aJ mO,<-aF]at hb
        exact EE k mO i EF hb
theorem Sk{ops:Array Oper}{listed:Nat->Prop}(gm:∀j,listed j->∀o,ops[j]?=some o->∀e∈o.after,Region.binds .any e=true->listed e.on){j i:Nat}
 (hj:∀o,ops[j]?=some o->∀e∈o.after,Region.binds .any e=true->listed e.on) (h:((Region.before ops).getD j 0).testBit i=true):listed i:=by
 refine Z2q ops ops.toList #[] (λk _ i=>by simp) listed (λj hj=>by simp at hj) gm (by simp) j i hj ?_
 have:Region.before ops=ops.toList.foldl (λ(acc:Array Nat) o=>acc.push (o.after.foldl (λs e=>if Region.binds .any e then s|||2^e.on|||acc.getD e.on 0 else s) 0)) #[]:=by
  unfold Region.before
  rw[<-aH]
 rw[<-this];exact h
theorem MZ{G:List bc}{ops:Array Oper}(h:Ia G ops=true){i j:Nat}{x y:Oper}(V2:i<j)(hx:ops[i]?=some x)(hy:ops[j]?=some y):
 (x.apart ops y=true\/((Region.before ops).getD j 0).testBit i=true)/\((lu G x.op=true/\lu G y.op=true)\/((Region.before ops).getD j 0).testBit i=true):=by
 have hj:=(Array.getElem?_eq_some_iff.1 hy).1
 have h1:=List.all_eq_true.1 h j (List.mem_range.2 hj)
 simp only[aE]at h1
 have h2:=List.all_eq_true.1 h1.2 i (List.mem_range.2 V2)
 unfold BD at h2
 simp only[hx,hy,aE,aI]at h2
 exact h2
theorem Zjb{G:List bc}{ops:Array Oper}(h:Ia G ops=true){j:Nat}{y:Oper}(hy:ops[j]?=some y):∀e∈y.after,Region.binds .any e=true->e.on<j:=by
 have hj:=(Array.getElem?_eq_some_iff.1 hy).1
 have h1:=List.all_eq_true.1 h j (List.mem_range.2 hj)
 simp only[aE,hy]at h1
 intro e he hb
 have:=Array.all_eq_true'.1 h1.1 e he
 simp only[hb,Bool.not_true,Bool.false_or]at this
 exact lE this
theorem V3{G:List bc}{o:Op}(h:lu G o=true):sd G o=false:=by
 simpa[lu]using h
theorem V4{P:Program}{G:List bc}{M:Nat}{ops:Array Oper}{o:Oper}{env:List (Nat×D)}{R:Rows}{ks:List Nat}{v:D}{R':Rows}(h:nz P G M ops o env R ks v R')(hq:lu G o.op=true):ks=[]/\∃news,R'=R++news:=by
 have one:pH P G M o (bq env) R ks v R'->ks=[]/\∃news,R'=R++news:=λh=>by
  unfold pH at h
  rw[V3 hq]at h
  exact⟨h.1,h.2.1⟩
 unfold nz at h
 split at h
 ·exact one h
 ·obtain⟨g,_,⟨b,_,h⟩|⟨_,h⟩⟩:=h
  ·split at h
   ·exact one h
   ·exact⟨h.1,[],by rw[h.2.2];simp⟩
  ·exact⟨h.1,[],by rw[h.2.2];simp⟩
def jd(ops:Array Oper)(s:Nat->St)(val:Nat->D)(dm:Nat->Bool)(c:Nat):Nat->Nat->D
 |0,t=>look (s c).env t
 |n+1,t=>if dm (c+n)=true/\(ops[c+n]?).bind (·.dst)=some t then val (c+n)else jd ops s val dm c n t
def kE(s:Nat->St)(dm:Nat->Bool)(c:Nat):Nat->Nat->Option Row
 |0,r=>(s c).rows.getD r none
 |n+1,r=>if dm (c+n)=true/\(s (c+n)).rows.length<=r/\r<(s (c+n+1)).rows.length then(s (c+n+1)).rows.getD r none else kE s dm c n r
theorem Chain.EG{P:Program}{G:List bc}{N M:Nat}{ops:Array Oper}{s:Nat->St}{ks:Nat->List Nat}{val:Nat->D}(hc:Chain P G N M ops s ks val){i:Nat}{o:Oper}(ho:ops[i]?=some o)(hq:lu G o.op=true)(t:Nat):look (s (i+1)).env t=if o.dst=some t then val i else look (s i).env t:=by
 rw[hc.env i o t ho,(V4 (hc.op i o ho) hq).1,oZ]
theorem Ko.toW{c c':Ctx}{w w':World}{R R':Rows}(hs:Ko c w R R' c' w'):lN c w c' w':=
 ⟨hs.mem,hs.bz,hs.fr.mono (λb _ hf=>hf.elim),hs.fu,λr ak nA hv=>by
  by_cases h1:R.length<=r/\r<R'.length
  ·exact .inr (hs.new r h1.1 h1.2 hv)
  ·rw[hs.rows,if_neg h1]at nA
   obtain⟨h2,h3⟩:=hs.jz r (by omega)
   exact .inl ⟨⟨_,nA⟩,λe=>hv (h3.2 e),h2⟩⟩
theorem Qmt{R news:Rows}{r:Nat}(h:r<R.length):(R++news).getD r none=R.getD r none:=by
 simp[aK,List.getElem?_append_left h]
section
variable {P:Program} {G:List bc} {N M:Nat} {ops:Array Oper} {s:Nat->St} {ks:Nat->List Nat} {val:Nat->D} (hc:Chain P G N M ops s ks val) (mG:Ia G ops=true)
include hc
theorem Z2a{c d:Nat}(hq:∀(i:Nat) (o:Oper),c<=i->i<d->ops[i]?=some o->lu G o.op=true)(hd:d<=ops.size){k:Nat}(hk:c<=k):∀{l:Nat},k<=l->l<=d->∃news,(s l).rows=(s k).rows++news:=by
 intro l hl
 induction l with
 |zero=>intro _;exact⟨[],by rw[show k=0 by omega];simp⟩
 |succ l ih=>
  intro DC
  by_cases e:k=l+1
  ·exact⟨[],by rw[e];simp⟩
  ·obtain⟨n1,h1⟩:=ih (by omega) (by omega)
   have ho:ops[l]?=some ops[l]:=aJ (by omega)
   obtain⟨_,n2,h2⟩:=V4 (hc.op l _ ho) (hq l _ (by omega) (by omega) ho)
   exact⟨n1++n2,by rw[h2,h1,List.append_assoc]⟩
theorem Kp{c d:Nat}(hq:∀(i:Nat) (o:Oper),c<=i->i<d->ops[i]?=some o->lu G o.op=true)(hd:d<=ops.size){k l:Nat}(hk:c<=k)(hl:k<=l)(DC:l<=d):(s k).rows.length<=(s l).rows.length:=by
 obtain⟨n,h⟩:=Z2a hc hq hd hk hl DC
 rw[h];simp
theorem Kq{c d:Nat}(hq:∀(i:Nat) (o:Oper),c<=i->i<d->ops[i]?=some o->lu G o.op=true)(hd:d<=ops.size){k l:Nat}(hk:c<=k)(hl:k<=l)(DC:l<=d){r:Nat}(hr:r<(s k).rows.length):(s l).rows.getD r none=(s k).rows.getD r none:=by
 obtain⟨n,h⟩:=Z2a hc hq hd hk hl DC
 rw[h,Qmt hr]
theorem Sl{dm:Nat->Bool}{c d:Nat}(hq:∀(i:Nat) (o:Oper),c<=i->i<d->ops[i]?=some o->lu G o.op=true)(hd:d<=ops.size):∀{n:Nat},c+n<=d->(∀i,i<n->dm (c+i)=true)->∀t,jd ops s val dm c n t=look (s (c+n)).env t
 |0,_,_,t=>rfl
 |n+1,hn,hl,t=>by
  have ho:ops[c+n]?=some ops[c+n]:=aJ (by omega)
  simp only[jd,hl n (by omega),true_and,ho,aL]
  rw[show c+(n+1)=(c+n)+1 by omega,hc.EG ho (hq _ _ (by omega) (by omega) ho) t]
  split
  ·rfl
  ·exact Sl hq hd (by omega) (λi hi=>hl i (by omega)) t
theorem Sm{dm:Nat->Bool}{c d:Nat}(hq:∀(i:Nat) (o:Oper),c<=i->i<d->ops[i]?=some o->lu G o.op=true)(hd:d<=ops.size):∀{n:Nat},c+n<=d->(∀i,i<n->dm (c+i)=true)->∀r,kE s dm c n r=(s (c+n)).rows.getD r none
 |0,_,_,r=>rfl
 |n + 1,hn,hl,r=>by
  simp only[kE,hl n (by omega),true_and]
  rw[show c+(n+1)=c+n+1 by omega]
  split
  ·rfl
  ·rename_i h1
   rw[Sm hq hd (by omega) (λi hi=>hl i (by omega)) r]
   by_cases h2:r<(s (c+n)).rows.length
   ·exact(Kq hc hq hd (by omega) (by omega) (by omega) h2).symm
   ·have hlen:=Kp hc hq hd (show c<=c+n by omega) (show c+n<=c+n+1 by omega) (by omega)
    simp only[aK]
    rw[aM (by omega),aM (by omega)]
end
theorem Sn{ops:Array Oper}{s:Nat->St}{val:Nat->D}{dm:Nat->Bool}{c:Nat}:∀{n:Nat},(∀i,i<n->dm (c+i)=false)->∀t,jd ops s val dm c n t=look (s c).env t
 |0,_,t=>rfl
 |n+1,hl,t=>by
  simp only[jd,hl n (by omega),aN,false_and,if_false]
  exact Sn (λi hi=>hl i (by omega)) t
theorem So{s:Nat->St}{dm:Nat->Bool}{c:Nat}:∀{n:Nat},(∀i,i<n->dm (c+i)=false)->∀r,kE s dm c n r=(s c).rows.getD r none
 |0,_,r=>rfl
 |n+1,hl,r=>by
  simp only[kE,hl n (by omega),aN,false_and,if_false]
  exact So (λi hi=>hl i (by omega)) r
theorem Sp{ops:Array Oper}{s:Nat->St}{val:Nat->D}{dm gk:Nat->Bool}{c:Nat}:∀{n:Nat},(∀i,i<n->gk (c+i)=dm (c+i))->∀t,jd ops s val gk c n t=jd ops s val dm c n t
 |0,_,t=>rfl
 |n+1,hl,t=>by simp only[jd,hl n (by omega),Sp (n:=n) (λi hi=>hl i (by omega)) t]
theorem Sq{s:Nat->St}{dm gk:Nat->Bool}{c:Nat}:∀{n:Nat},(∀i,i<n->gk (c+i)=dm (c+i))->∀r,kE s gk c n r=kE s dm c n r
 |0,_,r=>rfl
 |n+1,hl,r=>by simp only[kE,hl n (by omega),Sq (n:=n) (λi hi=>hl i (by omega)) r]
theorem V5{ops:Array Oper}{s:Nat->St}{val:Nat->D}{dm gk:Nat->Bool}{c i:Nat}{o:Oper}(ho:ops[i]? =some o)(pI:c<=i)(h0:dm i=false)(h1:gk i=true)(h2: ∀k,k≠i->gk k=dm k){t:Nat}
    (se: ∀k o',i<k->dm k=true->ops[k]? =some o'->o'.dst=some t->o.dst=some t->False): ∀{n:Nat},i<c+n->jd ops s val gk c n t=if o.dst=some t then val i else jd ops s val dm c n t
  |0,h=>by omega
  | n + 1,h=>by
    by_cases e:i=c+n
    . simp only[jd,<-e,h0,h1,ho,aL,true_and,aN,false_and,if_false]
      split
      . rfl
      . exact Sp (λk hk=>h2 _ (by omega)) t
    . simp only[jd,h2 (c+n) (λe'=>e e'.symm)]
      rw[V5 ho pI h0 h1 h2 se (n:=n) (by omega)]
      by_cases g:dm (c+n)=true/\(ops[c+n]?).bind (·.dst)=some t
      . by_cases hd:o.dst=some t
        . exfalso
          obtain⟨g1,g2⟩:=g
          cases hk:ops[c+n]? with
          |none=>rw[hk]at g2;cases g2
          | some o'=>
            rw[hk]at g2
            exact se (c+n) o' (by omega) g1 hk g2 hd
        . rw[if_pos g,if_neg hd,if_pos g]
      . rw[if_neg g,if_neg g]
theorem Z4{s:Nat->St}{dm gk:Nat->Bool}{c i:Nat}(pI:c<=i)(h0:dm i=false)(h1:gk i=true)(h2:∀k,k≠i->gk k=dm k){r d:Nat}
 (hlen:∀k,i<k->k<d->(s (i+1)).rows.length<=(s k).rows.length):∀{n:Nat},i<c+n->c+n<=d->kE s gk c n r=if(s i).rows.length<=r/\r<(s (i+1)).rows.length then(s (i+1)).rows.getD r none else kE s dm c n r
 |0,h,_=>by omega
 |n +1,h,hn=>by
  by_cases e:i=c+n
  ·simp only[kE,<-e,h0,h1,true_and,aN,false_and,if_false]
   split
   ·rfl
   ·exact Sq (λk hk=>h2 _ (by omega)) r
  ·simp only[kE,h2 (c+n) (λe'=>e e'.symm)]
   rw[Z4 pI h0 h1 h2 hlen (n:=n) (by omega) (by omega)]
   have:=hlen (c+n) (by omega) (by omega)
   by_cases g:dm (c+n)=true/\(s (c+n)).rows.length<=r/\r<(s (c+n+1)).rows.length
   ·rw[if_pos g,if_neg (by omega),if_pos g]
   ·rw[if_neg g,if_neg g]
theorem Gc{ops:Array Oper}{x y:Oper}(h:x.apart ops y=true){t:Nat}:(x.dst=some t->y.dst≠some t)/\(x.dst=some t->t∉y.looksAt ops)/\(y.dst=some t->t∉x.looksAt ops):=by
 obtain⟨h1,h2,h3⟩:=Oper.apart_spec h
 exact⟨λe=>h2 t e,λe=>h1 t e,λe=>h3 t e⟩
structure Inv(P:Program)(G:List bc)(N M:Nat)(ops:Array Oper)(s:Nat->St)(val:Nat->D)(c0:Ctx)(w0:World)(dm:Nat->Bool)(a:Act)(w:World)(c d:Nat):Prop where
 cd:c<=d
 dn:d<=ops.size
 pre:∀i,i<c->dm i=true
 post:∀i,d<=i->dm i=false
 quiet:∀(i:Nat) (o:Oper),c<=i->i<d->ops[i]?=some o->lu G o.op=true
 wr:∀(o:Oper),ops[d]?=some o->lu G o.op=false
 closed:∀j,dm j=true->∀(o:Oper),ops[j]?=some o->∀e∈o.after,Region.binds .any e=true->dm e.on=true
 size:N<=a.tmps.size
 defers:lX w0.heap.size w a.defers
 gh:c0.base<=w0.heap.size
 gw:∀r row,c0.R r=some row->r<M
 ctx:∃cx,Mem cx w/\(∀r,cx.R r=kE s dm c (d-c) r)/\(∀t,Rep cx w (jd ops s val dm c (d-c) t) (a.tmps.getD t undef))/\Ad c0 w0 cx w
theorem M0(G:List bc)(ops:Array Oper):∀(n c:Nat),ops.size-c=n->c<=ops.size->∃d,c<=d/\d<=ops.size/\(∀(i:Nat) (o:Oper),c<=i->i<d->ops[i]?=some o->lu G o.op=true)/\(∀(o:Oper),ops[d]?=some o->lu G o.op=false)
 |0,c,h,hc=>⟨c,aO _,hc,λi o h1 h2=>by omega,λo ho=>by
  have:=(Array.getElem?_eq_some_iff.1 ho).1;omega⟩
 |n +1,c,h,hc=>by
  have ho:ops[c]?=some ops[c]:=aJ (by omega)
  cases hq:lu G ops[c].op with
  |false=>exact⟨c,aO _,hc,λi o h1 h2=>by omega,λo h'=>by rw[ho]at h';cases h';exact hq⟩
  |true=>
   obtain⟨d,h1,h2,h3,h4⟩:=M0 G ops n (c+1) (by omega) (by omega)
   refine⟨d,by omega,h2,λi o hi hid h'=>?_,h4⟩
   by_cases e:i=c
   ·subst e;rw[ho]at h';cases h';exact hq
   ·exact h3 i o (by omega) hid h'
section
variable {P:Program} {G:List bc} {N M:Nat} {ops:Array Oper} {s:Nat->St} {ks:Nat->List Nat} {val:Nat->D} (hc:Chain P G N M ops s ks val) (mG:Ia G ops=true)
include hc mG
theorem xF{c0:Ctx}{w0:World}{dm gk:Nat->Bool}{a:Act}{w:World}{c d i:Nat}{o:Oper}(hI:Inv P G N M ops s val c0 w0 dm a w c d)(ho:ops[i]?=some o)(h0:dm i=false)(h1:gk i=true)(h2:∀k,k≠i->gk k=dm k)
 (M1:∀e∈o.after,Region.binds .any e=true->dm e.on=true) {K:Act->World->Prop} {Q:Exit->Act->World->Prop} (hK:∀a' w' c' d',Inv P G N M ops s val c0 w0 gk a' w' c' d'->K a' w'):wpOp P ops Q i K a w:=by
 have cf:=(Array.getElem?_eq_some_iff.1 ho).1
 have pX:∀k,((Region.before ops).getD i 0).testBit k=true->dm k=true:=λk hk=>
  Sk (listed:=λk=>dm k=true) hI.closed (λo' je=>by rw[ho]at je;cases je;exact M1) hk
 have nX:∀j k,dm j=true->((Region.before ops).getD j 0).testBit k=true->dm k=true:=λj k hj hk=>
  Sk (listed:=λk=>dm k=true) hI.closed (hI.closed j hj) hk
 have pI:c<=i:=by
  by_cases h:c<=i
  ·exact h
  ·rw[hI.pre i (by omega)]at h0;cases h0
 have tN:∀j,gk j=true->∀(o:Oper),ops[j]?=some o->∀e∈o.after,Region.binds .any e=true->gk e.on=true:=by
  intro j hj o' je e he hb
  have gr:dm e.on=true:=by
   by_cases e':j=i
   ·subst e';rw[ho]at je;cases je;exact M1 e he hb
   ·rw[h2 j e']at hj;exact hI.closed j hj o' je e he hb
  rw[h2 e.on (λe'=>by rw[e',h0]at gr;cases gr)]
  exact gr
 have hid:i<=d:=by
  by_cases h:i<=d
  ·exact h
  ·exfalso
   have BE:ops[d]?=some ops[d]:=aJ (by omega)
   have:=(MZ mG (show d<i by omega) BE ho).2
   rcases this with⟨hq,_⟩|hb
   ·rw[hI.wr _ BE]at hq;cases hq
   ·have:=pX d hb
    rw[hI.post d (aO _)]at this;cases this
 obtain⟨cx,hm,hR,hE,nY⟩:=hI.ctx
 by_cases e:i=d
 ·
  subst e
  have iP:∀k,k<i-c->dm (c+k)=true:=λk hk=>by
   have dw:ops[c+k]?=some ops[c+k]:=aJ (by omega)
   have:=(MZ mG (show c+k<i by omega) dw ho).2
   rcases this with⟨_,hq⟩|hb
   ·rw[hI.wr _ ho]at hq;cases hq
   ·exact pX _ hb
  have hs:fv N M c0 w0 cx w (s i) a:=by
   refine⟨hm,λr=>?_,λt=>?_,hI.size,hI.defers,hI.gh,hI.gw,nY⟩
   ·rw[hR,Sm hc hI.quiet hI.dn (by omega) iP]
    rw[show c+(i-c)=i by omega]
   ·have:=hE t
    rw[Sl hc hI.quiet hI.dn (by omega) iP]at this
    rwa [show c+(i-c)=i by omega]at this
  refine vV ho hs (λ_=>rfl) (λt=>hc.dst i o t ho) (hc.op i o ho) λa' w' c' ji=>?_
  obtain⟨d',g1,g2,g3,g4⟩:=M0 G ops _ (i+1) rfl (by omega)
  have se:∀k,k<d'-(i+1)->gk (i+1+k)=false:=λk hk=>by
   rw[h2 _ (by omega)];exact hI.post _ (by omega)
  refine hK a' w' (i+1) d' ⟨g1,g2,λk hk=>?_,λk hk=>?_,g3,g4,tN,ji.size,ji.defers,ji.gh,ji.gw,c',ji.mem,λr=>?_,λt=>?_,ji.reach⟩
  ·by_cases e':k=i
   ·rw[e'];exact h1
   ·rw[h2 k e']
    by_cases V6:k<c
    ·exact hI.pre k V6
    ·have:=iP (k-c) (by omega)
     rwa [show c+(k-c)=k by omega]at this
  ·rw[h2 k (by omega)];exact hI.post k (by omega)
  ·rw[So se];exact ji.rows r
  ·rw[Sn se,hc.env i o t ho]
   have:=ji.env t
   cases hd:o.dst with
   |none=>simpa[r9,hd]using this
   |some u=>simpa only[r9,hd,Bg,Option.some.injEq]using this
 ·
  have Ib:i<d:=by omega
  have hq:=hI.quiet i o pI Ib ho
  have M3:=V3 hq
  have Ic :∀t∈o.looksAt ops,∀n,c+n<=d->jd ops s val dm c n t=if c+n<=i then look (s (c+n)).env t else look (s i).env t:=by
   intro t ht n
   induction n with
   |zero=>intro _;simp only[jd,Nat.add_zero];rw[if_pos pI]
   |succ n ih=>
    intro hn
    have Ie:=hI.dn
    obtain⟨ok,dw⟩:∃ok,ops[c+n]?=some ok:=⟨_,aJ (show c+n<ops.size by omega)⟩
    have ih:=ih (by omega)
    simp only[jd,dw,aL]
    by_cases hk:c+n<i
    ·have hA:c+(n+1)<=i:=by omega
     have Sr:c+n<=i:=by omega
     rw[if_pos hA,show c+(n+1)=c+n+1 by omega,hc.EG dw (hI.quiet _ _ (by omega) (by omega) dw) t]
     rw[if_pos Sr]at ih
     by_cases hd:ok.dst=some t
     ·have hl:dm (c+n)=true:=by
       rcases(MZ mG hk dw ho).1 with tO|hb
       ·exact((Gc tO).2.1 hd ht).elim
       ·exact pX _ hb
      rw[if_pos ⟨hl,hd⟩,if_pos hd]
     ·rw[if_neg (λg=>hd g.2),if_neg hd,ih]
    ·have Ig:¬(dm (c+n)=true/\ok.dst=some t):=by
      rintro⟨g1,g2⟩
      by_cases e':c+n=i
      ·rw[e',h0]at g1;cases g1
      ·have nZ:i<c+n:=by omega
       rcases(MZ mG nZ ho dw).1 with tO|hb
       ·exact(Gc tO).2.2 g2 ht
       ·have:=nX _ _ g1 hb
        rw[h0]at this;cases this
     have hA:¬c+(n+1)<=i:=by omega
     rw[if_neg Ig,ih,if_neg hA]
     split
     ·rw[show c+n=i by omega]
     ·rfl
  have M4:∀t∈o.looksAt ops,Rep cx w (look (s i).env t) (a.tmps.getD t undef):=λt ht=>by
   have:=hE t
   rw[Ic t ht (d-c) (by omega),if_neg (by omega)]at this
   exact this
  have hlen:∀k l,c<=k->k<=l->l<=d->(s k).rows.length<=(s l).rows.length:=λk l h1 h2 h3=>Kp hc hI.quiet hI.dn h1 h2 h3
  have iV:∀k l,c<=k->k<=l->l<=d->∀r,r<(s k).rows.length->(s l).rows.getD r none=(s k).rows.getD r none:=λk l h1 h2 h3 r hr=>Kq hc hI.quiet hI.dn h1 h2 h3 hr
  have BF:∀n,c+n<=d->∀r,r<(s i).rows.length->∀row,kE s dm c n r=some row->(s i).rows.getD r none=some row:=by
   intro n
   induction n with
   |zero=>
    intro _ r hr row h
    simp only[kE]at h
    by_cases V7:r<(s c).rows.length
    ·rw[iV c i (aO _) pI (by omega) r V7];exact h
    ·simp only[aK,aM (show(s c).rows.length<=r by omega)]at h;cases h
   |succ n ih=>
    intro hn r hr row h
    simp only[kE]at h
    split at h
    ·rename_i g
     obtain⟨g1,g2,g3⟩:=g
     have V8:c+n<i:=by
      by_cases mO:c+n<i
      ·exact mO
      ·by_cases e':c+n=i
       ·rw[e',h0]at g1;cases g1
       ·have:=hlen i (c+n) pI (by omega) (by omega);omega
     rw[iV (c+n+1) i (by omega) (by omega) (by omega) r g3];exact h
    ·exact ih (by omega) r hr row h
  have BG:∀n,c+n<=d->∀r,(s i).rows.length<=r->r<(s (i+1)).rows.length->kE s dm c n r=none:=by
   intro n
   induction n with
   |zero=>
    intro _ r h1 h2
    have:=hlen c i (aO _) pI (by omega)
    simp only[kE,aK,aM (show(s c).rows.length<=r by omega),Option.getD_none]
   |succ n ih=>
    intro hn r h1 h2
    simp only[kE]
    rw[if_neg]
    ·exact ih (by omega) r h1 h2
    ·rintro⟨g1,g2,g3⟩
     by_cases e':c+n=i
     ·rw[e',h0]at g1;cases g1
     ·by_cases mO:c+n<i
      ·have:=hlen (c+n+1) i (by omega) (by omega) (by omega);omega
      ·have:=hlen (i+1) (c+n) (by omega) (by omega) (by omega);omega
  have jj:cx.base<=w.heap.size:=by rw[nY.bz.base];exact Nat.le_trans hI.gh nY.fr.size
  have o4:mH cx (s i).rows:=λr row ak g1 g2=>by
   have hr:r<(s i).rows.length:=by
    by_cases h:r<(s i).rows.length
    ·exact h
    ·simp only[aK,aM (show(s i).rows.length<=r by omega)]at g2;cases g2
   rw[hR]at g1
   have:=BF (d-c) (by omega) r hr row g1
   rw[this]at g2;exact Option.some.inj g2
  have fin:∀v w' c',Ko cx w (s i).rows (s (i+1)).rows c' w'->Rep c' w' (val i) v->K (a.put o.dst v) w':=by
   intro v w' c' hn hv
   refine hK _ w' c d ⟨hI.cd,hI.dn,λk hk=>by rw[h2 k (by omega)];exact hI.pre k hk,λk hk=>by rw[h2 k (by omega)];exact hI.post k hk,hI.quiet,hI.wr,tN,?_,?_,hI.gh,hI.gw,c',hn.mem,λr=>?_,λt=>?_,nY.step (ks:=[]) (λk hk=>by simp[bw]at hk) hI.gw hn.toW.toK⟩
   ·cases hd:o.dst<;>simp[Act.put]<;>exact hI.size
   ·first|exact lX.put (hI.defers.step hm hn.fr)|exact lX.put (hI.defers.step hm hn.toW.fr)
   ·rw[hn.rows,hR,Z4 pI h0 h1 h2 (d:=d) (λk oa rI=>hlen (i+1) k (by omega) (by omega) (by omega)) (by omega) (by omega)]
   ·have hl:∀k o',i<k->dm k=true->ops[k]?=some o'->o'.dst=some t->o.dst=some t->False:=by
     intro k o' nZ hk dw V9 Wa
     rcases(MZ mG nZ ho dw).1 with tO|hb
     ·exact(Gc tO).1 Wa V9
     ·have:=nX _ _ hk hb
      rw[h0]at this;cases this
    rw[V5 ho pI h0 h1 h2 hl (by omega)]
    have hold:=Ae hn.bz (hE t)
    cases hd:o.dst with
    |none=>simpa[Act.put,hd]using hold
    |some u=>
     have hu:=hc.dst i o u ho hd
     simp only[Act.put,Option.some.injEq]
     by_cases e':u=t
     ·subst e'
      have mO:u<a.tmps.size:=Nat.lt_of_lt_of_le hu hI.size
      rw[if_pos rfl]
      simpa[aP,mO]using hv
     ·rw[if_neg e']
      simpa[aQ e']using hold
  have skip:val i=.dt []->(s (i+1)).rows=(s i).rows->K (a.put o.dst undef) w:=λe1 e2=>
   fin undef w cx ⟨hm,jk.refl _ _,Fr.refl _ _,λb hb=>.inl hb,λr=>by rw[e2,if_neg (by omega)],λ_ _=>⟨rfl,Iff.rfl⟩,λr g1 g2=>by rw[e2]at g2;omega⟩ (by rw[e1];exact Ss _ _)
  have run:pH P G M o (bq (s i).env) (s i).rows (ks i) (val i) (s (i+1)).rows->o.nj P a w K Q:=λhX=>by
   unfold pH at hX
   rw[M3]at hX
   refine hX.2.2 cx w a hm jj o4 (λr g1 g2=>by rw[hR];exact BG (d-c) (by omega) r g1 g2) (λx hx=>?_) K Q fin
   cases x with
   |tmp t=>
    refine M4 t ?_
    unfold Oper.looksAt
    exact List.mem_append_left _ (List.mem_filterMap.2 ⟨.tmp t,by simpa using hx,rfl⟩)
   |const v=>
    simp only[bq,Act.eval]
    cases hv:Gd v with
    |none=>trivial
    |some d=>exact M5 hv cx w
   |global g=>trivial
   |func f=>exact Kr f
  have hG:=hc.op i o ho
  unfold wpOp
  simp only[ho]
  unfold nz at hG
  cases hg:o.guard with
  |none=>
   simp only[hg]at hG
   have hw:Region.wanted o (yielded ops a.tmps)=true:=by simp[Region.wanted,hg]
   rw[if_pos hw]
   exact run hG
  |some jw=>
   obtain⟨j,want⟩:=jw
   simp only[hg]at hG
   obtain⟨g,g2,hG⟩:=hG
   have hr:=M4 g (by
    unfold Oper.looksAt
    refine List.mem_append_right _ ?_
    simp only[hg,g2];simp)
   rcases hG with⟨b,g3,g4⟩|⟨g3,_,e1,e2⟩
   rotate_left
   ·rw[g3]at hr
    rw[if_neg (by rw[Su (o:=o) hg g2 hr];simp)]
    exact skip e1 e2
   rw[g3]at hr
   have hw:=Sv (o:=o) hg g2 hr
   by_cases e':b=want
   ·rw[if_pos e']at g4
    rw[if_pos (by rw[hw];simpa using e')]
    exact run g4
   ·rw[if_neg e']at g4
    rw[if_neg (by rw[hw];simpa using e')]
    exact skip g4.2.1 g4.2.2
end
def mP(dm:Nat->Bool):Nat->Nat
 |0=>0
 |n+1=>(if dm n=true then 0 else 1)+mP dm n
theorem Wb(dm:Nat->Bool):∀n,mP dm n<=n
 |0=>aO _
 |n+1=>by have:=Wb dm n;simp only[mP];split<;>omega
theorem Wc{dm:Nat->Bool}:∀{n:Nat},mP dm n=0->∀i,i<n->dm i=true
 |n +1,h,i,hi=>by
  simp only[mP]at h
  by_cases e:i=n
  ·subst e
   cases hl:dm i with
   |true=>rfl
   |false=>rw[hl]at h;simp at h
  ·exact Wc (n:=n) (by omega) i (by omega)
theorem Zn7{dm gk:Nat->Bool}:∀{n:Nat},(∀i,i<n->gk i=dm i)->mP gk n=mP dm n
 |0,_=>rfl
 |n+1,h=>by simp only[mP,h n (by omega),Zn7 (n:=n) (λi hi=>h i (by omega))]
theorem Wd{dm gk:Nat->Bool}{i:Nat}(h0:dm i=false)(h1:gk i=true)(h2:∀k,k≠i->gk k=dm k):∀{n:Nat},i<n->mP gk n+1=mP dm n
 |n +1,h=>by
  simp only[mP]
  by_cases e:i=n
  ·subst e
   rw[Zn7 (dm:=dm) (gk:=gk) (λk hk=>h2 k (by omega)),h0,h1]
   simp;omega
  ·rw[h2 n (λe'=>e e'.symm)]
   have:=Wd h0 h1 h2 (n:=n) (by omega)
   omega
set_option linter.unusedSectionVars false
section
variable {P:Program} {G:List bc} {N M:Nat} {ops:Array Oper} {s:Nat->St} {ks:Nat->List Nat} {val:Nat->D} (hc:Chain P G N M ops s ks val) (mG:Ia G ops=true)
include hc mG
theorem Znc{c0:Ctx}{w0:World}{dm:Nat->Bool}{a:Act}{w:World}{c d:Nat}(hI:Inv P G N M ops s val c0 w0 dm a w c d)(iP:∀i,i<ops.size->dm i=true):∃cx,fv N M c0 w0 cx w (s ops.size) a:=by
 obtain⟨cx,hm,hR,hE,nY⟩:=hI.ctx
 have hd:d=ops.size:=by
  by_cases h:d<ops.size
  ·have:=iP d h
   rw[hI.post d (aO _)]at this;cases this
  ·have:=hI.dn;omega
 subst hd
 have We:=hI.cd
 have hl:∀k,k<ops.size-c->dm (c+k)=true:=λk hk=>iP _ (by omega)
 refine⟨cx,hm,λr=>?_,λt=>?_,hI.size,hI.defers,hI.gh,hI.gw,nY⟩
 ·rw[hR,Sm hc hI.quiet hI.dn (by omega) hl,show c+(ops.size-c)=ops.size by omega]
 ·have:=hE t
  rw[Sl hc hI.quiet hI.dn (by omega) hl]at this
  rwa [show c+(ops.size-c)=ops.size by omega]at this
theorem zF{c0:Ctx}{w0:World}{Q:Exit->Act->World->Prop}(hQ:∀c w a,fv N M c0 w0 c w (s ops.size) a->Q .normal a w):∀(fuel:Nat) (listed:Array Bool) (a:Act) (w:World) (c d:Nat),listed.size=ops.size->mP (λi=>listed.getD i false) ops.size<=fuel->
 Inv P G N M ops s val c0 w0 (λi=>listed.getD i false) a w c d->Ih P .any ops Q fuel listed a w:=by
 intro fuel
 have Bh:∀(listed:Array Bool) (i:Nat),listed.size=ops.size->(i∈Region.ready .any ops listed↔ ∃o,ops[i]?=some o/\listed.getD i false=false/\∀e∈o.after,Region.binds .any e=true->listed.getD e.on false=true):=by
  intro listed i fw
  unfold Region.ready
  rw[List.mem_filter,List.mem_range]
  constructor
  ·rintro⟨h1,h2⟩
   have ho:ops[i]?=some ops[i]:=aJ h1
   simp only[ho,aR,aG,aE,aS]at h2
   refine⟨_,ho,?_,λe he hb=>?_⟩
   ·have hl:i<listed.size:=by omega
    have:=h2.1
    simpa[aP,hl]using this
   ·have:=Array.all_eq_true'.1 h2.2 e he
    simpa[hb]using this
  ·rintro⟨o,ho,h1,h2⟩
   have cf:=(Array.getElem?_eq_some_iff.1 ho).1
   refine⟨cf,?_⟩
   simp only[ho,aR,aG,aE,aS]
   have hl:i<listed.size:=by omega
   refine⟨by simpa[aP,hl]using h1,Array.all_eq_true'.2 λe he=>?_⟩
   cases hb:Region.binds .any e with
   |false=>rfl
   |true=>simpa[hb]using h2 e he hb
 have kd:∀(listed:Array Bool),listed.size=ops.size->Region.ready .any ops listed=[]->∀i,i<ops.size->listed.getD i false=true:=by
  intro listed fw he i
  induction i using Nat.strongRecOn with
  |_ i ih=>
   intro hi
   cases hl:listed.getD i false with
   |true=>rfl
   |false=>
    exfalso
    have ho:ops[i]?=some ops[i]:=aJ hi
    have:i∈Region.ready .any ops listed:=(Bh listed i fw).2 ⟨_,ho,hl,λe Ac hb=>by
     have:=Zjb mG ho e Ac hb
     exact ih e.on this (by omega)⟩
    rw[he]at this;cases this
 induction fuel with
 |zero=>
  intro listed a w c d fw BH hI
  have iP:=Wc (dm:=λi=>listed.getD i false) (Nat.le_zero.1 BH)
  refine⟨?_,?_⟩
  ·rw[List.eq_nil_iff_forall_not_mem]
   intro i hi
   obtain⟨o,ho,h1,_⟩:=(Bh listed i fw).1 hi
   have:=iP i (Array.getElem?_eq_some_iff.1 ho).1
   rw[h1]at this;cases this
  ·obtain⟨cx,hs⟩:=Znc hc mG hI iP
   exact hQ cx w a hs
 |succ fuel ih=>
  intro listed a w c d fw BH hI
  refine⟨λhe=>?_,λi hi=>?_⟩
  ·obtain⟨cx,hs⟩:=Znc hc mG hI (kd listed fw he)
   exact hQ cx w a hs
  ·obtain⟨o,ho,h1,h2⟩:=(Bh listed i fw).1 hi
   have cf:=(Array.getElem?_eq_some_iff.1 ho).1
   have sf:(listed.setIfInBounds i true).getD i false=true:=by
    have hl:i<listed.size:=by omega
    simp[aP,hl]
   have sg:∀k,k≠i->(listed.setIfInBounds i true).getD k false=listed.getD k false:=λk hk=>by
    rw[aF,aQ (Ne.symm hk),<-aF]
   refine xF hc mG (gk:=λk=>(listed.setIfInBounds i true).getD k false) hI ho h1 sf sg h2 λa' w' c' d' Wf=>?_
   refine ih _ a' w' c' d' (by simpa using fw) ?_ Wf
   have:=Wd (dm:=λk=>listed.getD k false) (gk:=λk=>(listed.setIfInBounds i true).getD k false) h1 sf sg cf
   omega
end
theorem fv.drew{N M:Nat}{c0:Ctx}{w0:World}{c:Ctx}{w:World}{st:St}{a:Act}(h:fv N M c0 w0 c w st a):fv N M c0 w0 c w.drew st a:=
 ⟨Ks h.mem,h.rows,λt=>Ae (M6 c w) (h.env t),h.size,h.defers,h.gh,h.gw,h.reach.step (ks:=[]) (λk hk=>by simp[bw]at hk) h.gw
  (lN.toK ⟨Ks h.mem,M6 c w,⟨rfl,rfl,rfl,aO _,λ_ _ _=>rfl⟩,λb hb=>.inl hb,λr row hr v=>.inl ⟨⟨row,hr⟩,v,rfl⟩⟩)⟩
theorem za{P:Program}(hm:P.follows .mixedOrders=true):∀(ro:Option Nat) (T:fq) (G:List bc) (N M id:Nat) (ops:Array Oper) (st:St) (Q:Ex->St->Prop),jy P T->jW P G->Ia G ops=true->(Qc T G N M ops ops.toList st λst=>Q .normal st)->tP ro P N M (.region id ops true) st Q:=by
 intro ro T G N M id ops st Q hT hG hd h c0 w0 c w a hs
 obtain⟨s,ks,val,h1,h2,h3,h4,h5⟩:=Zls hT hG ops.toList 0 st (by simp) h
 have hc:Chain P G N M ops s ks val:=⟨λi o ho=>h3 i o (aT _) ho,λi o t ho=>h4 i o t (aT _) ho,λi o t ho=>h5 i o t (aT _) ho⟩
 have hs:=hs.drew
 refine Qvp hm ?_
 obtain⟨d,g1,g2,g3,g4⟩:=M0 G ops _ 0 rfl (aT _)
 have hz:∀i,(Array.replicate ops.size false).getD i false=false:=λi=>by
  by_cases h:i<ops.size
  ·simp[aP,h]
  ·simp[aP,h]
 refine zF hc hd (Q:=λe a' w'=>∃ex jt c',mQ e=some ex/\Q ex jt/\fv N M c0 w0 c' w' jt a') (λc w a ji=>⟨_,_,c,rfl,by simpa using h2,ji⟩) ops.size _ a _ 0 d (by simp) (Wb _ _)
  ⟨g1,g2,λi hi=>by omega,λi _=>hz i,g3,g4,λj hj=>by simp[hz]at hj,hs.size,hs.defers,hs.gh,hs.gw,c,hs.mem,λr=>?_,λt=>?_,hs.reach⟩
 ·rw[So (λi _=>hz _),h1];exact hs.rows r
 ·rw[Sn (λi _=>hz _),h1];exact hs.env t
