import Derived.Test.YtaemmjbkndlkeaaGreatMigrateQuietFt
open List renaming drop_eq_nil_of_le->aN,drop_eq_getElem_cons->aO,foldl_cons->aP,getD->aV,getElem?_eq_none->aJ
open Array renaming getD_eq_getD_getElem?->aQ,foldl_toList->aS,getElem?_eq_getElem->aU,getD->aY,getElem?_setIfInBounds_ne->aZ
open Option renaming getD_some->aR,bind_some->aW,map_some->bA
open Bool renaming or_eq_true->aT,false_eq_true->aA,not_eq_true'->bB
open Nat renaming le_refl->aX,zero_le->bC
set_option linter.all false
namespace Go.GD
open Go
variable {G:List ba}{M N c d i j k l r:Nat}{P:Program}{R R':Rows}{a:Act}{c0:Ctx}{dr:Nat->Bool}{o x y:Oper}{ops:Array Oper}{w w0:World}
structure Chain(P:Program)(G:List ba)(N M:Nat)(ops:Array Oper)(s:Nat->St)(ks:Nat->List Nat)(val:Nat->D):Prop where
 op:∀(i:Nat) (o:Oper),ops[i]?=some o->nu P G M ops o (s i).env (s i).rows (ks i) (val i) (s (i+1)).rows
 env:∀(i:Nat) (o:Oper) (t:Nat),ops[i]?=some o->look (s (i+1)).env t=if o.dst=some t then val i else look (rT (ks i) (s i).env) t
 dst:∀(i:Nat) (o:Oper) (t:Nat),ops[i]?=some o->o.dst=some t->t<N
theorem Zpk{P:Program}{T:iB}(hT:ji P T){G:List ba}(hG:jz P G){N M:Nat}{ops:Array Oper}{K:St->Prop}:∀(l:List Oper) (k:Nat) (st:St),ops.toList.drop k=l->lR T G N M ops l st K->
 ∃ (s:Nat->St) (ks:Nat->List Nat) (val:Nat->D),s k=st/\K (s (k+l.length))/\(∀(i:Nat) (o:Oper),k<=i->ops[i]?=some o->nu P G M ops o (s i).env (s i).rows (ks i) (val i) (s (i+1)).rows)/\
  (∀(i:Nat) (o:Oper) (t:Nat),k<=i->ops[i]?=some o->look (s (i+1)).env t=if o.dst=some t then val i else look (rT (ks i) (s i).env) t)/\(∀(i:Nat) (o:Oper) (t:Nat),k<=i->ops[i]?=some o->o.dst=some t->t<N)
 |[],k,st,hk,h=>by
  have hlen:ops.size<=k:=by
   have:=congrArg List.length hk
   simp at this;omega
  have no:∀(i:Nat) (o:Oper),k<=i->ops[i]?=some o->False:=λi o hi ho=>by
   have:=(Array.getElem?_eq_some_iff.1 ho).1;omega
  exact⟨λ_=>st,λ_=>[],λ_=>.dead,rfl,h,λi o hi ho=>(no i o hi ho).elim,λi o t hi ho=>(no i o hi ho).elim,λi o t hi ho=>(no i o hi ho).elim⟩
 |o ::l,k,st,hk,h=>by
  have bd:k<ops.toList.length:=by
   by_cases bd:k<ops.toList.length
   ·exact bd
   ·rw[aN (by omega)]at hk;cases hk
  rw[aO bd]at hk
  have ho:ops[k]?=some o:=by
   have:=(List.cons.inj hk).1
   rw[<-this]
   simp at bd
   simp[bd]
  obtain⟨kk,v,R',iG,h1,h2,h3,h4⟩:=VJ hT hG h
  obtain⟨s,ks,val,g1,g2,g3,g4,g5⟩:=Zpk hT hG l (k+1) _ (List.cons.inj hk).2 h4
  refine⟨λi=>if i=k then st else s i,λi=>if i=k then kk else ks i,λi=>if i=k then v else val i,by simp,?_,λi p hi hp=>?_,λi p t hi hp=>?_,λi p t hi hp hd=>?_⟩
  ·simp only[List.length_cons]
   rw[if_neg (by omega),show k+(l.length+1)=k+1+l.length by omega]
   exact g2
  ·by_cases e:i=k
   ·subst e
    rw[ho]at hp;cases hp
    simp only[if_true,show¬i+1=i by omega,if_false,g1]
    exact h3
   ·simp only[if_neg e,if_neg (show¬i+1=k by omega)]
    exact g3 i p (by omega) hp
  ·by_cases e:i=k
   ·subst e
    rw[ho]at hp;cases hp
    simp only[if_true,show¬i+1=i by omega,if_false,g1]
    cases tK:o.dst with
    |none=>simp[rU,h1]
    |some u=>simp only[rU,AJ,Option.some.injEq,h1]
   ·simp only[if_neg e,if_neg (show¬i+1=k by omega)]
    exact g4 i p t (by omega) hp
  ·by_cases e:i=k
   ·subst e
    rw[ho]at hp;cases hp
    exact h2 t hd
   ·exact g5 i p t (by omega) hp hd
theorem Z4c(ops:Array Oper): ∀(l:List Oper) (acc:Array Nat),(∀k,acc.size<=k-> ∀i,(acc.getD k 0).testBit i=false)->
    ∀(ar:Nat->Prop),(∀(j:Nat) (hj:j<acc.size) (i:Nat),(∀o,ops[j]? =some o-> ∀e∈o.after,Region.binds .any e=true->ar e.on)->(acc.getD j 0).testBit i=true->ar i)->
    (∀j,ar j-> ∀o,ops[j]? =some o-> ∀e∈o.after,Region.binds .any e=true->ar e.on)->ops.toList.drop acc.size=l->
    ∀ (j i:Nat),(∀o,ops[j]? =some o-> ∀e∈o.after,Region.binds .any e=true->ar e.on)->
      ((l.foldl (λ(acc:Array Nat) o=>acc.push (o.after.foldl (λs e=>if Region.binds .any e then s|||2^e.on|||acc.getD e.on 0 else s) 0)) acc).getD j 0).testBit i=true->ar i
  | [],acc,hz,ar,Ea,jn,hl,j,i,hj,h=>by
    simp only[List.foldl_nil]at h
    by_cases bd:j<acc.size
    . exact Ea j bd i hj h
    . rw[hz j (by omega) i]at h;cases h
  | o :: l, acc,hz,ar,Ea,jn,hl,j,i,hj,h=>by
    simp only[aP]at h
    have bd:acc.size<ops.toList.length:=by
      by_cases bd:acc.size<ops.toList.length
      . exact bd
      . rw[aN (by omega)]at hl;cases hl
    rw[aO bd]at hl
    have ho:ops[acc.size]? =some o:=by
      rw[<-(List.cons.inj hl).1]
      simp at bd
      simp [bd]
    refine Z4c ops l _ (λk hk i=> ?_) ar (λk hk i uW hb=> ?_) jn (by simpa using(List.cons.inj hl).2) j i hj h
    . simp at hk
      rw[aQ,Array.getElem?_eq_none (by simp;omega)]
      simp
    . simp only [Array.size_push]at hk
      by_cases e:k=acc.size
      . subst e
        rw[aQ,Array.getElem?_push_size,aR]at hb
        have iS:=uW o ho
        rw[<-aS]at hb
        have fold: ∀(es:List Edge) (s0:Nat),(∀e∈es,Region.binds .any e=true->ar e.on)->(s0.testBit i=true->ar i)->(es.foldl (λs e=>if Region.binds .any e then s|||2^e.on|||acc.getD e.on 0 else s) s0).testBit i=true->ar i:=by
          intro es
          induction es with
          |nil=>intro s0 _ h0 hb;exact h0 hb
          | cons e es ih=>
            intro s0 he h0 hb
            simp only[aP]at hb
            refine ih _ (λe' wV=>he e' (by simp [wV])) (λhs=> ?_) hb
            split at hs
            . rename_i ML
              have hle:=he e (by simp) ML
              simp only[Nat.testBit_or,aT,Nat.testBit_two_pow,decide_eq_true_eq]at hs
              rcases hs with(hs|hs)|hs
              . exact h0 hs
              . rw[<-hs];exact hle
              . by_cases bd:e.on<acc.size
                . exact Ea e.on bd i (jn e.on hle) hs
                . rw[hz e.on (by omega) i]at hs;cases hs
            . exact h0 hs
        exact fold o.after.toList 0 (λe he hb=>iS e (by simpa using he) hb) (by simp) hb
      . have mJ:k<acc.size:=by omega
        rw[aQ,Array.getElem?_push_lt mJ,<-aU mJ,<-aQ]at hb
        exact Ea k mJ i uW hb
theorem Sa{ar:Nat->Prop}(jn:∀j,ar j->∀o,ops[j]?=some o->∀e∈o.after,Region.binds .any e=true->ar e.on)
 (hj:∀o,ops[j]?=some o->∀e∈o.after,Region.binds .any e=true->ar e.on) (h:((Region.before ops).getD j 0).testBit i=true):ar i:=by
 refine Z4c ops ops.toList #[] (λk _ i=>by simp) ar (λj hj=>by simp at hj) jn (by simp) j i hj ?_
 have:Region.before ops=ops.toList.foldl (λ(acc:Array Nat) o=>acc.push (o.after.foldl (λs e=>if Region.binds .any e then s|||2^e.on|||acc.getD e.on 0 else s) 0)) #[]:=by
  unfold Region.before
  rw[<-aS]
 rw[<-this];exact h
theorem MM(h:HG G ops=true)(JU:i<j)(hx:ops[i]?=some x)(hy:ops[j]?=some y):
 (x.apart ops y=true\/((Region.before ops).getD j 0).testBit i=true)/\((kX G x.op=true/\kX G y.op=true)\/((Region.before ops).getD j 0).testBit i=true):=by
 have hj:=(Array.getElem?_eq_some_iff.1 hy).1
 have h1:=List.all_eq_true.1 h j (List.mem_range.2 hj)
 simp only[aE]at h1
 have h2:=List.all_eq_true.1 h1.2 i (List.mem_range.2 JU)
 unfold Bq at h2
 simp only[hx,hy,aE,aT]at h2
 exact h2
theorem Zob(h:HG G ops=true)(hy:ops[j]?=some y):∀e∈y.after,Region.binds .any e=true->e.on<j:=by
 have hj:=(Array.getElem?_eq_some_iff.1 hy).1
 have h1:=List.all_eq_true.1 h j (List.mem_range.2 hj)
 simp only[aE,hy]at h1
 intro e he hb
 have:=Array.all_eq_true'.1 h1.1 e he
 simp only[hb,Bool.not_true,Bool.false_or]at this
 exact lE this
theorem VK{o:Op}(h:kX G o=true):rV G o=false:=by
 simpa[kX]using h
theorem VL{env:List (Nat×D)}{ks:List Nat}{v:D}(h:nu P G M ops o env R ks v R')(hq:kX G o.op=true):ks=[]/\∃news,R'=R++news:=by
 have one:pB P G M o (cq env) R ks v R'->ks=[]/\∃news,R'=R++news:=λh=>by
  unfold pB at h
  rw[VK hq]at h
  exact⟨h.1,h.2.1⟩
 unfold nu at h
 split at h
 ·exact one h
 ·obtain⟨g,_,⟨b,_,h⟩|⟨_,h⟩⟩:=h
  ·split at h
   ·exact one h
   ·exact⟨h.1,[],by rw[h.2.2];simp⟩
  ·exact⟨h.1,[],by rw[h.2.2];simp⟩
def jd(ops:Array Oper)(s:Nat->St)(val:Nat->D)(dr:Nat->Bool)(c:Nat):Nat->Nat->D
 |0,t=>look (s c).env t
 |n+1,t=>if dr (c+n)=true/\(ops[c+n]?).bind (·.dst)=some t then val (c+n)else jd ops s val dr c n t
def kq(s:Nat->St)(dr:Nat->Bool)(c:Nat):Nat->Nat->Option Row
 |0,r=>(s c).rows.getD r none
 |n+1,r=>if dr (c+n)=true/\(s (c+n)).rows.length<=r/\r<(s (c+n+1)).rows.length then(s (c+n+1)).rows.getD r none else kq s dr c n r
theorem Chain.Eb{s:Nat->St}{ks:Nat->List Nat}{val:Nat->D}(hc:Chain P G N M ops s ks val)(ho:ops[i]?=some o)(hq:kX G o.op=true)(t:Nat):look (s (i+1)).env t=if o.dst=some t then val i else look (s i).env t:=by
 rw[hc.env i o t ho,(VL (hc.op i o ho) hq).1,oD]
theorem JW.toW{c c':Ctx}{w w':World}(hs:JW c w R R' c' w'):lJ c w c' w':=
 ⟨hs.mem,hs.cz,hs.fr.mono (λb _ hf=>hf.elim),hs.fh,λr ao pC hv=>by
  by_cases h1:R.length<=r/\r<R'.length
  ·exact .inr (hs.new r h1.1 h1.2 hv)
  ·rw[hs.rows,if_neg h1]at pC
   obtain⟨h2,h3⟩:=hs.jC r (by omega)
   exact .inl ⟨⟨_,pC⟩,λe=>hv (h3.2 e),h2⟩⟩
theorem Qpr{R news:Rows}(h:r<R.length):(R++news).getD r none=R.getD r none:=by
 simp[aV,List.getElem?_append_left h]
section
variable {P:Program} {G:List ba} {N M:Nat} {ops:Array Oper} {s:Nat->St} {ks:Nat->List Nat} {val:Nat->D} (hc:Chain P G N M ops s ks val) (lT:HG G ops=true)
include hc
theorem Z73(hq:∀(i:Nat) (o:Oper),c<=i->i<d->ops[i]?=some o->kX G o.op=true)(hd:d<=ops.size)(hk:c<=k):∀{l:Nat},k<=l->l<=d->∃news,(s l).rows=(s k).rows++news:=by
 intro l hl
 induction l with
 |zero=>intro _;exact⟨[],by rw[show k=0 by omega];simp⟩
 |succ l ih=>
  intro Dq
  by_cases e:k=l+1
  ·exact⟨[],by rw[e];simp⟩
  ·obtain⟨n1,h1⟩:=ih (by omega) (by omega)
   have ho:ops[l]?=some ops[l]:=aU (by omega)
   obtain⟨_,n2,h2⟩:=VL (hc.op l _ ho) (hq l _ (by omega) (by omega) ho)
   exact⟨n1++n2,by rw[h2,h1,List.append_assoc]⟩
theorem JX(hq:∀(i:Nat) (o:Oper),c<=i->i<d->ops[i]?=some o->kX G o.op=true)(hd:d<=ops.size)(hk:c<=k)(hl:k<=l)(Dq:l<=d):(s k).rows.length<=(s l).rows.length:=by
 obtain⟨n,h⟩:=Z73 hc hq hd hk hl Dq
 rw[h];simp
theorem JY(hq:∀(i:Nat) (o:Oper),c<=i->i<d->ops[i]?=some o->kX G o.op=true)(hd:d<=ops.size)(hk:c<=k)(hl:k<=l)(Dq:l<=d)(hr:r<(s k).rows.length):(s l).rows.getD r none=(s k).rows.getD r none:=by
 obtain⟨n,h⟩:=Z73 hc hq hd hk hl Dq
 rw[h,Qpr hr]
theorem Sb{dr:Nat->Bool}{c d:Nat}(hq:∀(i:Nat) (o:Oper),c<=i->i<d->ops[i]?=some o->kX G o.op=true)(hd:d<=ops.size):∀{n:Nat},c+n<=d->(∀i,i<n->dr (c+i)=true)->∀t,jd ops s val dr c n t=look (s (c+n)).env t
 |0,_,_,t=>rfl
 |n+1,hn,hl,t=>by
  have ho:ops[c+n]?=some ops[c+n]:=aU (by omega)
  simp only[jd,hl n (by omega),true_and,ho,aW]
  rw[show c+(n+1)=(c+n)+1 by omega,hc.Eb ho (hq _ _ (by omega) (by omega) ho) t]
  split
  ·rfl
  ·exact Sb hq hd (by omega) (λi hi=>hl i (by omega)) t
theorem Sc{dr:Nat->Bool}{c d:Nat}(hq:∀(i:Nat) (o:Oper),c<=i->i<d->ops[i]?=some o->kX G o.op=true)(hd:d<=ops.size):∀{n:Nat},c+n<=d->(∀i,i<n->dr (c+i)=true)->∀r,kq s dr c n r=(s (c+n)).rows.getD r none
 |0,_,_,r=>rfl
 |n + 1,hn,hl,r=>by
  simp only[kq,hl n (by omega),true_and]
  rw[show c+(n+1)=c+n+1 by omega]
  split
  ·rfl
  ·rename_i h1
   rw[Sc hq hd (by omega) (λi hi=>hl i (by omega)) r]
   by_cases h2:r<(s (c+n)).rows.length
   ·exact(JY hc hq hd (by omega) (by omega) (by omega) h2).symm
   ·have hlen:=JX hc hq hd (show c<=c+n by omega) (show c+n<=c+n+1 by omega) (by omega)
    simp only[aV]
    rw[aJ (by omega),aJ (by omega)]
end
theorem Sd{ops:Array Oper}{s:Nat->St}{val:Nat->D}{dr:Nat->Bool}{c:Nat}:∀{n:Nat},(∀i,i<n->dr (c+i)=false)->∀t,jd ops s val dr c n t=look (s c).env t
 |0,_,t=>rfl
 |n+1,hl,t=>by
  simp only[jd,hl n (by omega),aA,false_and,if_false]
  exact Sd (λi hi=>hl i (by omega)) t
theorem Se{s:Nat->St}{dr:Nat->Bool}{c:Nat}:∀{n:Nat},(∀i,i<n->dr (c+i)=false)->∀r,kq s dr c n r=(s c).rows.getD r none
 |0,_,r=>rfl
 |n+1,hl,r=>by
  simp only[kq,hl n (by omega),aA,false_and,if_false]
  exact Se (λi hi=>hl i (by omega)) r
theorem Sf{ops:Array Oper}{s:Nat->St}{val:Nat->D}{dr gd:Nat->Bool}{c:Nat}:∀{n:Nat},(∀i,i<n->gd (c+i)=dr (c+i))->∀t,jd ops s val gd c n t=jd ops s val dr c n t
 |0,_,t=>rfl
 |n+1,hl,t=>by simp only[jd,hl n (by omega),Sf (n:=n) (λi hi=>hl i (by omega)) t]
theorem Sg{s:Nat->St}{dr gd:Nat->Bool}{c:Nat}:∀{n:Nat},(∀i,i<n->gd (c+i)=dr (c+i))->∀r,kq s gd c n r=kq s dr c n r
 |0,_,r=>rfl
 |n+1,hl,r=>by simp only[kq,hl n (by omega),Sg (n:=n) (λi hi=>hl i (by omega)) r]
theorem VM{ops:Array Oper}{s:Nat->St}{val:Nat->D}{dr gd:Nat->Bool}{c i:Nat}{o:Oper}(ho:ops[i]? =some o)(pD:c<=i)(h0:dr i=false)(h1:gd i=true)(h2: ∀k,k≠i->gd k=dr k){t:Nat}
    (rW: ∀k o',i<k->dr k=true->ops[k]? =some o'->o'.dst=some t->o.dst=some t->False): ∀{n:Nat},i<c+n->jd ops s val gd c n t=if o.dst=some t then val i else jd ops s val dr c n t
  |0,h=>by omega
  | n + 1,h=>by
    by_cases e:i=c+n
    . simp only[jd,<-e,h0,h1,ho,aW,true_and,aA,false_and,if_false]
      split
      . rfl
      . exact Sf (λk hk=>h2 _ (by omega)) t
    . simp only[jd,h2 (c+n) (λe'=>e e'.symm)]
      rw[VM ho pD h0 h1 h2 rW (n:=n) (by omega)]
      by_cases g:dr (c+n)=true/\(ops[c+n]?).bind (·.dst)=some t
      . by_cases hd:o.dst=some t
        . exfalso
          obtain⟨g1,g2⟩:=g
          cases hk:ops[c+n]? with
          |none=>rw[hk]at g2;cases g2
          | some o'=>
            rw[hk]at g2
            exact rW (c+n) o' (by omega) g1 hk g2 hd
        . rw[if_pos g,if_neg hd,if_pos g]
      . rw[if_neg g,if_neg g]
theorem VN{s:Nat->St}{dr gd:Nat->Bool}{c i:Nat}(pD:c<=i)(h0:dr i=false)(h1:gd i=true)(h2:∀k,k≠i->gd k=dr k){r d:Nat}
 (hlen:∀k,i<k->k<d->(s (i+1)).rows.length<=(s k).rows.length):∀{n:Nat},i<c+n->c+n<=d->kq s gd c n r=if(s i).rows.length<=r/\r<(s (i+1)).rows.length then(s (i+1)).rows.getD r none else kq s dr c n r
 |0,h,_=>by omega
 |n +1,h,hn=>by
  by_cases e:i=c+n
  ·simp only[kq,<-e,h0,h1,true_and,aA,false_and,if_false]
   split
   ·rfl
   ·exact Sg (λk hk=>h2 _ (by omega)) r
  ·simp only[kq,h2 (c+n) (λe'=>e e'.symm)]
   rw[VN pD h0 h1 h2 hlen (n:=n) (by omega) (by omega)]
   have:=hlen (c+n) (by omega) (by omega)
   by_cases g:dr (c+n)=true/\(s (c+n)).rows.length<=r/\r<(s (c+n+1)).rows.length
   ·rw[if_pos g,if_neg (by omega),if_pos g]
   ·rw[if_neg g,if_neg g]
theorem FN(h:x.apart ops y=true){t:Nat}:(x.dst=some t->y.dst≠some t)/\(x.dst=some t->t∉y.looksAt ops)/\(y.dst=some t->t∉x.looksAt ops):=by
 obtain⟨h1,h2,h3⟩:=Oper.apart_spec h
 exact⟨λe=>h2 t e,λe=>h1 t e,λe=>h3 t e⟩
structure Inv(P:Program)(G:List ba)(N M:Nat)(ops:Array Oper)(s:Nat->St)(val:Nat->D)(c0:Ctx)(w0:World)(dr:Nat->Bool)(a:Act)(w:World)(c d:Nat):Prop where
 cd:c<=d
 dn:d<=ops.size
 pre:∀i,i<c->dr i=true
 post:∀i,d<=i->dr i=false
 quiet:∀(i:Nat) (o:Oper),c<=i->i<d->ops[i]?=some o->kX G o.op=true
 wr:∀(o:Oper),ops[d]?=some o->kX G o.op=false
 closed:∀j,dr j=true->∀(o:Oper),ops[j]?=some o->∀e∈o.after,Region.binds .any e=true->dr e.on=true
 size:N<=a.tmps.size
 defers:lU w0.heap.size w a.defers
 fy:c0.base<=w0.heap.size
 gr:∀r row,c0.R r=some row->r<M
 ctx:∃cx,Mem cx w/\(∀r,cx.R r=kq s dr c (d-c) r)/\(∀t,Rep cx w (jd ops s val dr c (d-c) t) (a.tmps.getD t undef))/\wW c0 w0 cx w
theorem Ql(G:List ba)(ops:Array Oper):∀(n c:Nat),ops.size-c=n->c<=ops.size->∃d,c<=d/\d<=ops.size/\(∀(i:Nat) (o:Oper),c<=i->i<d->ops[i]?=some o->kX G o.op=true)/\(∀(o:Oper),ops[d]?=some o->kX G o.op=false)
 |0,c,h,hc=>⟨c,aX _,hc,λi o h1 h2=>by omega,λo ho=>by
  have:=(Array.getElem?_eq_some_iff.1 ho).1;omega⟩
 |n +1,c,h,hc=>by
  have ho:ops[c]?=some ops[c]:=aU (by omega)
  cases hq:kX G ops[c].op with
  |false=>exact⟨c,aX _,hc,λi o h1 h2=>by omega,λo h'=>by rw[ho]at h';cases h';exact hq⟩
  |true=>
   obtain⟨d,h1,h2,h3,h4⟩:=Ql G ops n (c+1) (by omega) (by omega)
   refine⟨d,by omega,h2,λi o hi hid h'=>?_,h4⟩
   by_cases e:i=c
   ·subst e;rw[ho]at h';cases h';exact hq
   ·exact h3 i o (by omega) hid h'
section
variable {P:Program} {G:List ba} {N M:Nat} {ops:Array Oper} {s:Nat->St} {ks:Nat->List Nat} {val:Nat->D} (hc:Chain P G N M ops s ks val) (lT:HG G ops=true)
include hc lT
theorem xF{dr gd:Nat->Bool}(hI:Inv P G N M ops s val c0 w0 dr a w c d)(ho:ops[i]?=some o)(h0:dr i=false)(h1:gd i=true)(h2:∀k,k≠i->gd k=dr k)
 (MN:∀e∈o.after,Region.binds .any e=true->dr e.on=true) {K:Act->World->Prop} {Q:Exit->Act->World->Prop} (hK:∀a' w' c' d',Inv P G N M ops s val c0 w0 gd a' w' c' d'->K a' w'):wpOp P ops Q i K a w:=by
 have bd:=(Array.getElem?_eq_some_iff.1 ho).1
 have pU:∀k,((Region.before ops).getD i 0).testBit k=true->dr k=true:=λk hk=>
  Sa (ar:=λk=>dr k=true) hI.closed (λo' jo=>by rw[ho]at jo;cases jo;exact MN) hk
 have nW:∀j k,dr j=true->((Region.before ops).getD j 0).testBit k=true->dr k=true:=λj k hj hk=>
  Sa (ar:=λk=>dr k=true) hI.closed (hI.closed j hj) hk
 have pD:c<=i:=by
  by_cases h:c<=i
  ·exact h
  ·rw[hI.pre i (by omega)]at h0;cases h0
 have tL:∀j,gd j=true->∀(o:Oper),ops[j]?=some o->∀e∈o.after,Region.binds .any e=true->gd e.on=true:=by
  intro j hj o' jo e he hb
  have gq:dr e.on=true:=by
   by_cases e':j=i
   ·subst e';rw[ho]at jo;cases jo;exact MN e he hb
   ·rw[h2 j e']at hj;exact hI.closed j hj o' jo e he hb
  rw[h2 e.on (λe'=>by rw[e',h0]at gq;cases gq)]
  exact gq
 have hid:i<=d:=by
  by_cases h:i<=d
  ·exact h
  ·exfalso
   have Br:ops[d]?=some ops[d]:=aU (by omega)
   have:=(MM lT (show d<i by omega) Br ho).2
   rcases this with⟨hq,_⟩|hb
   ·rw[hI.wr _ Br]at hq;cases hq
   ·have:=pU d hb
    rw[hI.post d (aX _)]at this;cases this
 obtain⟨cx,hm,hR,hE,nX⟩:=hI.ctx
 by_cases e:i=d
 ·
  subst e
  have iS:∀k,k<i-c->dr (c+k)=true:=λk hk=>by
   have dx:ops[c+k]?=some ops[c+k]:=aU (by omega)
   have:=(MM lT (show c+k<i by omega) dx ho).2
   rcases this with⟨_,hq⟩|hb
   ·rw[hI.wr _ ho]at hq;cases hq
   ·exact pU _ hb
  have hs:fi N M c0 w0 cx w (s i) a:=by
   refine⟨hm,λr=>?_,λt=>?_,hI.size,hI.defers,hI.fy,hI.gr,nX⟩
   ·rw[hR,Sc hc hI.quiet hI.dn (by omega) iS]
    rw[show c+(i-c)=i by omega]
   ·have:=hE t
    rw[Sb hc hI.quiet hI.dn (by omega) iS]at this
    rwa [show c+(i-c)=i by omega]at this
  refine qX ho hs (λ_=>rfl) (λt=>hc.dst i o t ho) (hc.op i o ho) λa' w' c' iV=>?_
  obtain⟨d',g1,g2,g3,g4⟩:=Ql G ops _ (i+1) rfl (by omega)
  have rW:∀k,k<d'-(i+1)->gd (i+1+k)=false:=λk hk=>by
   rw[h2 _ (by omega)];exact hI.post _ (by omega)
  refine hK a' w' (i+1) d' ⟨g1,g2,λk hk=>?_,λk hk=>?_,g3,g4,tL,iV.size,iV.defers,iV.fy,iV.gr,c',iV.mem,λr=>?_,λt=>?_,iV.reach⟩
  ·by_cases e':k=i
   ·rw[e'];exact h1
   ·rw[h2 k e']
    by_cases VO:k<c
    ·exact hI.pre k VO
    ·have:=iS (k-c) (by omega)
     rwa [show c+(k-c)=k by omega]at this
  ·rw[h2 k (by omega)];exact hI.post k (by omega)
  ·rw[Se rW];exact iV.rows r
  ·rw[Sd rW,hc.env i o t ho]
   have:=iV.env t
   cases hd:o.dst with
   |none=>simpa[rU,hd]using this
   |some u=>simpa only[rU,hd,AJ,Option.some.injEq]using this
 ·
  have HH:i<d:=by omega
  have hq:=hI.quiet i o pD HH ho
  have MO:=VK hq
  have HI :∀t∈o.looksAt ops,∀n,c+n<=d->jd ops s val dr c n t=if c+n<=i then look (s (c+n)).env t else look (s i).env t:=by
   intro t ht n
   induction n with
   |zero=>intro _;simp only[jd,Nat.add_zero];rw[if_pos pD]
   |succ n ih=>
    intro hn
    have HJ:=hI.dn
    obtain⟨ok,dx⟩:∃ok,ops[c+n]?=some ok:=⟨_,aU (show c+n<ops.size by omega)⟩
    have ih:=ih (by omega)
    simp only[jd,dx,aW]
    by_cases hk:c+n<i
    ·have hA:c+(n+1)<=i:=by omega
     have Sh:c+n<=i:=by omega
     rw[if_pos hA,show c+(n+1)=c+n+1 by omega,hc.Eb dx (hI.quiet _ _ (by omega) (by omega) dx) t]
     rw[if_pos Sh]at ih
     by_cases hd:ok.dst=some t
     ·have hl:dr (c+n)=true:=by
       rcases(MM lT hk dx ho).1 with tM|hb
       ·exact((FN tM).2.1 hd ht).elim
       ·exact pU _ hb
      rw[if_pos ⟨hl,hd⟩,if_pos hd]
     ·rw[if_neg (λg=>hd g.2),if_neg hd,ih]
    ·have HK:¬(dr (c+n)=true/\ok.dst=some t):=by
      rintro⟨g1,g2⟩
      by_cases e':c+n=i
      ·rw[e',h0]at g1;cases g1
      ·have nY:i<c+n:=by omega
       rcases(MM lT nY ho dx).1 with tM|hb
       ·exact(FN tM).2.2 g2 ht
       ·have:=nW _ _ g1 hb
        rw[h0]at this;cases this
     have hA:¬c+(n+1)<=i:=by omega
     rw[if_neg HK,ih,if_neg hA]
     split
     ·rw[show c+n=i by omega]
     ·rfl
  have MP:∀t∈o.looksAt ops,Rep cx w (look (s i).env t) (a.tmps.getD t undef):=λt ht=>by
   have:=hE t
   rw[HI t ht (d-c) (by omega),if_neg (by omega)]at this
   exact this
  have hlen:∀k l,c<=k->k<=l->l<=d->(s k).rows.length<=(s l).rows.length:=λk l h1 h2 h3=>JX hc hI.quiet hI.dn h1 h2 h3
  have iA:∀k l,c<=k->k<=l->l<=d->∀r,r<(s k).rows.length->(s l).rows.getD r none=(s k).rows.getD r none:=λk l h1 h2 h3 r hr=>JY hc hI.quiet hI.dn h1 h2 h3 hr
  have Bs:∀n,c+n<=d->∀r,r<(s i).rows.length->∀row,kq s dr c n r=some row->(s i).rows.getD r none=some row:=by
   intro n
   induction n with
   |zero=>
    intro _ r hr row h
    simp only[kq]at h
    by_cases VP:r<(s c).rows.length
    ·rw[iA c i (aX _) pD (by omega) r VP];exact h
    ·simp only[aV,aJ (show(s c).rows.length<=r by omega)]at h;cases h
   |succ n ih=>
    intro hn r hr row h
    simp only[kq]at h
    split at h
    ·rename_i g
     obtain⟨g1,g2,g3⟩:=g
     have VQ:c+n<i:=by
      by_cases mJ:c+n<i
      ·exact mJ
      ·by_cases e':c+n=i
       ·rw[e',h0]at g1;cases g1
       ·have:=hlen i (c+n) pD (by omega) (by omega);omega
     rw[iA (c+n+1) i (by omega) (by omega) (by omega) r g3];exact h
    ·exact ih (by omega) r hr row h
  have Bt:∀n,c+n<=d->∀r,(s i).rows.length<=r->r<(s (i+1)).rows.length->kq s dr c n r=none:=by
   intro n
   induction n with
   |zero=>
    intro _ r h1 h2
    have:=hlen c i (aX _) pD (by omega)
    simp only[kq,aV,aJ (show(s c).rows.length<=r by omega),Option.getD_none]
   |succ n ih=>
    intro hn r h1 h2
    simp only[kq]
    rw[if_neg]
    ·exact ih (by omega) r h1 h2
    ·rintro⟨g1,g2,g3⟩
     by_cases e':c+n=i
     ·rw[e',h0]at g1;cases g1
     ·by_cases mJ:c+n<i
      ·have:=hlen (c+n+1) i (by omega) (by omega) (by omega);omega
      ·have:=hlen (i+1) (c+n) (by omega) (by omega) (by omega);omega
  have jj:cx.base<=w.heap.size:=by rw[nX.cz.base];exact Nat.le_trans hI.fy nX.fr.size
  have oR:ma cx (s i).rows:=λr row ao g1 g2=>by
   have hr:r<(s i).rows.length:=by
    by_cases h:r<(s i).rows.length
    ·exact h
    ·simp only[aV,aJ (show(s i).rows.length<=r by omega)]at g2;cases g2
   rw[hR]at g1
   have:=Bs (d-c) (by omega) r hr row g1
   rw[this]at g2;exact Option.some.inj g2
  have fin:∀v w' c',JW cx w (s i).rows (s (i+1)).rows c' w'->Rep c' w' (val i) v->K (a.put o.dst v) w':=by
   intro v w' c' hn hv
   refine hK _ w' c d ⟨hI.cd,hI.dn,λk hk=>by rw[h2 k (by omega)];exact hI.pre k hk,λk hk=>by rw[h2 k (by omega)];exact hI.post k hk,hI.quiet,hI.wr,tL,?_,?_,hI.fy,hI.gr,c',hn.mem,λr=>?_,λt=>?_,nX.step (ks:=[]) (λk hk=>by simp[cw]at hk) hI.gr hn.toW.toK⟩
   ·cases hd:o.dst<;>simp[Act.put]<;>exact hI.size
   ·first|exact lU.put (hI.defers.step hm hn.fr)|exact lU.put (hI.defers.step hm hn.toW.fr)
   ·rw[hn.rows,hR,VN pD h0 h1 h2 (d:=d) (λk nb pV=>hlen (i+1) k (by omega) (by omega) (by omega)) (by omega) (by omega)]
   ·have hl:∀k o',i<k->dr k=true->ops[k]?=some o'->o'.dst=some t->o.dst=some t->False:=by
     intro k o' nY hk dx MG VR
     rcases(MM lT nY ho dx).1 with tM|hb
     ·exact(FN tM).1 VR MG
     ·have:=nW _ _ hk hb
      rw[h0]at this;cases this
    rw[VM ho pD h0 h1 h2 hl (by omega)]
    have hold:=wX hn.cz (hE t)
    cases hd:o.dst with
    |none=>simpa[Act.put,hd]using hold
    |some u=>
     have hu:=hc.dst i o u ho hd
     simp only[Act.put,Option.some.injEq]
     by_cases e':u=t
     ·subst e'
      have mJ:u<a.tmps.size:=Nat.lt_of_lt_of_le hu hI.size
      rw[if_pos rfl]
      simpa[aY,mJ]using hv
     ·rw[if_neg e']
      simpa[aZ e']using hold
  have skip:val i=.dw []->(s (i+1)).rows=(s i).rows->K (a.put o.dst undef) w:=λe1 e2=>
   fin undef w cx ⟨hm,jc.refl _ _,Fr.refl _ _,λb hb=>.inl hb,λr=>by rw[e2,if_neg (by omega)],λ_ _=>⟨rfl,Iff.rfl⟩,λr g1 g2=>by rw[e2]at g2;omega⟩ (by rw[e1];exact Si _ _)
  have run:pB P G M o (cq (s i).env) (s i).rows (ks i) (val i) (s (i+1)).rows->o.nd P a w K Q:=λhX=>by
   unfold pB at hX
   rw[MO]at hX
   refine hX.2.2 cx w a hm jj oR (λr g1 g2=>by rw[hR];exact Bt (d-c) (by omega) r g1 g2) (λx hx=>?_) K Q fin
   cases x with
   |tmp t=>
    refine MP t ?_
    unfold Oper.looksAt
    exact List.mem_append_left _ (List.mem_filterMap.2 ⟨.tmp t,by simpa using hx,rfl⟩)
   |const v=>
    simp only[cq,Act.eval]
    cases hv:FO v with
    |none=>trivial
    |some d=>exact MQ hv cx w
   |global g=>trivial
   |func f=>exact JZ f
  have hG:=hc.op i o ho
  unfold wpOp
  simp only[ho]
  unfold nu at hG
  cases hg:o.guard with
  |none=>
   simp only[hg]at hG
   have hw:Region.wanted o (yielded ops a.tmps)=true:=by simp[Region.wanted,hg]
   rw[if_pos hw]
   exact run hG
  |some jw=>
   obtain⟨j,want⟩:=jw
   simp only[hg]at hG
   obtain⟨g,g2,hG⟩:=hG
   have hr:=MP g (by
    unfold Oper.looksAt
    refine List.mem_append_right _ ?_
    simp only[hg,g2];simp)
   rcases hG with⟨b,g3,g4⟩|⟨g3,_,e1,e2⟩
   rotate_left
   ·rw[g3]at hr
    rw[if_neg (by rw[Sj (o:=o) hg g2 hr];simp)]
    exact skip e1 e2
   rw[g3]at hr
   have hw:=Sk (o:=o) hg g2 hr
   by_cases e':b=want
   ·rw[if_pos e']at g4
    rw[if_pos (by rw[hw];simpa using e')]
    exact run g4
   ·rw[if_neg e']at g4
    rw[if_neg (by rw[hw];simpa using e')]
    exact skip g4.2.1 g4.2.2
end
def mK(dr:Nat->Bool):Nat->Nat
 |0=>0
 |n+1=>(if dr n=true then 0 else 1)+mK dr n
theorem VS(dr:Nat->Bool):∀n,mK dr n<=n
 |0=>aX _
 |n+1=>by have:=VS dr n;simp only[mK];split<;>omega
theorem VT{dr:Nat->Bool}:∀{n:Nat},mK dr n=0->∀i,i<n->dr i=true
 |n +1,h,i,hi=>by
  simp only[mK]at h
  by_cases e:i=n
  ·subst e
   cases hl:dr i with
   |true=>rfl
   |false=>rw[hl]at h;simp at h
  ·exact VT (n:=n) (by omega) i (by omega)
theorem Zqk{dr gd:Nat->Bool}:∀{n:Nat},(∀i,i<n->gd i=dr i)->mK gd n=mK dr n
 |0,_=>rfl
 |n+1,h=>by simp only[mK,h n (by omega),Zqk (n:=n) (λi hi=>h i (by omega))]
theorem VU{dr gd:Nat->Bool}{i:Nat}(h0:dr i=false)(h1:gd i=true)(h2:∀k,k≠i->gd k=dr k):∀{n:Nat},i<n->mK gd n+1=mK dr n
 |n +1,h=>by
  simp only[mK]
  by_cases e:i=n
  ·subst e
   rw[Zqk (dr:=dr) (gd:=gd) (λk hk=>h2 k (by omega)),h0,h1]
   simp;omega
  ·rw[h2 n (λe'=>e e'.symm)]
   have:=VU h0 h1 h2 (n:=n) (by omega)
   omega
set_option linter.unusedSectionVars false
section
variable {P:Program} {G:List ba} {N M:Nat} {ops:Array Oper} {s:Nat->St} {ks:Nat->List Nat} {val:Nat->D} (hc:Chain P G N M ops s ks val) (lT:HG G ops=true)
include hc lT
theorem Zpi(hI:Inv P G N M ops s val c0 w0 dr a w c d)(iS:∀i,i<ops.size->dr i=true):∃cx,fi N M c0 w0 cx w (s ops.size) a:=by
 obtain⟨cx,hm,hR,hE,nX⟩:=hI.ctx
 have hd:d=ops.size:=by
  by_cases h:d<ops.size
  ·have:=iS d h
   rw[hI.post d (aX _)]at this;cases this
  ·have:=hI.dn;omega
 subst hd
 have VV:=hI.cd
 have hl:∀k,k<ops.size-c->dr (c+k)=true:=λk hk=>iS _ (by omega)
 refine⟨cx,hm,λr=>?_,λt=>?_,hI.size,hI.defers,hI.fy,hI.gr,nX⟩
 ·rw[hR,Sc hc hI.quiet hI.dn (by omega) hl,show c+(ops.size-c)=ops.size by omega]
 ·have:=hE t
  rw[Sb hc hI.quiet hI.dn (by omega) hl]at this
  rwa [show c+(ops.size-c)=ops.size by omega]at this
theorem zF{Q:Exit->Act->World->Prop}(hQ:∀c w a,fi N M c0 w0 c w (s ops.size) a->Q .normal a w):∀(fuel:Nat) (ar:Array Bool) (a:Act) (w:World) (c d:Nat),ar.size=ops.size->mK (λi=>ar.getD i false) ops.size<=fuel->
 Inv P G N M ops s val c0 w0 (λi=>ar.getD i false) a w c d->HL P .any ops Q fuel ar a w:=by
 intro fuel
 have AK:∀(ar:Array Bool) (i:Nat),ar.size=ops.size->(i∈Region.ready .any ops ar↔ ∃o,ops[i]?=some o/\ar.getD i false=false/\∀e∈o.after,Region.binds .any e=true->ar.getD e.on false=true):=by
  intro ar i fu
  unfold Region.ready
  rw[List.mem_filter,List.mem_range]
  constructor
  ·rintro⟨h1,h2⟩
   have ho:ops[i]?=some ops[i]:=aU h1
   simp only[ho,bA,aR,aE,bB]at h2
   refine⟨_,ho,?_,λe he hb=>?_⟩
   ·have hl:i<ar.size:=by omega
    have:=h2.1
    simpa[aY,hl]using this
   ·have:=Array.all_eq_true'.1 h2.2 e he
    simpa[hb]using this
  ·rintro⟨o,ho,h1,h2⟩
   have bd:=(Array.getElem?_eq_some_iff.1 ho).1
   refine⟨bd,?_⟩
   simp only[ho,bA,aR,aE,bB]
   have hl:i<ar.size:=by omega
   refine⟨by simpa[aY,hl]using h1,Array.all_eq_true'.2 λe he=>?_⟩
   cases hb:Region.binds .any e with
   |false=>rfl
   |true=>simpa[hb]using h2 e he hb
 have kb:∀(ar:Array Bool),ar.size=ops.size->Region.ready .any ops ar=[]->∀i,i<ops.size->ar.getD i false=true:=by
  intro ar fu he i
  induction i using Nat.strongRecOn with
  |_ i ih=>
   intro hi
   cases hl:ar.getD i false with
   |true=>rfl
   |false=>
    exfalso
    have ho:ops[i]?=some ops[i]:=aU hi
    have:i∈Region.ready .any ops ar:=(AK ar i fu).2 ⟨_,ho,hl,λe wV hb=>by
     have:=Zob lT ho e wV hb
     exact ih e.on this (by omega)⟩
    rw[he]at this;cases this
 induction fuel with
 |zero=>
  intro ar a w c d fu Bu hI
  have iS:=VT (dr:=λi=>ar.getD i false) (Nat.le_zero.1 Bu)
  refine⟨?_,?_⟩
  ·rw[List.eq_nil_iff_forall_not_mem]
   intro i hi
   obtain⟨o,ho,h1,_⟩:=(AK ar i fu).1 hi
   have:=iS i (Array.getElem?_eq_some_iff.1 ho).1
   rw[h1]at this;cases this
  ·obtain⟨cx,hs⟩:=Zpi hc lT hI iS
   exact hQ cx w a hs
 |succ fuel ih=>
  intro ar a w c d fu Bu hI
  refine⟨λhe=>?_,λi hi=>?_⟩
  ·obtain⟨cx,hs⟩:=Zpi hc lT hI (kb ar fu he)
   exact hQ cx w a hs
  ·obtain⟨o,ho,h1,h2⟩:=(AK ar i fu).1 hi
   have bd:=(Array.getElem?_eq_some_iff.1 ho).1
   have rY:(ar.setIfInBounds i true).getD i false=true:=by
    have hl:i<ar.size:=by omega
    simp[aY,hl]
   have r3:∀k,k≠i->(ar.setIfInBounds i true).getD k false=ar.getD k false:=λk hk=>by
    rw[aQ,aZ (Ne.symm hk),<-aQ]
   refine xF hc lT (gd:=λk=>(ar.setIfInBounds i true).getD k false) hI ho h1 rY r3 h2 λa' w' c' d' VW=>?_
   refine ih _ a' w' c' d' (by simpa using fu) ?_ VW
   have:=VU (dr:=λk=>ar.getD k false) (gd:=λk=>(ar.setIfInBounds i true).getD k false) h1 rY r3 bd
   omega
end
theorem fi.drew{c:Ctx}{st:St}(h:fi N M c0 w0 c w st a):fi N M c0 w0 c w.drew st a:=
 ⟨HF h.mem,h.rows,λt=>wX (Qj c w) (h.env t),h.size,h.defers,h.fy,h.gr,h.reach.step (ks:=[]) (λk hk=>by simp[cw]at hk) h.gr
  (lJ.toK ⟨HF h.mem,Qj c w,⟨rfl,rfl,rfl,aX _,λ_ _ _=>rfl⟩,λb hb=>.inl hb,λr row hr v=>.inl ⟨⟨row,hr⟩,v,rfl⟩⟩)⟩
theorem xa(hm:P.follows .mixedOrders=true):∀(ro:Option Nat) (T:iB) (G:List ba) (N M id:Nat) (ops:Array Oper) (st:St) (Q:Ex->St->Prop),ji P T->jz P G->HG G ops=true->(lR T G N M ops ops.toList st λst=>Q .normal st)->tN ro P N M (.region id ops true) st Q:=by
 intro ro T G N M id ops st Q hT hG hd h c0 w0 c w a hs
 obtain⟨s,ks,val,h1,h2,h3,h4,h5⟩:=Zpk hT hG ops.toList 0 st (by simp) h
 have hc:Chain P G N M ops s ks val:=⟨λi o ho=>h3 i o (bC _) ho,λi o t ho=>h4 i o t (bC _) ho,λi o t ho=>h5 i o t (bC _) ho⟩
 have hs:=hs.drew
 refine Qwq hm ?_
 obtain⟨d,g1,g2,g3,g4⟩:=Ql G ops _ 0 rfl (bC _)
 have hz:∀i,(Array.replicate ops.size false).getD i false=false:=λi=>by
  by_cases h:i<ops.size
  ·simp[aY,h]
  ·simp[aY,h]
 refine zF hc hd (Q:=λe a' w'=>∃ex jq c',mL e=some ex/\Q ex jq/\fi N M c0 w0 c' w' jq a') (λc w a iV=>⟨_,_,c,rfl,by simpa using h2,iV⟩) ops.size _ a _ 0 d (by simp) (VS _ _)
  ⟨g1,g2,λi hi=>by omega,λi _=>hz i,g3,g4,λj hj=>by simp[hz]at hj,hs.size,hs.defers,hs.fy,hs.gr,c,hs.mem,λr=>?_,λt=>?_,hs.reach⟩
 ·rw[Se (λi _=>hz _),h1];exact hs.rows r
 ·rw[Sd (λi _=>hz _),h1];exact hs.env t
