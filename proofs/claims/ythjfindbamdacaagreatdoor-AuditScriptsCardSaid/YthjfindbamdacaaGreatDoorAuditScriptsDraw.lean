import Derived.Test.YthjfindbamdacaaGreatDoorAuditScriptsFt
open List renaming drop_eq_nil_of_le->aA,drop_eq_getElem_cons->aB,foldl_cons->aD,getD->aK,getElem?_eq_none->aM
open Array renaming getD_eq_getD_getElem?->aF,foldl_toList->aH,getElem?_eq_getElem->aJ,getD->aP,getElem?_setIfInBounds_ne->aQ
open Option renaming getD_some->aG,bind_some->aL,map_some->aR
open Bool renaming or_eq_true->aI,false_eq_true->aN,not_eq_true'->aS
open Nat renaming le_refl->aO,zero_le->aT
set_option linter.all false
namespace Go.GD
open Go
structure Chain(P:Program)(G:List bc)(N M:Nat)(ops:Array Oper)(s:Nat->St)(ks:Nat->List Nat)(val:Nat->D):Prop where
 op:∀(i:Nat) (o:Oper),ops[i]?=some o->nA P G M ops o (s i).env (s i).rows (ks i) (val i) (s (i+1)).rows
 env:∀(i:Nat) (o:Oper) (t:Nat),ops[i]?=some o->look (s (i+1)).env t=if o.dst=some t then val i else look (se (ks i) (s i).env) t
 dst:∀(i:Nat) (o:Oper) (t:Nat),ops[i]?=some o->o.dst=some t->t<N
theorem Znk{P:Program}{T:fq}(hT:jz P T){G:List bc}(hG:jT P G){N M:Nat}{ops:Array Oper}{K:St->Prop}:∀(l:List Oper) (k:Nat) (st:St),ops.toList.drop k=l->mb T G N M ops l st K->
 ∃ (s:Nat->St) (ks:Nat->List Nat) (val:Nat->D),s k=st/\K (s (k+l.length))/\(∀(i:Nat) (o:Oper),k<=i->ops[i]?=some o->nA P G M ops o (s i).env (s i).rows (ks i) (val i) (s (i+1)).rows)/\
  (∀(i:Nat) (o:Oper) (t:Nat),k<=i->ops[i]?=some o->look (s (i+1)).env t=if o.dst=some t then val i else look (se (ks i) (s i).env) t)/\(∀(i:Nat) (o:Oper) (t:Nat),k<=i->ops[i]?=some o->o.dst=some t->t<N)
 |[],k,st,hk,h=>by
  have hlen:ops.size<=k:=by
   have:=congrArg List.length hk
   simp at this;omega
  have no:∀(i:Nat) (o:Oper),k<=i->ops[i]?=some o->False:=λi o hi ho=>by
   have:=(Array.getElem?_eq_some_iff.1 ho).1;omega
  exact⟨λ_=>st,λ_=>[],λ_=>.dead,rfl,h,λi o hi ho=>(no i o hi ho).elim,λi o t hi ho=>(no i o hi ho).elim,λi o t hi ho=>(no i o hi ho).elim⟩
 |o ::l,k,st,hk,h=>by
  have cg:k<ops.toList.length:=by
   by_cases cg:k<ops.toList.length
   ·exact cg
   ·rw[aA (by omega)]at hk;cases hk
  rw[aB cg]at hk
  have ho:ops[k]?=some o:=by
   have:=(List.cons.inj hk).1
   rw[<-this]
   simp at cg
   simp[cg]
  obtain⟨kk,v,R',iL,h1,h2,h3,h4⟩:=Wa hT hG h
  obtain⟨s,ks,val,g1,g2,g3,g4,g5⟩:=Znk hT hG l (k+1) _ (List.cons.inj hk).2 h4
  refine⟨λi=>if i=k then st else s i,λi=>if i=k then kk else ks i,λi=>if i=k then v else val i,by simp,?_,λi p hi hp=>?_,λi p t hi hp=>?_,λi p t hi hp hd=>?_⟩
  ·simp only[List.length_cons]
   rw[if_neg (by omega),show k+(l.length+1)=k+1+l.length by omega]
   exact g2
  ·by_cases e:i=k
   ·subst e
    rw[ho]at hp;cases hp
    simp only[if_true,show¬i+1=i by omega,if_false,g1]
    exact h3
   ·simp only[if_neg e,if_neg (show¬i+1=k by omega)]
    exact g3 i p (by omega) hp
  ·by_cases e:i=k
   ·subst e
    rw[ho]at hp;cases hp
    simp only[if_true,show¬i+1=i by omega,if_false,g1]
    cases tR:o.dst with
    |none=>simp[sf,h1]
    |some u=>simp only[sf,Bl,Option.some.injEq,h1]
   ·simp only[if_neg e,if_neg (show¬i+1=k by omega)]
    exact g4 i p t (by omega) hp
  ·by_cases e:i=k
   ·subst e
    rw[ho]at hp;cases hp
    exact h2 t hd
   ·exact g5 i p t (by omega) hp hd
theorem Z1r(ops:Array Oper): ∀(l:List Oper) (acc:Array Nat),(∀k,acc.size<=k-> ∀i,(acc.getD k 0).testBit i=false)->
    ∀(listed:Nat->Prop),(∀(j:Nat) (hj:j<acc.size) (i:Nat),(∀o,ops[j]? =some o-> ∀e∈o.after,Region.binds .any e=true->listed e.on)->(acc.getD j 0).testBit i=true->listed i)->
    (∀j,listed j-> ∀o,ops[j]? =some o-> ∀e∈o.after,Region.binds .any e=true->listed e.on)->ops.toList.drop acc.size=l->
    ∀ (j i:Nat),(∀o,ops[j]? =some o-> ∀e∈o.after,Region.binds .any e=true->listed e.on)->
      ((l.foldl (λ(acc:Array Nat) o=>acc.push (o.after.foldl (λs e=>if Region.binds .any e then s|||2^e.on|||acc.getD e.on 0 else s) 0)) acc).getD j 0).testBit i=true->listed i
  | [],acc,hz,listed,ED,gn,hl,j,i,hj,h=>by
    simp only[List.foldl_nil]at h
    by_cases cg:j<acc.size
    . exact ED j cg i hj h
    . rw[hz j (by omega) i]at h;cases h
  | o :: l, acc,hz,listed,ED,gn,hl,j,i,hj,h=>by
    simp only[aD]at h
    have cg:acc.size<ops.toList.length:=by
      by_cases cg:acc.size<ops.toList.length
      . exact cg
      . rw[aA (by omega)]at hl;cases hl
    rw[aB cg]at hl
    have ho:ops[acc.size]? =some o:=by
      rw[<-(List.cons.inj hl).1]
      simp at cg
      simp [cg]
    refine Z1r ops l _ (λk hk i=> ?_) listed (λk hk i EE hb=> ?_) gn (by simpa using(List.cons.inj hl).2) j i hj h
    . simp at hk
      rw[aF,Array.getElem?_eq_none (by simp;omega)]
      simp
    . simp only [Array.size_push]at hk
      by_cases e:k=acc.size
      . subst e
        rw[aF,Array.getElem?_push_size,aG]at hb
        have iR:=EE o ho
        rw[<-aH]at hb
        have fold: ∀(es:List Edge) (s0:Nat),(∀e∈es,Region.binds .any e=true->listed e.on)->(s0.testBit i=true->listed i)->(es.foldl (λs e=>if Region.binds .any e then s|||2^e.on|||acc.getD e.on 0 else s) s0).testBit i=true->listed i:=by
          intro es
          induction es with
          |nil=>intro s0 _ h0 hb;exact h0 hb
          | cons e es ih=>
            intro s0 he h0 hb
            simp only[aD]at hb
            refine ih _ (λe' Ai=>he e' (by simp [Ai])) (λhs=> ?_) hb
            split at hs
            . rename_i M8
              have hle:=he e (by simp) M8
              simp only[Nat.testBit_or,aI,Nat.testBit_two_pow,decide_eq_true_eq]at hs
              rcases hs with(hs|hs)|hs
              . exact h0 hs
              . rw[<-hs];exact hle
              . by_cases cg:e.on<acc.size
                . exact ED e.on cg i (gn e.on hle) hs
                . rw[hz e.on (by omega) i]at hs;cases hs
            . exact h0 hs
        exact fold o.after.toList 0 (λe he hb=>iR e (by simpa using he) hb) (by simp) hb
      . have mU:k<acc.size:=by omega
        rw[aF,Array.getElem?_push_lt mU,<-aJ mU,<-aF]at hb
        exact ED k mU i EE hb
theorem Sq{ops:Array Oper}{listed:Nat->Prop}(gn:∀j,listed j->∀o,ops[j]?=some o->∀e∈o.after,Region.binds .any e=true->listed e.on){j i:Nat}
 (hj:∀o,ops[j]?=some o->∀e∈o.after,Region.binds .any e=true->listed e.on) (h:((Region.before ops).getD j 0).testBit i=true):listed i:=by
 refine Z1r ops ops.toList #[] (λk _ i=>by simp) listed (λj hj=>by simp at hj) gn (by simp) j i hj ?_
 have:Region.before ops=ops.toList.foldl (λ(acc:Array Nat) o=>acc.push (o.after.foldl (λs e=>if Region.binds .any e then s|||2^e.on|||acc.getD e.on 0 else s) 0)) #[]:=by
  unfold Region.before
  rw[<-aH]
 rw[<-this];exact h
theorem M9{G:List bc}{ops:Array Oper}(h:Ib G ops=true){i j:Nat}{x y:Oper}(Wb:i<j)(hx:ops[i]?=some x)(hy:ops[j]?=some y):
 (x.apart ops y=true\/((Region.before ops).getD j 0).testBit i=true)/\((lu G x.op=true/\lu G y.op=true)\/((Region.before ops).getD j 0).testBit i=true):=by
 have hj:=(Array.getElem?_eq_some_iff.1 hy).1
 have h1:=List.all_eq_true.1 h j (List.mem_range.2 hj)
 simp only[aE]at h1
 have h2:=List.all_eq_true.1 h1.2 i (List.mem_range.2 Wb)
 unfold BI at h2
 simp only[hx,hy,aE,aI]at h2
 exact h2
theorem Zlh{G:List bc}{ops:Array Oper}(h:Ib G ops=true){j:Nat}{y:Oper}(hy:ops[j]?=some y):∀e∈y.after,Region.binds .any e=true->e.on<j:=by
 have hj:=(Array.getElem?_eq_some_iff.1 hy).1
 have h1:=List.all_eq_true.1 h j (List.mem_range.2 hj)
 simp only[aE,hy]at h1
 intro e he hb
 have:=Array.all_eq_true'.1 h1.1 e he
 simp only[hb,Bool.not_true,Bool.false_or]at this
 exact lE this
theorem Wc{G:List bc}{o:Op}(h:lu G o=true):sg G o=false:=by
 simpa[lu]using h
theorem Wd{P:Program}{G:List bc}{M:Nat}{ops:Array Oper}{o:Oper}{env:List (Nat×D)}{R:Rows}{ks:List Nat}{v:D}{R':Rows}(h:nA P G M ops o env R ks v R')(hq:lu G o.op=true):ks=[]/\∃news,R'=R++news:=by
 have one:pI P G M o (bq env) R ks v R'->ks=[]/\∃news,R'=R++news:=λh=>by
  unfold pI at h
  rw[Wc hq]at h
  exact⟨h.1,h.2.1⟩
 unfold nA at h
 split at h
 ·exact one h
 ·obtain⟨g,_,⟨b,_,h⟩|⟨_,h⟩⟩:=h
  ·split at h
   ·exact one h
   ·exact⟨h.1,[],by rw[h.2.2];simp⟩
  ·exact⟨h.1,[],by rw[h.2.2];simp⟩
def jd(ops:Array Oper)(s:Nat->St)(val:Nat->D)(dm:Nat->Bool)(c:Nat):Nat->Nat->D
 |0,t=>look (s c).env t
 |n+1,t=>if dm (c+n)=true/\(ops[c+n]?).bind (·.dst)=some t then val (c+n)else jd ops s val dm c n t
def kE(s:Nat->St)(dm:Nat->Bool)(c:Nat):Nat->Nat->Option Row
 |0,r=>(s c).rows.getD r none
 |n+1,r=>if dm (c+n)=true/\(s (c+n)).rows.length<=r/\r<(s (c+n+1)).rows.length then(s (c+n+1)).rows.getD r none else kE s dm c n r
theorem Chain.EF{P:Program}{G:List bc}{N M:Nat}{ops:Array Oper}{s:Nat->St}{ks:Nat->List Nat}{val:Nat->D}(hc:Chain P G N M ops s ks val){i:Nat}{o:Oper}(ho:ops[i]?=some o)(hq:lu G o.op=true)(t:Nat):look (s (i+1)).env t=if o.dst=some t then val i else look (s i).env t:=by
 rw[hc.env i o t ho,(Wd (hc.op i o ho) hq).1,o4]
theorem Ku.toW{c c':Ctx}{w w':World}{R R':Rows}(hs:Ku c w R R' c' w'):lP c w c' w':=
 ⟨hs.mem,hs.bz,hs.fr.mono (λb _ hf=>hf.elim),hs.fu,λr ak nB hv=>by
  by_cases h1:R.length<=r/\r<R'.length
  ·exact .inr (hs.new r h1.1 h1.2 hv)
  ·rw[hs.rows,if_neg h1]at nB
   obtain⟨h2,h3⟩:=hs.jA r (by omega)
   exact .inl ⟨⟨_,nB⟩,λe=>hv (h3.2 e),h2⟩⟩
theorem Qn3{R news:Rows}{r:Nat}(h:r<R.length):(R++news).getD r none=R.getD r none:=by
 simp[aK,List.getElem?_append_left h]
section
variable {P:Program} {G:List bc} {N M:Nat} {ops:Array Oper} {s:Nat->St} {ks:Nat->List Nat} {val:Nat->D} (hc:Chain P G N M ops s ks val) (mI:Ib G ops=true)
include hc
theorem Z33{c d:Nat}(hq:∀(i:Nat) (o:Oper),c<=i->i<d->ops[i]?=some o->lu G o.op=true)(hd:d<=ops.size){k:Nat}(hk:c<=k):∀{l:Nat},k<=l->l<=d->∃news,(s l).rows=(s k).rows++news:=by
 intro l hl
 induction l with
 |zero=>intro _;exact⟨[],by rw[show k=0 by omega];simp⟩
 |succ l ih=>
  intro DF
  by_cases e:k=l+1
  ·exact⟨[],by rw[e];simp⟩
  ·obtain⟨n1,h1⟩:=ih (by omega) (by omega)
   have ho:ops[l]?=some ops[l]:=aJ (by omega)
   obtain⟨_,n2,h2⟩:=Wd (hc.op l _ ho) (hq l _ (by omega) (by omega) ho)
   exact⟨n1++n2,by rw[h2,h1,List.append_assoc]⟩
theorem Kv{c d:Nat}(hq:∀(i:Nat) (o:Oper),c<=i->i<d->ops[i]?=some o->lu G o.op=true)(hd:d<=ops.size){k l:Nat}(hk:c<=k)(hl:k<=l)(DF:l<=d):(s k).rows.length<=(s l).rows.length:=by
 obtain⟨n,h⟩:=Z33 hc hq hd hk hl DF
 rw[h];simp
theorem Kw{c d:Nat}(hq:∀(i:Nat) (o:Oper),c<=i->i<d->ops[i]?=some o->lu G o.op=true)(hd:d<=ops.size){k l:Nat}(hk:c<=k)(hl:k<=l)(DF:l<=d){r:Nat}(hr:r<(s k).rows.length):(s l).rows.getD r none=(s k).rows.getD r none:=by
 obtain⟨n,h⟩:=Z33 hc hq hd hk hl DF
 rw[h,Qn3 hr]
theorem Sr{dm:Nat->Bool}{c d:Nat}(hq:∀(i:Nat) (o:Oper),c<=i->i<d->ops[i]?=some o->lu G o.op=true)(hd:d<=ops.size):∀{n:Nat},c+n<=d->(∀i,i<n->dm (c+i)=true)->∀t,jd ops s val dm c n t=look (s (c+n)).env t
 |0,_,_,t=>rfl
 |n+1,hn,hl,t=>by
  have ho:ops[c+n]?=some ops[c+n]:=aJ (by omega)
  simp only[jd,hl n (by omega),true_and,ho,aL]
  rw[show c+(n+1)=(c+n)+1 by omega,hc.EF ho (hq _ _ (by omega) (by omega) ho) t]
  split
  ·rfl
  ·exact Sr hq hd (by omega) (λi hi=>hl i (by omega)) t
theorem Ss{dm:Nat->Bool}{c d:Nat}(hq:∀(i:Nat) (o:Oper),c<=i->i<d->ops[i]?=some o->lu G o.op=true)(hd:d<=ops.size):∀{n:Nat},c+n<=d->(∀i,i<n->dm (c+i)=true)->∀r,kE s dm c n r=(s (c+n)).rows.getD r none
 |0,_,_,r=>rfl
 |n + 1,hn,hl,r=>by
  simp only[kE,hl n (by omega),true_and]
  rw[show c+(n+1)=c+n+1 by omega]
  split
  ·rfl
  ·rename_i h1
   rw[Ss hq hd (by omega) (λi hi=>hl i (by omega)) r]
   by_cases h2:r<(s (c+n)).rows.length
   ·exact(Kw hc hq hd (by omega) (by omega) (by omega) h2).symm
   ·have hlen:=Kv hc hq hd (show c<=c+n by omega) (show c+n<=c+n+1 by omega) (by omega)
    simp only[aK]
    rw[aM (by omega),aM (by omega)]
end
theorem Qu{ops:Array Oper}{s:Nat->St}{val:Nat->D}{dm:Nat->Bool}{c:Nat}:∀{n:Nat},(∀i,i<n->dm (c+i)=false)->∀t,jd ops s val dm c n t=look (s c).env t
 |0,_,t=>rfl
 |n+1,hl,t=>by
  simp only[jd,hl n (by omega),aN,false_and,if_false]
  exact Qu (λi hi=>hl i (by omega)) t
theorem Su{s:Nat->St}{dm:Nat->Bool}{c:Nat}:∀{n:Nat},(∀i,i<n->dm (c+i)=false)->∀r,kE s dm c n r=(s c).rows.getD r none
 |0,_,r=>rfl
 |n+1,hl,r=>by
  simp only[kE,hl n (by omega),aN,false_and,if_false]
  exact Su (λi hi=>hl i (by omega)) r
theorem Sv{ops:Array Oper}{s:Nat->St}{val:Nat->D}{dm gk:Nat->Bool}{c:Nat}:∀{n:Nat},(∀i,i<n->gk (c+i)=dm (c+i))->∀t,jd ops s val gk c n t=jd ops s val dm c n t
 |0,_,t=>rfl
 |n+1,hl,t=>by simp only[jd,hl n (by omega),Sv (n:=n) (λi hi=>hl i (by omega)) t]
theorem Sw{s:Nat->St}{dm gk:Nat->Bool}{c:Nat}:∀{n:Nat},(∀i,i<n->gk (c+i)=dm (c+i))->∀r,kE s gk c n r=kE s dm c n r
 |0,_,r=>rfl
 |n+1,hl,r=>by simp only[kE,hl n (by omega),Sw (n:=n) (λi hi=>hl i (by omega)) r]
theorem We{ops:Array Oper}{s:Nat->St}{val:Nat->D}{dm gk:Nat->Bool}{c i:Nat}{o:Oper}(ho:ops[i]? =some o)(pJ:c<=i)(h0:dm i=false)(h1:gk i=true)(h2: ∀k,k≠i->gk k=dm k){t:Nat}
    (si: ∀k o',i<k->dm k=true->ops[k]? =some o'->o'.dst=some t->o.dst=some t->False): ∀{n:Nat},i<c+n->jd ops s val gk c n t=if o.dst=some t then val i else jd ops s val dm c n t
  |0,h=>by omega
  | n + 1,h=>by
    by_cases e:i=c+n
    . simp only[jd,<-e,h0,h1,ho,aL,true_and,aN,false_and,if_false]
      split
      . rfl
      . exact Sv (λk hk=>h2 _ (by omega)) t
    . simp only[jd,h2 (c+n) (λe'=>e e'.symm)]
      rw[We ho pJ h0 h1 h2 si (n:=n) (by omega)]
      by_cases g:dm (c+n)=true/\(ops[c+n]?).bind (·.dst)=some t
      . by_cases hd:o.dst=some t
        . exfalso
          obtain⟨g1,g2⟩:=g
          cases hk:ops[c+n]? with
          |none=>rw[hk]at g2;cases g2
          | some o'=>
            rw[hk]at g2
            exact si (c+n) o' (by omega) g1 hk g2 hd
        . rw[if_pos g,if_neg hd,if_pos g]
      . rw[if_neg g,if_neg g]
theorem Wf{s:Nat->St}{dm gk:Nat->Bool}{c i:Nat}(pJ:c<=i)(h0:dm i=false)(h1:gk i=true)(h2:∀k,k≠i->gk k=dm k){r d:Nat}
 (hlen:∀k,i<k->k<d->(s (i+1)).rows.length<=(s k).rows.length):∀{n:Nat},i<c+n->c+n<=d->kE s gk c n r=if(s i).rows.length<=r/\r<(s (i+1)).rows.length then(s (i+1)).rows.getD r none else kE s dm c n r
 |0,h,_=>by omega
 |n +1,h,hn=>by
  by_cases e:i=c+n
  ·simp only[kE,<-e,h0,h1,true_and,aN,false_and,if_false]
   split
   ·rfl
   ·exact Sw (λk hk=>h2 _ (by omega)) r
  ·simp only[kE,h2 (c+n) (λe'=>e e'.symm)]
   rw[Wf pJ h0 h1 h2 hlen (n:=n) (by omega) (by omega)]
   have:=hlen (c+n) (by omega) (by omega)
   by_cases g:dm (c+n)=true/\(s (c+n)).rows.length<=r/\r<(s (c+n+1)).rows.length
   ·rw[if_pos g,if_neg (by omega),if_pos g]
   ·rw[if_neg g,if_neg g]
theorem Gb{ops:Array Oper}{x y:Oper}(h:x.apart ops y=true){t:Nat}:(x.dst=some t->y.dst≠some t)/\(x.dst=some t->t∉y.looksAt ops)/\(y.dst=some t->t∉x.looksAt ops):=by
 obtain⟨h1,h2,h3⟩:=Oper.apart_spec h
 exact⟨λe=>h2 t e,λe=>h1 t e,λe=>h3 t e⟩
structure Inv(P:Program)(G:List bc)(N M:Nat)(ops:Array Oper)(s:Nat->St)(val:Nat->D)(c0:Ctx)(w0:World)(dm:Nat->Bool)(a:Act)(w:World)(c d:Nat):Prop where
 cd:c<=d
 dn:d<=ops.size
 pre:∀i,i<c->dm i=true
 post:∀i,d<=i->dm i=false
 quiet:∀(i:Nat) (o:Oper),c<=i->i<d->ops[i]?=some o->lu G o.op=true
 wr:∀(o:Oper),ops[d]?=some o->lu G o.op=false
 closed:∀j,dm j=true->∀(o:Oper),ops[j]?=some o->∀e∈o.after,Region.binds .any e=true->dm e.on=true
 size:N<=a.tmps.size
 defers:mc w0.heap.size w a.defers
 gh:c0.base<=w0.heap.size
 gw:∀r row,c0.R r=some row->r<M
 ctx:∃cx,Mem cx w/\(∀r,cx.R r=kE s dm c (d-c) r)/\(∀t,Rep cx w (jd ops s val dm c (d-c) t) (a.tmps.getD t undef))/\Aj c0 w0 cx w
theorem Na(G:List bc)(ops:Array Oper):∀(n c:Nat),ops.size-c=n->c<=ops.size->∃d,c<=d/\d<=ops.size/\(∀(i:Nat) (o:Oper),c<=i->i<d->ops[i]?=some o->lu G o.op=true)/\(∀(o:Oper),ops[d]?=some o->lu G o.op=false)
 |0,c,h,hc=>⟨c,aO _,hc,λi o h1 h2=>by omega,λo ho=>by
  have:=(Array.getElem?_eq_some_iff.1 ho).1;omega⟩
 |n +1,c,h,hc=>by
  have ho:ops[c]?=some ops[c]:=aJ (by omega)
  cases hq:lu G ops[c].op with
  |false=>exact⟨c,aO _,hc,λi o h1 h2=>by omega,λo h'=>by rw[ho]at h';cases h';exact hq⟩
  |true=>
   obtain⟨d,h1,h2,h3,h4⟩:=Na G ops n (c+1) (by omega) (by omega)
   refine⟨d,by omega,h2,λi o hi hid h'=>?_,h4⟩
   by_cases e:i=c
   ·subst e;rw[ho]at h';cases h';exact hq
   ·exact h3 i o (by omega) hid h'
section
variable {P:Program} {G:List bc} {N M:Nat} {ops:Array Oper} {s:Nat->St} {ks:Nat->List Nat} {val:Nat->D} (hc:Chain P G N M ops s ks val) (mI:Ib G ops=true)
include hc mI
theorem zF{c0:Ctx}{w0:World}{dm gk:Nat->Bool}{a:Act}{w:World}{c d i:Nat}{o:Oper}(hI:Inv P G N M ops s val c0 w0 dm a w c d)(ho:ops[i]?=some o)(h0:dm i=false)(h1:gk i=true)(h2:∀k,k≠i->gk k=dm k)
 (Nb:∀e∈o.after,Region.binds .any e=true->dm e.on=true) {K:Act->World->Prop} {Q:Exit->Act->World->Prop} (hK:∀a' w' c' d',Inv P G N M ops s val c0 w0 gk a' w' c' d'->K a' w'):wpOp P ops Q i K a w:=by
 have cg:=(Array.getElem?_eq_some_iff.1 ho).1
 have pX:∀k,((Region.before ops).getD i 0).testBit k=true->dm k=true:=λk hk=>
  Sq (listed:=λk=>dm k=true) hI.closed (λo' je=>by rw[ho]at je;cases je;exact Nb) hk
 have nX:∀j k,dm j=true->((Region.before ops).getD j 0).testBit k=true->dm k=true:=λj k hj hk=>
  Sq (listed:=λk=>dm k=true) hI.closed (hI.closed j hj) hk
 have pJ:c<=i:=by
  by_cases h:c<=i
  ·exact h
  ·rw[hI.pre i (by omega)]at h0;cases h0
 have tS:∀j,gk j=true->∀(o:Oper),ops[j]?=some o->∀e∈o.after,Region.binds .any e=true->gk e.on=true:=by
  intro j hj o' je e he hb
  have gl:dm e.on=true:=by
   by_cases e':j=i
   ·subst e';rw[ho]at je;cases je;exact Nb e he hb
   ·rw[h2 j e']at hj;exact hI.closed j hj o' je e he hb
  rw[h2 e.on (λe'=>by rw[e',h0]at gl;cases gl)]
  exact gl
 have hid:i<=d:=by
  by_cases h:i<=d
  ·exact h
  ·exfalso
   have BJ:ops[d]?=some ops[d]:=aJ (by omega)
   have:=(M9 mI (show d<i by omega) BJ ho).2
   rcases this with⟨hq,_⟩|hb
   ·rw[hI.wr _ BJ]at hq;cases hq
   ·have:=pX d hb
    rw[hI.post d (aO _)]at this;cases this
 obtain⟨cx,hm,hR,hE,nY⟩:=hI.ctx
 by_cases e:i=d
 ·
  subst e
  have iR:∀k,k<i-c->dm (c+k)=true:=λk hk=>by
   have dw:ops[c+k]?=some ops[c+k]:=aJ (by omega)
   have:=(M9 mI (show c+k<i by omega) dw ho).2
   rcases this with⟨_,hq⟩|hb
   ·rw[hI.wr _ ho]at hq;cases hq
   ·exact pX _ hb
  have hs:fw N M c0 w0 cx w (s i) a:=by
   refine⟨hm,λr=>?_,λt=>?_,hI.size,hI.defers,hI.gh,hI.gw,nY⟩
   ·rw[hR,Ss hc hI.quiet hI.dn (by omega) iR]
    rw[show c+(i-c)=i by omega]
   ·have:=hE t
    rw[Sr hc hI.quiet hI.dn (by omega) iR]at this
    rwa [show c+(i-c)=i by omega]at this
  refine xW ho hs (λ_=>rfl) (λt=>hc.dst i o t ho) (hc.op i o ho) λa' w' c' ji=>?_
  obtain⟨d',g1,g2,g3,g4⟩:=Na G ops _ (i+1) rfl (by omega)
  have si:∀k,k<d'-(i+1)->gk (i+1+k)=false:=λk hk=>by
   rw[h2 _ (by omega)];exact hI.post _ (by omega)
  refine hK a' w' (i+1) d' ⟨g1,g2,λk hk=>?_,λk hk=>?_,g3,g4,tS,ji.size,ji.defers,ji.gh,ji.gw,c',ji.mem,λr=>?_,λt=>?_,ji.reach⟩
  ·by_cases e':k=i
   ·rw[e'];exact h1
   ·rw[h2 k e']
    by_cases Wg:k<c
    ·exact hI.pre k Wg
    ·have:=iR (k-c) (by omega)
     rwa [show c+(k-c)=k by omega]at this
  ·rw[h2 k (by omega)];exact hI.post k (by omega)
  ·rw[Su si];exact ji.rows r
  ·rw[Qu si,hc.env i o t ho]
   have:=ji.env t
   cases hd:o.dst with
   |none=>simpa[sf,hd]using this
   |some u=>simpa only[sf,hd,Bl,Option.some.injEq]using this
 ·
  have Ic:i<d:=by omega
  have hq:=hI.quiet i o pJ Ic ho
  have Nc:=Wc hq
  have Ie :∀t∈o.looksAt ops,∀n,c+n<=d->jd ops s val dm c n t=if c+n<=i then look (s (c+n)).env t else look (s i).env t:=by
   intro t ht n
   induction n with
   |zero=>intro _;simp only[jd,Nat.add_zero];rw[if_pos pJ]
   |succ n ih=>
    intro hn
    have Ig:=hI.dn
    obtain⟨ok,dw⟩:∃ok,ops[c+n]?=some ok:=⟨_,aJ (show c+n<ops.size by omega)⟩
    have ih:=ih (by omega)
    simp only[jd,dw,aL]
    by_cases hk:c+n<i
    ·have hA:c+(n+1)<=i:=by omega
     have Sx:c+n<=i:=by omega
     rw[if_pos hA,show c+(n+1)=c+n+1 by omega,hc.EF dw (hI.quiet _ _ (by omega) (by omega) dw) t]
     rw[if_pos Sx]at ih
     by_cases hd:ok.dst=some t
     ·have hl:dm (c+n)=true:=by
       rcases(M9 mI hk dw ho).1 with tT|hb
       ·exact((Gb tT).2.1 hd ht).elim
       ·exact pX _ hb
      rw[if_pos ⟨hl,hd⟩,if_pos hd]
     ·rw[if_neg (λg=>hd g.2),if_neg hd,ih]
    ·have Ih:¬(dm (c+n)=true/\ok.dst=some t):=by
      rintro⟨g1,g2⟩
      by_cases e':c+n=i
      ·rw[e',h0]at g1;cases g1
      ·have nZ:i<c+n:=by omega
       rcases(M9 mI nZ ho dw).1 with tT|hb
       ·exact(Gb tT).2.2 g2 ht
       ·have:=nX _ _ g1 hb
        rw[h0]at this;cases this
     have hA:¬c+(n+1)<=i:=by omega
     rw[if_neg Ih,ih,if_neg hA]
     split
     ·rw[show c+n=i by omega]
     ·rfl
  have Nd:∀t∈o.looksAt ops,Rep cx w (look (s i).env t) (a.tmps.getD t undef):=λt ht=>by
   have:=hE t
   rw[Ie t ht (d-c) (by omega),if_neg (by omega)]at this
   exact this
  have hlen:∀k l,c<=k->k<=l->l<=d->(s k).rows.length<=(s l).rows.length:=λk l h1 h2 h3=>Kv hc hI.quiet hI.dn h1 h2 h3
  have iX:∀k l,c<=k->k<=l->l<=d->∀r,r<(s k).rows.length->(s l).rows.getD r none=(s k).rows.getD r none:=λk l h1 h2 h3 r hr=>Kw hc hI.quiet hI.dn h1 h2 h3 hr
  have BK:∀n,c+n<=d->∀r,r<(s i).rows.length->∀row,kE s dm c n r=some row->(s i).rows.getD r none=some row:=by
   intro n
   induction n with
   |zero=>
    intro _ r hr row h
    simp only[kE]at h
    by_cases Wh:r<(s c).rows.length
    ·rw[iX c i (aO _) pJ (by omega) r Wh];exact h
    ·simp only[aK,aM (show(s c).rows.length<=r by omega)]at h;cases h
   |succ n ih=>
    intro hn r hr row h
    simp only[kE]at h
    split at h
    ·rename_i g
     obtain⟨g1,g2,g3⟩:=g
     have Wi:c+n<i:=by
      by_cases mU:c+n<i
      ·exact mU
      ·by_cases e':c+n=i
       ·rw[e',h0]at g1;cases g1
       ·have:=hlen i (c+n) pJ (by omega) (by omega);omega
     rw[iX (c+n+1) i (by omega) (by omega) (by omega) r g3];exact h
    ·exact ih (by omega) r hr row h
  have BL:∀n,c+n<=d->∀r,(s i).rows.length<=r->r<(s (i+1)).rows.length->kE s dm c n r=none:=by
   intro n
   induction n with
   |zero=>
    intro _ r h1 h2
    have:=hlen c i (aO _) pJ (by omega)
    simp only[kE,aK,aM (show(s c).rows.length<=r by omega),Option.getD_none]
   |succ n ih=>
    intro hn r h1 h2
    simp only[kE]
    rw[if_neg]
    ·exact ih (by omega) r h1 h2
    ·rintro⟨g1,g2,g3⟩
     by_cases e':c+n=i
     ·rw[e',h0]at g1;cases g1
     ·by_cases mU:c+n<i
      ·have:=hlen (c+n+1) i (by omega) (by omega) (by omega);omega
      ·have:=hlen (i+1) (c+n) (by omega) (by omega) (by omega);omega
  have jj:cx.base<=w.heap.size:=by rw[nY.bz.base];exact Nat.le_trans hI.gh nY.fr.size
  have o7:mJ cx (s i).rows:=λr row ak g1 g2=>by
   have hr:r<(s i).rows.length:=by
    by_cases h:r<(s i).rows.length
    ·exact h
    ·simp only[aK,aM (show(s i).rows.length<=r by omega)]at g2;cases g2
   rw[hR]at g1
   have:=BK (d-c) (by omega) r hr row g1
   rw[this]at g2;exact Option.some.inj g2
  have fin:∀v w' c',Ku cx w (s i).rows (s (i+1)).rows c' w'->Rep c' w' (val i) v->K (a.put o.dst v) w':=by
   intro v w' c' hn hv
   refine hK _ w' c d ⟨hI.cd,hI.dn,λk hk=>by rw[h2 k (by omega)];exact hI.pre k hk,λk hk=>by rw[h2 k (by omega)];exact hI.post k hk,hI.quiet,hI.wr,tS,?_,?_,hI.gh,hI.gw,c',hn.mem,λr=>?_,λt=>?_,nY.step (ks:=[]) (λk hk=>by simp[bw]at hk) hI.gw hn.toW.toK⟩
   ·cases hd:o.dst<;>simp[Act.put]<;>exact hI.size
   ·first|exact mc.put (hI.defers.step hm hn.fr)|exact mc.put (hI.defers.step hm hn.toW.fr)
   ·rw[hn.rows,hR,Wf pJ h0 h1 h2 (d:=d) (λk oa rL=>hlen (i+1) k (by omega) (by omega) (by omega)) (by omega) (by omega)]
   ·have hl:∀k o',i<k->dm k=true->ops[k]?=some o'->o'.dst=some t->o.dst=some t->False:=by
     intro k o' nZ hk dw Wj Wk
     rcases(M9 mI nZ ho dw).1 with tT|hb
     ·exact(Gb tT).1 Wk Wj
     ·have:=nX _ _ hk hb
      rw[h0]at this;cases this
    rw[We ho pJ h0 h1 h2 hl (by omega)]
    have hold:=Ak hn.bz (hE t)
    cases hd:o.dst with
    |none=>simpa[Act.put,hd]using hold
    |some u=>
     have hu:=hc.dst i o u ho hd
     simp only[Act.put,Option.some.injEq]
     by_cases e':u=t
     ·subst e'
      have mU:u<a.tmps.size:=Nat.lt_of_lt_of_le hu hI.size
      rw[if_pos rfl]
      simpa[aP,mU]using hv
     ·rw[if_neg e']
      simpa[aQ e']using hold
  have skip:val i=.dt []->(s (i+1)).rows=(s i).rows->K (a.put o.dst undef) w:=λe1 e2=>
   fin undef w cx ⟨hm,jk.refl _ _,Fr.refl _ _,λb hb=>.inl hb,λr=>by rw[e2,if_neg (by omega)],λ_ _=>⟨rfl,Iff.rfl⟩,λr g1 g2=>by rw[e2]at g2;omega⟩ (by rw[e1];exact Sy _ _)
  have run:pI P G M o (bq (s i).env) (s i).rows (ks i) (val i) (s (i+1)).rows->o.nm P a w K Q:=λhX=>by
   unfold pI at hX
   rw[Nc]at hX
   refine hX.2.2 cx w a hm jj o7 (λr g1 g2=>by rw[hR];exact BL (d-c) (by omega) r g1 g2) (λx hx=>?_) K Q fin
   cases x with
   |tmp t=>
    refine Nd t ?_
    unfold Oper.looksAt
    exact List.mem_append_left _ (List.mem_filterMap.2 ⟨.tmp t,by simpa using hx,rfl⟩)
   |const v=>
    simp only[bq,Act.eval]
    cases hv:Gc v with
    |none=>trivial
    |some d=>exact Nf hv cx w
   |global g=>trivial
   |func f=>exact Kx f
  have hG:=hc.op i o ho
  unfold wpOp
  simp only[ho]
  unfold nA at hG
  cases hg:o.guard with
  |none=>
   simp only[hg]at hG
   have hw:Region.wanted o (yielded ops a.tmps)=true:=by simp[Region.wanted,hg]
   rw[if_pos hw]
   exact run hG
  |some jw=>
   obtain⟨j,want⟩:=jw
   simp only[hg]at hG
   obtain⟨g,g2,hG⟩:=hG
   have hr:=Nd g (by
    unfold Oper.looksAt
    refine List.mem_append_right _ ?_
    simp only[hg,g2];simp)
   rcases hG with⟨b,g3,g4⟩|⟨g3,_,e1,e2⟩
   rotate_left
   ·rw[g3]at hr
    rw[if_neg (by rw[Sz (o:=o) hg g2 hr];simp)]
    exact skip e1 e2
   rw[g3]at hr
   have hw:=SA (o:=o) hg g2 hr
   by_cases e':b=want
   ·rw[if_pos e']at g4
    rw[if_pos (by rw[hw];simpa using e')]
    exact run g4
   ·rw[if_neg e']at g4
    rw[if_neg (by rw[hw];simpa using e')]
    exact skip g4.2.1 g4.2.2
end
def mV(dm:Nat->Bool):Nat->Nat
 |0=>0
 |n+1=>(if dm n=true then 0 else 1)+mV dm n
theorem Wl(dm:Nat->Bool):∀n,mV dm n<=n
 |0=>aO _
 |n+1=>by have:=Wl dm n;simp only[mV];split<;>omega
theorem Wm{dm:Nat->Bool}:∀{n:Nat},mV dm n=0->∀i,i<n->dm i=true
 |n +1,h,i,hi=>by
  simp only[mV]at h
  by_cases e:i=n
  ·subst e
   cases hl:dm i with
   |true=>rfl
   |false=>rw[hl]at h;simp at h
  ·exact Wm (n:=n) (by omega) i (by omega)
theorem Znn{dm gk:Nat->Bool}:∀{n:Nat},(∀i,i<n->gk i=dm i)->mV gk n=mV dm n
 |0,_=>rfl
 |n+1,h=>by simp only[mV,h n (by omega),Znn (n:=n) (λi hi=>h i (by omega))]
theorem Wn{dm gk:Nat->Bool}{i:Nat}(h0:dm i=false)(h1:gk i=true)(h2:∀k,k≠i->gk k=dm k):∀{n:Nat},i<n->mV gk n+1=mV dm n
 |n +1,h=>by
  simp only[mV]
  by_cases e:i=n
  ·subst e
   rw[Znn (dm:=dm) (gk:=gk) (λk hk=>h2 k (by omega)),h0,h1]
   simp;omega
  ·rw[h2 n (λe'=>e e'.symm)]
   have:=Wn h0 h1 h2 (n:=n) (by omega)
   omega
set_option linter.unusedSectionVars false
section
variable {P:Program} {G:List bc} {N M:Nat} {ops:Array Oper} {s:Nat->St} {ks:Nat->List Nat} {val:Nat->D} (hc:Chain P G N M ops s ks val) (mI:Ib G ops=true)
include hc mI
theorem Zm9{c0:Ctx}{w0:World}{dm:Nat->Bool}{a:Act}{w:World}{c d:Nat}(hI:Inv P G N M ops s val c0 w0 dm a w c d)(iR:∀i,i<ops.size->dm i=true):∃cx,fw N M c0 w0 cx w (s ops.size) a:=by
 obtain⟨cx,hm,hR,hE,nY⟩:=hI.ctx
 have hd:d=ops.size:=by
  by_cases h:d<ops.size
  ·have:=iR d h
   rw[hI.post d (aO _)]at this;cases this
  ·have:=hI.dn;omega
 subst hd
 have Wo:=hI.cd
 have hl:∀k,k<ops.size-c->dm (c+k)=true:=λk hk=>iR _ (by omega)
 refine⟨cx,hm,λr=>?_,λt=>?_,hI.size,hI.defers,hI.gh,hI.gw,nY⟩
 ·rw[hR,Ss hc hI.quiet hI.dn (by omega) hl,show c+(ops.size-c)=ops.size by omega]
 ·have:=hE t
  rw[Sr hc hI.quiet hI.dn (by omega) hl]at this
  rwa [show c+(ops.size-c)=ops.size by omega]at this
theorem yF{c0:Ctx}{w0:World}{Q:Exit->Act->World->Prop}(hQ:∀c w a,fw N M c0 w0 c w (s ops.size) a->Q .normal a w):∀(fuel:Nat) (listed:Array Bool) (a:Act) (w:World) (c d:Nat),listed.size=ops.size->mV (λi=>listed.getD i false) ops.size<=fuel->
 Inv P G N M ops s val c0 w0 (λi=>listed.getD i false) a w c d->Ii P .any ops Q fuel listed a w:=by
 intro fuel
 have Bm:∀(listed:Array Bool) (i:Nat),listed.size=ops.size->(i∈Region.ready .any ops listed↔ ∃o,ops[i]?=some o/\listed.getD i false=false/\∀e∈o.after,Region.binds .any e=true->listed.getD e.on false=true):=by
  intro listed i fx
  unfold Region.ready
  rw[List.mem_filter,List.mem_range]
  constructor
  ·rintro⟨h1,h2⟩
   have ho:ops[i]?=some ops[i]:=aJ h1
   simp only[ho,aR,aG,aE,aS]at h2
   refine⟨_,ho,?_,λe he hb=>?_⟩
   ·have hl:i<listed.size:=by omega
    have:=h2.1
    simpa[aP,hl]using this
   ·have:=Array.all_eq_true'.1 h2.2 e he
    simpa[hb]using this
  ·rintro⟨o,ho,h1,h2⟩
   have cg:=(Array.getElem?_eq_some_iff.1 ho).1
   refine⟨cg,?_⟩
   simp only[ho,aR,aG,aE,aS]
   have hl:i<listed.size:=by omega
   refine⟨by simpa[aP,hl]using h1,Array.all_eq_true'.2 λe he=>?_⟩
   cases hb:Region.binds .any e with
   |false=>rfl
   |true=>simpa[hb]using h2 e he hb
 have ka:∀(listed:Array Bool),listed.size=ops.size->Region.ready .any ops listed=[]->∀i,i<ops.size->listed.getD i false=true:=by
  intro listed fx he i
  induction i using Nat.strongRecOn with
  |_ i ih=>
   intro hi
   cases hl:listed.getD i false with
   |true=>rfl
   |false=>
    exfalso
    have ho:ops[i]?=some ops[i]:=aJ hi
    have:i∈Region.ready .any ops listed:=(Bm listed i fx).2 ⟨_,ho,hl,λe Ai hb=>by
     have:=Zlh mI ho e Ai hb
     exact ih e.on this (by omega)⟩
    rw[he]at this;cases this
 induction fuel with
 |zero=>
  intro listed a w c d fx BM hI
  have iR:=Wm (dm:=λi=>listed.getD i false) (Nat.le_zero.1 BM)
  refine⟨?_,?_⟩
  ·rw[List.eq_nil_iff_forall_not_mem]
   intro i hi
   obtain⟨o,ho,h1,_⟩:=(Bm listed i fx).1 hi
   have:=iR i (Array.getElem?_eq_some_iff.1 ho).1
   rw[h1]at this;cases this
  ·obtain⟨cx,hs⟩:=Zm9 hc mI hI iR
   exact hQ cx w a hs
 |succ fuel ih=>
  intro listed a w c d fx BM hI
  refine⟨λhe=>?_,λi hi=>?_⟩
  ·obtain⟨cx,hs⟩:=Zm9 hc mI hI (ka listed fx he)
   exact hQ cx w a hs
  ·obtain⟨o,ho,h1,h2⟩:=(Bm listed i fx).1 hi
   have cg:=(Array.getElem?_eq_some_iff.1 ho).1
   have sj:(listed.setIfInBounds i true).getD i false=true:=by
    have hl:i<listed.size:=by omega
    simp[aP,hl]
   have sq:∀k,k≠i->(listed.setIfInBounds i true).getD k false=listed.getD k false:=λk hk=>by
    rw[aF,aQ (Ne.symm hk),<-aF]
   refine zF hc mI (gk:=λk=>(listed.setIfInBounds i true).getD k false) hI ho h1 sj sq h2 λa' w' c' d' Wp=>?_
   refine ih _ a' w' c' d' (by simpa using fx) ?_ Wp
   have:=Wn (dm:=λk=>listed.getD k false) (gk:=λk=>(listed.setIfInBounds i true).getD k false) h1 sj sq cg
   omega
end
theorem fw.drew{N M:Nat}{c0:Ctx}{w0:World}{c:Ctx}{w:World}{st:St}{a:Act}(h:fw N M c0 w0 c w st a):fw N M c0 w0 c w.drew st a:=
 ⟨Ky h.mem,h.rows,λt=>Ak (Ng c w) (h.env t),h.size,h.defers,h.gh,h.gw,h.reach.step (ks:=[]) (λk hk=>by simp[bw]at hk) h.gw
  (lP.toK ⟨Ky h.mem,Ng c w,⟨rfl,rfl,rfl,aO _,λ_ _ _=>rfl⟩,λb hb=>.inl hb,λr row hr v=>.inl ⟨⟨row,hr⟩,v,rfl⟩⟩)⟩
theorem za{P:Program}(hm:P.follows .mixedOrders=true):∀(ro:Option Nat) (T:fq) (G:List bc) (N M id:Nat) (ops:Array Oper) (st:St) (Q:Ex->St->Prop),jz P T->jT P G->Ib G ops=true->(mb T G N M ops ops.toList st λst=>Q .normal st)->tU ro P N M (.region id ops true) st Q:=by
 intro ro T G N M id ops st Q hT hG hd h c0 w0 c w a hs
 obtain⟨s,ks,val,h1,h2,h3,h4,h5⟩:=Znk hT hG ops.toList 0 st (by simp) h
 have hc:Chain P G N M ops s ks val:=⟨λi o ho=>h3 i o (aT _) ho,λi o t ho=>h4 i o t (aT _) ho,λi o t ho=>h5 i o t (aT _) ho⟩
 have hs:=hs.drew
 refine Qvc hm ?_
 obtain⟨d,g1,g2,g3,g4⟩:=Na G ops _ 0 rfl (aT _)
 have hz:∀i,(Array.replicate ops.size false).getD i false=false:=λi=>by
  by_cases h:i<ops.size
  ·simp[aP,h]
  ·simp[aP,h]
 refine yF hc hd (Q:=λe a' w'=>∃ex ju c',mW e=some ex/\Q ex ju/\fw N M c0 w0 c' w' ju a') (λc w a ji=>⟨_,_,c,rfl,by simpa using h2,ji⟩) ops.size _ a _ 0 d (by simp) (Wl _ _)
  ⟨g1,g2,λi hi=>by omega,λi _=>hz i,g3,g4,λj hj=>by simp[hz]at hj,hs.size,hs.defers,hs.gh,hs.gw,c,hs.mem,λr=>?_,λt=>?_,hs.reach⟩
 ·rw[Su (λi _=>hz _),h1];exact hs.rows r
 ·rw[Qu (λi _=>hz _),h1];exact hs.env t
