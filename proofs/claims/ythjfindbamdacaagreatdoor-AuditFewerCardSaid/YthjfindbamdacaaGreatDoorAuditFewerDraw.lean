import Derived.Test.YthjfindbamdacaaGreatDoorAuditFewerFt
open List renaming drop_eq_nil_of_le->aA,drop_eq_getElem_cons->aB,foldl_cons->aD,getD->aK,getElem?_eq_none->aM
open Array renaming getD_eq_getD_getElem?->aF,foldl_toList->aH,getElem?_eq_getElem->aJ,getD->aP,getElem?_setIfInBounds_ne->aQ
open Option renaming getD_some->aG,bind_some->aL,map_some->aR
open Bool renaming or_eq_true->aI,false_eq_true->aN,not_eq_true'->aS
open Nat renaming le_refl->aO,zero_le->aT
set_option linter.all false
namespace Go.GD
open Go
structure Chain(P:Program)(G:List bc)(N M:Nat)(ops:Array Oper)(s:Nat->St)(ks:Nat->List Nat)(val:Nat->D):Prop where
 op:∀(i:Nat) (o:Oper),ops[i]?=some o->nG P G M ops o (s i).env (s i).rows (ks i) (val i) (s (i+1)).rows
 env:∀(i:Nat) (o:Oper) (t:Nat),ops[i]?=some o->look (s (i+1)).env t=if o.dst=some t then val i else look (sr (ks i) (s i).env) t
 dst:∀(i:Nat) (o:Oper) (t:Nat),ops[i]?=some o->o.dst=some t->t<N
theorem Znt{P:Program}{T:fq}(hT:jB P T){G:List bc}(hG:jZ P G){N M:Nat}{ops:Array Oper}{K:St->Prop}:∀(l:List Oper) (k:Nat) (st:St),ops.toList.drop k=l->Qc T G N M ops l st K->
 ∃ (s:Nat->St) (ks:Nat->List Nat) (val:Nat->D),s k=st/\K (s (k+l.length))/\(∀(i:Nat) (o:Oper),k<=i->ops[i]?=some o->nG P G M ops o (s i).env (s i).rows (ks i) (val i) (s (i+1)).rows)/\
  (∀(i:Nat) (o:Oper) (t:Nat),k<=i->ops[i]?=some o->look (s (i+1)).env t=if o.dst=some t then val i else look (sr (ks i) (s i).env) t)/\(∀(i:Nat) (o:Oper) (t:Nat),k<=i->ops[i]?=some o->o.dst=some t->t<N)
 |[],k,st,hk,h=>by
  have hlen:ops.size<=k:=by
   have:=congrArg List.length hk
   simp at this;omega
  have no:∀(i:Nat) (o:Oper),k<=i->ops[i]?=some o->False:=λi o hi ho=>by
   have:=(Array.getElem?_eq_some_iff.1 ho).1;omega
  exact⟨λ_=>st,λ_=>[],λ_=>.dead,rfl,h,λi o hi ho=>(no i o hi ho).elim,λi o t hi ho=>(no i o hi ho).elim,λi o t hi ho=>(no i o hi ho).elim⟩
 |o ::l,k,st,hk,h=>by
  have cj:k<ops.toList.length:=by
   by_cases cj:k<ops.toList.length
   ·exact cj
   ·rw[aA (by omega)]at hk;cases hk
  rw[aB cj]at hk
  have ho:ops[k]?=some o:=by
   have:=(List.cons.inj hk).1
   rw[<-this]
   simp at cj
   simp[cj]
  obtain⟨kk,v,R',iM,h1,h2,h3,h4⟩:=Wp hT hG h
  obtain⟨s,ks,val,g1,g2,g3,g4,g5⟩:=Znt hT hG l (k+1) _ (List.cons.inj hk).2 h4
  refine⟨λi=>if i=k then st else s i,λi=>if i=k then kk else ks i,λi=>if i=k then v else val i,by simp,?_,λi p hi hp=>?_,λi p t hi hp=>?_,λi p t hi hp hd=>?_⟩
  ·simp only[List.length_cons]
   rw[if_neg (by omega),show k+(l.length+1)=k+1+l.length by omega]
   exact g2
  ·by_cases e:i=k
   ·subst e
    rw[ho]at hp;cases hp
    simp only[if_true,show¬i+1=i by omega,if_false,g1]
    exact h3
   ·simp only[if_neg e,if_neg (show¬i+1=k by omega)]
    exact g3 i p (by omega) hp
  ·by_cases e:i=k
   ·subst e
    rw[ho]at hp;cases hp
    simp only[if_true,show¬i+1=i by omega,if_false,g1]
    cases tY:o.dst with
    |none=>simp[ss,h1]
    |some u=>simp only[ss,Bq,Option.some.injEq,h1]
   ·simp only[if_neg e,if_neg (show¬i+1=k by omega)]
    exact g4 i p t (by omega) hp
  ·by_cases e:i=k
   ·subst e
    rw[ho]at hp;cases hp
    exact h2 t hd
   ·exact g5 i p t (by omega) hp hd
theorem Z4a(ops:Array Oper): ∀(l:List Oper) (acc:Array Nat),(∀k,acc.size<=k-> ∀i,(acc.getD k 0).testBit i=false)->
    ∀(listed:Nat->Prop),(∀(j:Nat) (hj:j<acc.size) (i:Nat),(∀o,ops[j]? =some o-> ∀e∈o.after,Region.binds .any e=true->listed e.on)->(acc.getD j 0).testBit i=true->listed i)->
    (∀j,listed j-> ∀o,ops[j]? =some o-> ∀e∈o.after,Region.binds .any e=true->listed e.on)->ops.toList.drop acc.size=l->
    ∀ (j i:Nat),(∀o,ops[j]? =some o-> ∀e∈o.after,Region.binds .any e=true->listed e.on)->
      ((l.foldl (λ(acc:Array Nat) o=>acc.push (o.after.foldl (λs e=>if Region.binds .any e then s|||2^e.on|||acc.getD e.on 0 else s) 0)) acc).getD j 0).testBit i=true->listed i
  | [],acc,hz,listed,EO,gm,hl,j,i,hj,h=>by
    simp only[List.foldl_nil]at h
    by_cases cj:j<acc.size
    . exact EO j cj i hj h
    . rw[hz j (by omega) i]at h;cases h
  | o :: l, acc,hz,listed,EO,gm,hl,j,i,hj,h=>by
    simp only[aD]at h
    have cj:acc.size<ops.toList.length:=by
      by_cases cj:acc.size<ops.toList.length
      . exact cj
      . rw[aA (by omega)]at hl;cases hl
    rw[aB cj]at hl
    have ho:ops[acc.size]? =some o:=by
      rw[<-(List.cons.inj hl).1]
      simp at cj
      simp [cj]
    refine Z4a ops l _ (λk hk i=> ?_) listed (λk hk i EP hb=> ?_) gm (by simpa using(List.cons.inj hl).2) j i hj h
    . simp at hk
      rw[aF,Array.getElem?_eq_none (by simp;omega)]
      simp
    . simp only [Array.size_push]at hk
      by_cases e:k=acc.size
      . subst e
        rw[aF,Array.getElem?_push_size,aG]at hb
        have iS:=EP o ho
        rw[<-aH]at hb
        have fold: ∀(es:List Edge) (s0:Nat),(∀e∈es,Region.binds .any e=true->listed e.on)->(s0.testBit i=true->listed i)->(es.foldl (λs e=>if Region.binds .any e then s|||2^e.on|||acc.getD e.on 0 else s) s0).testBit i=true->listed i:=by
          intro es
          induction es with
          |nil=>intro s0 _ h0 hb;exact h0 hb
          | cons e es ih=>
            intro s0 he h0 hb
            simp only[aD]at hb
            refine ih _ (λe' An=>he e' (by simp [An])) (λhs=> ?_) hb
            split at hs
            . rename_i Nj
              have hle:=he e (by simp) Nj
              simp only[Nat.testBit_or,aI,Nat.testBit_two_pow,decide_eq_true_eq]at hs
              rcases hs with(hs|hs)|hs
              . exact h0 hs
              . rw[<-hs];exact hle
              . by_cases cj:e.on<acc.size
                . exact EO e.on cj i (gm e.on hle) hs
                . rw[hz e.on (by omega) i]at hs;cases hs
            . exact h0 hs
        exact fold o.after.toList 0 (λe he hb=>iS e (by simpa using he) hb) (by simp) hb
      . have mY:k<acc.size:=by omega
        rw[aF,Array.getElem?_push_lt mY,<-aJ mY,<-aF]at hb
        exact EO k mY i EP hb
theorem SD{ops:Array Oper}{listed:Nat->Prop}(gm:∀j,listed j->∀o,ops[j]?=some o->∀e∈o.after,Region.binds .any e=true->listed e.on){j i:Nat}
 (hj:∀o,ops[j]?=some o->∀e∈o.after,Region.binds .any e=true->listed e.on) (h:((Region.before ops).getD j 0).testBit i=true):listed i:=by
 refine Z4a ops ops.toList #[] (λk _ i=>by simp) listed (λj hj=>by simp at hj) gm (by simp) j i hj ?_
 have:Region.before ops=ops.toList.foldl (λ(acc:Array Nat) o=>acc.push (o.after.foldl (λs e=>if Region.binds .any e then s|||2^e.on|||acc.getD e.on 0 else s) 0)) #[]:=by
  unfold Region.before
  rw[<-aH]
 rw[<-this];exact h
theorem Nk{G:List bc}{ops:Array Oper}(h:It G ops=true){i j:Nat}{x y:Oper}(Wq:i<j)(hx:ops[i]?=some x)(hy:ops[j]?=some y):
 (x.apart ops y=true\/((Region.before ops).getD j 0).testBit i=true)/\((lH G x.op=true/\lH G y.op=true)\/((Region.before ops).getD j 0).testBit i=true):=by
 have hj:=(Array.getElem?_eq_some_iff.1 hy).1
 have h1:=List.all_eq_true.1 h j (List.mem_range.2 hj)
 simp only[aE]at h1
 have h2:=List.all_eq_true.1 h1.2 i (List.mem_range.2 Wq)
 unfold BN at h2
 simp only[hx,hy,aE,aI]at h2
 exact h2
theorem Zlb{G:List bc}{ops:Array Oper}(h:It G ops=true){j:Nat}{y:Oper}(hy:ops[j]?=some y):∀e∈y.after,Region.binds .any e=true->e.on<j:=by
 have hj:=(Array.getElem?_eq_some_iff.1 hy).1
 have h1:=List.all_eq_true.1 h j (List.mem_range.2 hj)
 simp only[aE,hy]at h1
 intro e he hb
 have:=Array.all_eq_true'.1 h1.1 e he
 simp only[hb,Bool.not_true,Bool.false_or]at this
 exact lE this
theorem Wr{G:List bc}{o:Op}(h:lH G o=true):su G o=false:=by
 simpa[lH]using h
theorem Ws{P:Program}{G:List bc}{M:Nat}{ops:Array Oper}{o:Oper}{env:List (Nat×D)}{R:Rows}{ks:List Nat}{v:D}{R':Rows}(h:nG P G M ops o env R ks v R')(hq:lH G o.op=true):ks=[]/\∃news,R'=R++news:=by
 have one:pQ P G M o (bz env) R ks v R'->ks=[]/\∃news,R'=R++news:=λh=>by
  unfold pQ at h
  rw[Wr hq]at h
  exact⟨h.1,h.2.1⟩
 unfold nG at h
 split at h
 ·exact one h
 ·obtain⟨g,_,⟨b,_,h⟩|⟨_,h⟩⟩:=h
  ·split at h
   ·exact one h
   ·exact⟨h.1,[],by rw[h.2.2];simp⟩
  ·exact⟨h.1,[],by rw[h.2.2];simp⟩
def jf(ops:Array Oper)(s:Nat->St)(val:Nat->D)(dq:Nat->Bool)(c:Nat):Nat->Nat->D
 |0,t=>look (s c).env t
 |n+1,t=>if dq (c+n)=true/\(ops[c+n]?).bind (·.dst)=some t then val (c+n)else jf ops s val dq c n t
def kJ(s:Nat->St)(dq:Nat->Bool)(c:Nat):Nat->Nat->Option Row
 |0,r=>(s c).rows.getD r none
 |n+1,r=>if dq (c+n)=true/\(s (c+n)).rows.length<=r/\r<(s (c+n+1)).rows.length then(s (c+n+1)).rows.getD r none else kJ s dq c n r
theorem Chain.ER{P:Program}{G:List bc}{N M:Nat}{ops:Array Oper}{s:Nat->St}{ks:Nat->List Nat}{val:Nat->D}(hc:Chain P G N M ops s ks val){i:Nat}{o:Oper}(ho:ops[i]?=some o)(hq:lH G o.op=true)(t:Nat):look (s (i+1)).env t=if o.dst=some t then val i else look (s i).env t:=by
 rw[hc.env i o t ho,(Ws (hc.op i o ho) hq).1,pn]
theorem KG.toW{c c':Ctx}{w w':World}{R R':Rows}(hs:KG c w R R' c' w'):lW c w c' w':=
 ⟨hs.mem,hs.cf,hs.fr.mono (λb _ hf=>hf.elim),hs.fu,λr ak nH hv=>by
  by_cases h1:R.length<=r/\r<R'.length
  ·exact .inr (hs.new r h1.1 h1.2 hv)
  ·rw[hs.rows,if_neg h1]at nH
   obtain⟨h2,h3⟩:=hs.jC r (by omega)
   exact .inl ⟨⟨_,nH⟩,λe=>hv (h3.2 e),h2⟩⟩
theorem Qn9{R news:Rows}{r:Nat}(h:r<R.length):(R++news).getD r none=R.getD r none:=by
 simp[aK,List.getElem?_append_left h]
section
variable {P:Program} {G:List bc} {N M:Nat} {ops:Array Oper} {s:Nat->St} {ks:Nat->List Nat} {val:Nat->D} (hc:Chain P G N M ops s ks val) (mN:It G ops=true)
include hc
theorem Z32{c d:Nat}(hq:∀(i:Nat) (o:Oper),c<=i->i<d->ops[i]?=some o->lH G o.op=true)(hd:d<=ops.size){k:Nat}(hk:c<=k):∀{l:Nat},k<=l->l<=d->∃news,(s l).rows=(s k).rows++news:=by
 intro l hl
 induction l with
 |zero=>intro _;exact⟨[],by rw[show k=0 by omega];simp⟩
 |succ l ih=>
  intro DP
  by_cases e:k=l+1
  ·exact⟨[],by rw[e];simp⟩
  ·obtain⟨n1,h1⟩:=ih (by omega) (by omega)
   have ho:ops[l]?=some ops[l]:=aJ (by omega)
   obtain⟨_,n2,h2⟩:=Ws (hc.op l _ ho) (hq l _ (by omega) (by omega) ho)
   exact⟨n1++n2,by rw[h2,h1,List.append_assoc]⟩
theorem KH{c d:Nat}(hq:∀(i:Nat) (o:Oper),c<=i->i<d->ops[i]?=some o->lH G o.op=true)(hd:d<=ops.size){k l:Nat}(hk:c<=k)(hl:k<=l)(DP:l<=d):(s k).rows.length<=(s l).rows.length:=by
 obtain⟨n,h⟩:=Z32 hc hq hd hk hl DP
 rw[h];simp
theorem KI{c d:Nat}(hq:∀(i:Nat) (o:Oper),c<=i->i<d->ops[i]?=some o->lH G o.op=true)(hd:d<=ops.size){k l:Nat}(hk:c<=k)(hl:k<=l)(DP:l<=d){r:Nat}(hr:r<(s k).rows.length):(s l).rows.getD r none=(s k).rows.getD r none:=by
 obtain⟨n,h⟩:=Z32 hc hq hd hk hl DP
 rw[h,Qn9 hr]
theorem SE{dq:Nat->Bool}{c d:Nat}(hq:∀(i:Nat) (o:Oper),c<=i->i<d->ops[i]?=some o->lH G o.op=true)(hd:d<=ops.size):∀{n:Nat},c+n<=d->(∀i,i<n->dq (c+i)=true)->∀t,jf ops s val dq c n t=look (s (c+n)).env t
 |0,_,_,t=>rfl
 |n+1,hn,hl,t=>by
  have ho:ops[c+n]?=some ops[c+n]:=aJ (by omega)
  simp only[jf,hl n (by omega),true_and,ho,aL]
  rw[show c+(n+1)=(c+n)+1 by omega,hc.ER ho (hq _ _ (by omega) (by omega) ho) t]
  split
  ·rfl
  ·exact SE hq hd (by omega) (λi hi=>hl i (by omega)) t
theorem SF{dq:Nat->Bool}{c d:Nat}(hq:∀(i:Nat) (o:Oper),c<=i->i<d->ops[i]?=some o->lH G o.op=true)(hd:d<=ops.size):∀{n:Nat},c+n<=d->(∀i,i<n->dq (c+i)=true)->∀r,kJ s dq c n r=(s (c+n)).rows.getD r none
 |0,_,_,r=>rfl
 |n + 1,hn,hl,r=>by
  simp only[kJ,hl n (by omega),true_and]
  rw[show c+(n+1)=c+n+1 by omega]
  split
  ·rfl
  ·rename_i h1
   rw[SF hq hd (by omega) (λi hi=>hl i (by omega)) r]
   by_cases h2:r<(s (c+n)).rows.length
   ·exact(KI hc hq hd (by omega) (by omega) (by omega) h2).symm
   ·have hlen:=KH hc hq hd (show c<=c+n by omega) (show c+n<=c+n+1 by omega) (by omega)
    simp only[aK]
    rw[aM (by omega),aM (by omega)]
end
theorem SG{ops:Array Oper}{s:Nat->St}{val:Nat->D}{dq:Nat->Bool}{c:Nat}:∀{n:Nat},(∀i,i<n->dq (c+i)=false)->∀t,jf ops s val dq c n t=look (s c).env t
 |0,_,t=>rfl
 |n+1,hl,t=>by
  simp only[jf,hl n (by omega),aN,false_and,if_false]
  exact SG (λi hi=>hl i (by omega)) t
theorem SH{s:Nat->St}{dq:Nat->Bool}{c:Nat}:∀{n:Nat},(∀i,i<n->dq (c+i)=false)->∀r,kJ s dq c n r=(s c).rows.getD r none
 |0,_,r=>rfl
 |n+1,hl,r=>by
  simp only[kJ,hl n (by omega),aN,false_and,if_false]
  exact SH (λi hi=>hl i (by omega)) r
theorem SI{ops:Array Oper}{s:Nat->St}{val:Nat->D}{dq gl:Nat->Bool}{c:Nat}:∀{n:Nat},(∀i,i<n->gl (c+i)=dq (c+i))->∀t,jf ops s val gl c n t=jf ops s val dq c n t
 |0,_,t=>rfl
 |n+1,hl,t=>by simp only[jf,hl n (by omega),SI (n:=n) (λi hi=>hl i (by omega)) t]
theorem SJ{s:Nat->St}{dq gl:Nat->Bool}{c:Nat}:∀{n:Nat},(∀i,i<n->gl (c+i)=dq (c+i))->∀r,kJ s gl c n r=kJ s dq c n r
 |0,_,r=>rfl
 |n+1,hl,r=>by simp only[kJ,hl n (by omega),SJ (n:=n) (λi hi=>hl i (by omega)) r]
theorem Wt{ops:Array Oper}{s:Nat->St}{val:Nat->D}{dq gl:Nat->Bool}{c i:Nat}{o:Oper}(ho:ops[i]? =some o)(pR:c<=i)(h0:dq i=false)(h1:gl i=true)(h2: ∀k,k≠i->gl k=dq k){t:Nat}
    (sx: ∀k o',i<k->dq k=true->ops[k]? =some o'->o'.dst=some t->o.dst=some t->False): ∀{n:Nat},i<c+n->jf ops s val gl c n t=if o.dst=some t then val i else jf ops s val dq c n t
  |0,h=>by omega
  | n + 1,h=>by
    by_cases e:i=c+n
    . simp only[jf,<-e,h0,h1,ho,aL,true_and,aN,false_and,if_false]
      split
      . rfl
      . exact SI (λk hk=>h2 _ (by omega)) t
    . simp only[jf,h2 (c+n) (λe'=>e e'.symm)]
      rw[Wt ho pR h0 h1 h2 sx (n:=n) (by omega)]
      by_cases g:dq (c+n)=true/\(ops[c+n]?).bind (·.dst)=some t
      . by_cases hd:o.dst=some t
        . exfalso
          obtain⟨g1,g2⟩:=g
          cases hk:ops[c+n]? with
          |none=>rw[hk]at g2;cases g2
          | some o'=>
            rw[hk]at g2
            exact sx (c+n) o' (by omega) g1 hk g2 hd
        . rw[if_pos g,if_neg hd,if_pos g]
      . rw[if_neg g,if_neg g]
theorem Wu{s:Nat->St}{dq gl:Nat->Bool}{c i:Nat}(pR:c<=i)(h0:dq i=false)(h1:gl i=true)(h2:∀k,k≠i->gl k=dq k){r d:Nat}
 (hlen:∀k,i<k->k<d->(s (i+1)).rows.length<=(s k).rows.length):∀{n:Nat},i<c+n->c+n<=d->kJ s gl c n r=if(s i).rows.length<=r/\r<(s (i+1)).rows.length then(s (i+1)).rows.getD r none else kJ s dq c n r
 |0,h,_=>by omega
 |n +1,h,hn=>by
  by_cases e:i=c+n
  ·simp only[kJ,<-e,h0,h1,true_and,aN,false_and,if_false]
   split
   ·rfl
   ·exact SJ (λk hk=>h2 _ (by omega)) r
  ·simp only[kJ,h2 (c+n) (λe'=>e e'.symm)]
   rw[Wu pR h0 h1 h2 hlen (n:=n) (by omega) (by omega)]
   have:=hlen (c+n) (by omega) (by omega)
   by_cases g:dq (c+n)=true/\(s (c+n)).rows.length<=r/\r<(s (c+n+1)).rows.length
   ·rw[if_pos g,if_neg (by omega),if_pos g]
   ·rw[if_neg g,if_neg g]
theorem Gs{ops:Array Oper}{x y:Oper}(h:x.apart ops y=true){t:Nat}:(x.dst=some t->y.dst≠some t)/\(x.dst=some t->t∉y.looksAt ops)/\(y.dst=some t->t∉x.looksAt ops):=by
 obtain⟨h1,h2,h3⟩:=Oper.apart_spec h
 exact⟨λe=>h2 t e,λe=>h1 t e,λe=>h3 t e⟩
structure Inv(P:Program)(G:List bc)(N M:Nat)(ops:Array Oper)(s:Nat->St)(val:Nat->D)(c0:Ctx)(w0:World)(dq:Nat->Bool)(a:Act)(w:World)(c d:Nat):Prop where
 cd:c<=d
 dn:d<=ops.size
 pre:∀i,i<c->dq i=true
 post:∀i,d<=i->dq i=false
 quiet:∀(i:Nat) (o:Oper),c<=i->i<d->ops[i]?=some o->lH G o.op=true
 wr:∀(o:Oper),ops[d]?=some o->lH G o.op=false
 closed:∀j,dq j=true->∀(o:Oper),ops[j]?=some o->∀e∈o.after,Region.binds .any e=true->dq e.on=true
 size:N<=a.tmps.size
 defers:mi w0.heap.size w a.defers
 gj:c0.base<=w0.heap.size
 gw:∀r row,c0.R r=some row->r<M
 ctx:∃cx,Mem cx w/\(∀r,cx.R r=kJ s dq c (d-c) r)/\(∀t,Rep cx w (jf ops s val dq c (d-c) t) (a.tmps.getD t undef))/\Ao c0 w0 cx w
theorem Nl(G:List bc)(ops:Array Oper):∀(n c:Nat),ops.size-c=n->c<=ops.size->∃d,c<=d/\d<=ops.size/\(∀(i:Nat) (o:Oper),c<=i->i<d->ops[i]?=some o->lH G o.op=true)/\(∀(o:Oper),ops[d]?=some o->lH G o.op=false)
 |0,c,h,hc=>⟨c,aO _,hc,λi o h1 h2=>by omega,λo ho=>by
  have:=(Array.getElem?_eq_some_iff.1 ho).1;omega⟩
 |n +1,c,h,hc=>by
  have ho:ops[c]?=some ops[c]:=aJ (by omega)
  cases hq:lH G ops[c].op with
  |false=>exact⟨c,aO _,hc,λi o h1 h2=>by omega,λo h'=>by rw[ho]at h';cases h';exact hq⟩
  |true=>
   obtain⟨d,h1,h2,h3,h4⟩:=Nl G ops n (c+1) (by omega) (by omega)
   refine⟨d,by omega,h2,λi o hi hid h'=>?_,h4⟩
   by_cases e:i=c
   ·subst e;rw[ho]at h';cases h';exact hq
   ·exact h3 i o (by omega) hid h'
section
variable {P:Program} {G:List bc} {N M:Nat} {ops:Array Oper} {s:Nat->St} {ks:Nat->List Nat} {val:Nat->D} (hc:Chain P G N M ops s ks val) (mN:It G ops=true)
include hc mN
theorem xF{c0:Ctx}{w0:World}{dq gl:Nat->Bool}{a:Act}{w:World}{c d i:Nat}{o:Oper}(hI:Inv P G N M ops s val c0 w0 dq a w c d)(ho:ops[i]?=some o)(h0:dq i=false)(h1:gl i=true)(h2:∀k,k≠i->gl k=dq k)
 (Nn:∀e∈o.after,Region.binds .any e=true->dq e.on=true) {K:Act->World->Prop} {Q:Exit->Act->World->Prop} (hK:∀a' w' c' d',Inv P G N M ops s val c0 w0 gl a' w' c' d'->K a' w'):wpOp P ops Q i K a w:=by
 have cj:=(Array.getElem?_eq_some_iff.1 ho).1
 have rj:∀k,((Region.before ops).getD i 0).testBit k=true->dq k=true:=λk hk=>
  SD (listed:=λk=>dq k=true) hI.closed (λo' jg=>by rw[ho]at jg;cases jg;exact Nn) hk
 have og:∀j k,dq j=true->((Region.before ops).getD j 0).testBit k=true->dq k=true:=λj k hj hk=>
  SD (listed:=λk=>dq k=true) hI.closed (hI.closed j hj) hk
 have pR:c<=i:=by
  by_cases h:c<=i
  ·exact h
  ·rw[hI.pre i (by omega)]at h0;cases h0
 have tZ:∀j,gl j=true->∀(o:Oper),ops[j]?=some o->∀e∈o.after,Region.binds .any e=true->gl e.on=true:=by
  intro j hj o' jg e he hb
  have gr:dq e.on=true:=by
   by_cases e':j=i
   ·subst e';rw[ho]at jg;cases jg;exact Nn e he hb
   ·rw[h2 j e']at hj;exact hI.closed j hj o' jg e he hb
  rw[h2 e.on (λe'=>by rw[e',h0]at gr;cases gr)]
  exact gr
 have hid:i<=d:=by
  by_cases h:i<=d
  ·exact h
  ·exfalso
   have BO:ops[d]?=some ops[d]:=aJ (by omega)
   have:=(Nk mN (show d<i by omega) BO ho).2
   rcases this with⟨hq,_⟩|hb
   ·rw[hI.wr _ BO]at hq;cases hq
   ·have:=rj d hb
    rw[hI.post d (aO _)]at this;cases this
 obtain⟨cx,hm,hR,hE,oh⟩:=hI.ctx
 by_cases e:i=d
 ·
  subst e
  have iS:∀k,k<i-c->dq (c+k)=true:=λk hk=>by
   have dz:ops[c+k]?=some ops[c+k]:=aJ (by omega)
   have:=(Nk mN (show c+k<i by omega) dz ho).2
   rcases this with⟨_,hq⟩|hb
   ·rw[hI.wr _ ho]at hq;cases hq
   ·exact rj _ hb
  have hs:fx N M c0 w0 cx w (s i) a:=by
   refine⟨hm,λr=>?_,λt=>?_,hI.size,hI.defers,hI.gj,hI.gw,oh⟩
   ·rw[hR,SF hc hI.quiet hI.dn (by omega) iS]
    rw[show c+(i-c)=i by omega]
   ·have:=hE t
    rw[SE hc hI.quiet hI.dn (by omega) iS]at this
    rwa [show c+(i-c)=i by omega]at this
  refine zW ho hs (λ_=>rfl) (λt=>hc.dst i o t ho) (hc.op i o ho) λa' w' c' jl=>?_
  obtain⟨d',g1,g2,g3,g4⟩:=Nl G ops _ (i+1) rfl (by omega)
  have sx:∀k,k<d'-(i+1)->gl (i+1+k)=false:=λk hk=>by
   rw[h2 _ (by omega)];exact hI.post _ (by omega)
  refine hK a' w' (i+1) d' ⟨g1,g2,λk hk=>?_,λk hk=>?_,g3,g4,tZ,jl.size,jl.defers,jl.gj,jl.gw,c',jl.mem,λr=>?_,λt=>?_,jl.reach⟩
  ·by_cases e':k=i
   ·rw[e'];exact h1
   ·rw[h2 k e']
    by_cases Wv:k<c
    ·exact hI.pre k Wv
    ·have:=iS (k-c) (by omega)
     rwa [show c+(k-c)=k by omega]at this
  ·rw[h2 k (by omega)];exact hI.post k (by omega)
  ·rw[SH sx];exact jl.rows r
  ·rw[SG sx,hc.env i o t ho]
   have:=jl.env t
   cases hd:o.dst with
   |none=>simpa[ss,hd]using this
   |some u=>simpa only[ss,hd,Bq,Option.some.injEq]using this
 ·
  have Iu:i<d:=by omega
  have hq:=hI.quiet i o pR Iu ho
  have No:=Wr hq
  have Iv :∀t∈o.looksAt ops,∀n,c+n<=d->jf ops s val dq c n t=if c+n<=i then look (s (c+n)).env t else look (s i).env t:=by
   intro t ht n
   induction n with
   |zero=>intro _;simp only[jf,Nat.add_zero];rw[if_pos pR]
   |succ n ih=>
    intro hn
    have Iw:=hI.dn
    obtain⟨ok,dz⟩:∃ok,ops[c+n]?=some ok:=⟨_,aJ (show c+n<ops.size by omega)⟩
    have ih:=ih (by omega)
    simp only[jf,dz,aL]
    by_cases hk:c+n<i
    ·have hA:c+(n+1)<=i:=by omega
     have SK:c+n<=i:=by omega
     rw[if_pos hA,show c+(n+1)=c+n+1 by omega,hc.ER dz (hI.quiet _ _ (by omega) (by omega) dz) t]
     rw[if_pos SK]at ih
     by_cases hd:ok.dst=some t
     ·have hl:dq (c+n)=true:=by
       rcases(Nk mN hk dz ho).1 with ua|hb
       ·exact((Gs ua).2.1 hd ht).elim
       ·exact rj _ hb
      rw[if_pos ⟨hl,hd⟩,if_pos hd]
     ·rw[if_neg (λg=>hd g.2),if_neg hd,ih]
    ·have Ix:¬(dq (c+n)=true/\ok.dst=some t):=by
      rintro⟨g1,g2⟩
      by_cases e':c+n=i
      ·rw[e',h0]at g1;cases g1
      ·have oi:i<c+n:=by omega
       rcases(Nk mN oi ho dz).1 with ua|hb
       ·exact(Gs ua).2.2 g2 ht
       ·have:=og _ _ g1 hb
        rw[h0]at this;cases this
     have hA:¬c+(n+1)<=i:=by omega
     rw[if_neg Ix,ih,if_neg hA]
     split
     ·rw[show c+n=i by omega]
     ·rfl
  have Np:∀t∈o.looksAt ops,Rep cx w (look (s i).env t) (a.tmps.getD t undef):=λt ht=>by
   have:=hE t
   rw[Iv t ht (d-c) (by omega),if_neg (by omega)]at this
   exact this
  have hlen:∀k l,c<=k->k<=l->l<=d->(s k).rows.length<=(s l).rows.length:=λk l h1 h2 h3=>KH hc hI.quiet hI.dn h1 h2 h3
  have iY:∀k l,c<=k->k<=l->l<=d->∀r,r<(s k).rows.length->(s l).rows.getD r none=(s k).rows.getD r none:=λk l h1 h2 h3 r hr=>KI hc hI.quiet hI.dn h1 h2 h3 hr
  have BP:∀n,c+n<=d->∀r,r<(s i).rows.length->∀row,kJ s dq c n r=some row->(s i).rows.getD r none=some row:=by
   intro n
   induction n with
   |zero=>
    intro _ r hr row h
    simp only[kJ]at h
    by_cases Ww:r<(s c).rows.length
    ·rw[iY c i (aO _) pR (by omega) r Ww];exact h
    ·simp only[aK,aM (show(s c).rows.length<=r by omega)]at h;cases h
   |succ n ih=>
    intro hn r hr row h
    simp only[kJ]at h
    split at h
    ·rename_i g
     obtain⟨g1,g2,g3⟩:=g
     have Wx:c+n<i:=by
      by_cases mY:c+n<i
      ·exact mY
      ·by_cases e':c+n=i
       ·rw[e',h0]at g1;cases g1
       ·have:=hlen i (c+n) pR (by omega) (by omega);omega
     rw[iY (c+n+1) i (by omega) (by omega) (by omega) r g3];exact h
    ·exact ih (by omega) r hr row h
  have BQ:∀n,c+n<=d->∀r,(s i).rows.length<=r->r<(s (i+1)).rows.length->kJ s dq c n r=none:=by
   intro n
   induction n with
   |zero=>
    intro _ r h1 h2
    have:=hlen c i (aO _) pR (by omega)
    simp only[kJ,aK,aM (show(s c).rows.length<=r by omega),Option.getD_none]
   |succ n ih=>
    intro hn r h1 h2
    simp only[kJ]
    rw[if_neg]
    ·exact ih (by omega) r h1 h2
    ·rintro⟨g1,g2,g3⟩
     by_cases e':c+n=i
     ·rw[e',h0]at g1;cases g1
     ·by_cases mY:c+n<i
      ·have:=hlen (c+n+1) i (by omega) (by omega) (by omega);omega
      ·have:=hlen (i+1) (c+n) (by omega) (by omega) (by omega);omega
  have jm:cx.base<=w.heap.size:=by rw[oh.cf.base];exact Nat.le_trans hI.gj oh.fr.size
  have pq:mO cx (s i).rows:=λr row ak g1 g2=>by
   have hr:r<(s i).rows.length:=by
    by_cases h:r<(s i).rows.length
    ·exact h
    ·simp only[aK,aM (show(s i).rows.length<=r by omega)]at g2;cases g2
   rw[hR]at g1
   have:=BP (d-c) (by omega) r hr row g1
   rw[this]at g2;exact Option.some.inj g2
  have fin:∀v w' c',KG cx w (s i).rows (s (i+1)).rows c' w'->Rep c' w' (val i) v->K (a.put o.dst v) w':=by
   intro v w' c' hn hv
   refine hK _ w' c d ⟨hI.cd,hI.dn,λk hk=>by rw[h2 k (by omega)];exact hI.pre k hk,λk hk=>by rw[h2 k (by omega)];exact hI.post k hk,hI.quiet,hI.wr,tZ,?_,?_,hI.gj,hI.gw,c',hn.mem,λr=>?_,λt=>?_,oh.step (ks:=[]) (λk hk=>by simp[cb]at hk) hI.gw hn.toW.toK⟩
   ·cases hd:o.dst<;>simp[Act.put]<;>exact hI.size
   ·first|exact mi.put (hI.defers.step hm hn.fr)|exact mi.put (hI.defers.step hm hn.toW.fr)
   ·rw[hn.rows,hR,Wu pR h0 h1 h2 (d:=d) (λk oj rR=>hlen (i+1) k (by omega) (by omega) (by omega)) (by omega) (by omega)]
   ·have hl:∀k o',i<k->dq k=true->ops[k]?=some o'->o'.dst=some t->o.dst=some t->False:=by
     intro k o' oi hk dz Wy Wz
     rcases(Nk mN oi ho dz).1 with ua|hb
     ·exact(Gs ua).1 Wz Wy
     ·have:=og _ _ hk hb
      rw[h0]at this;cases this
    rw[Wt ho pR h0 h1 h2 hl (by omega)]
    have hold:=Ap hn.cf (hE t)
    cases hd:o.dst with
    |none=>simpa[Act.put,hd]using hold
    |some u=>
     have hu:=hc.dst i o u ho hd
     simp only[Act.put,Option.some.injEq]
     by_cases e':u=t
     ·subst e'
      have mY:u<a.tmps.size:=Nat.lt_of_lt_of_le hu hI.size
      rw[if_pos rfl]
      simpa[aP,mY]using hv
     ·rw[if_neg e']
      simpa[aQ e']using hold
  have skip:val i=.du []->(s (i+1)).rows=(s i).rows->K (a.put o.dst undef) w:=λe1 e2=>
   fin undef w cx ⟨hm,jn.refl _ _,Fr.refl _ _,λb hb=>.inl hb,λr=>by rw[e2,if_neg (by omega)],λ_ _=>⟨rfl,Iff.rfl⟩,λr g1 g2=>by rw[e2]at g2;omega⟩ (by rw[e1];exact SL _ _)
  have run:pQ P G M o (bz (s i).env) (s i).rows (ks i) (val i) (s (i+1)).rows->o.ny P a w K Q:=λhX=>by
   unfold pQ at hX
   rw[No]at hX
   refine hX.2.2 cx w a hm jm pq (λr g1 g2=>by rw[hR];exact BQ (d-c) (by omega) r g1 g2) (λx hx=>?_) K Q fin
   cases x with
   |tmp t=>
    refine Np t ?_
    unfold Oper.looksAt
    exact List.mem_append_left _ (List.mem_filterMap.2 ⟨.tmp t,by simpa using hx,rfl⟩)
   |const v=>
    simp only[bz,Act.eval]
    cases hv:Gt v with
    |none=>trivial
    |some d=>exact Nq hv cx w
   |global g=>trivial
   |func f=>exact KJ f
  have hG:=hc.op i o ho
  unfold wpOp
  simp only[ho]
  unfold nG at hG
  cases hg:o.guard with
  |none=>
   simp only[hg]at hG
   have hw:Region.wanted o (yielded ops a.tmps)=true:=by simp[Region.wanted,hg]
   rw[if_pos hw]
   exact run hG
  |some jw=>
   obtain⟨j,want⟩:=jw
   simp only[hg]at hG
   obtain⟨g,g2,hG⟩:=hG
   have hr:=Np g (by
    unfold Oper.looksAt
    refine List.mem_append_right _ ?_
    simp only[hg,g2];simp)
   rcases hG with⟨b,g3,g4⟩|⟨g3,_,e1,e2⟩
   rotate_left
   ·rw[g3]at hr
    rw[if_neg (by rw[SM (o:=o) hg g2 hr];simp)]
    exact skip e1 e2
   rw[g3]at hr
   have hw:=SN (o:=o) hg g2 hr
   by_cases e':b=want
   ·rw[if_pos e']at g4
    rw[if_pos (by rw[hw];simpa using e')]
    exact run g4
   ·rw[if_neg e']at g4
    rw[if_neg (by rw[hw];simpa using e')]
    exact skip g4.2.1 g4.2.2
end
def mZ(dq:Nat->Bool):Nat->Nat
 |0=>0
 |n+1=>(if dq n=true then 0 else 1)+mZ dq n
theorem WA(dq:Nat->Bool):∀n,mZ dq n<=n
 |0=>aO _
 |n+1=>by have:=WA dq n;simp only[mZ];split<;>omega
theorem WB{dq:Nat->Bool}:∀{n:Nat},mZ dq n=0->∀i,i<n->dq i=true
 |n +1,h,i,hi=>by
  simp only[mZ]at h
  by_cases e:i=n
  ·subst e
   cases hl:dq i with
   |true=>rfl
   |false=>rw[hl]at h;simp at h
  ·exact WB (n:=n) (by omega) i (by omega)
theorem Znm{dq gl:Nat->Bool}:∀{n:Nat},(∀i,i<n->gl i=dq i)->mZ gl n=mZ dq n
 |0,_=>rfl
 |n+1,h=>by simp only[mZ,h n (by omega),Znm (n:=n) (λi hi=>h i (by omega))]
theorem WC{dq gl:Nat->Bool}{i:Nat}(h0:dq i=false)(h1:gl i=true)(h2:∀k,k≠i->gl k=dq k):∀{n:Nat},i<n->mZ gl n+1=mZ dq n
 |n +1,h=>by
  simp only[mZ]
  by_cases e:i=n
  ·subst e
   rw[Znm (dq:=dq) (gl:=gl) (λk hk=>h2 k (by omega)),h0,h1]
   simp;omega
  ·rw[h2 n (λe'=>e e'.symm)]
   have:=WC h0 h1 h2 (n:=n) (by omega)
   omega
set_option linter.unusedSectionVars false
section
variable {P:Program} {G:List bc} {N M:Nat} {ops:Array Oper} {s:Nat->St} {ks:Nat->List Nat} {val:Nat->D} (hc:Chain P G N M ops s ks val) (mN:It G ops=true)
include hc mN
theorem Zmq{c0:Ctx}{w0:World}{dq:Nat->Bool}{a:Act}{w:World}{c d:Nat}(hI:Inv P G N M ops s val c0 w0 dq a w c d)(iS:∀i,i<ops.size->dq i=true):∃cx,fx N M c0 w0 cx w (s ops.size) a:=by
 obtain⟨cx,hm,hR,hE,oh⟩:=hI.ctx
 have hd:d=ops.size:=by
  by_cases h:d<ops.size
  ·have:=iS d h
   rw[hI.post d (aO _)]at this;cases this
  ·have:=hI.dn;omega
 subst hd
 have WD:=hI.cd
 have hl:∀k,k<ops.size-c->dq (c+k)=true:=λk hk=>iS _ (by omega)
 refine⟨cx,hm,λr=>?_,λt=>?_,hI.size,hI.defers,hI.gj,hI.gw,oh⟩
 ·rw[hR,SF hc hI.quiet hI.dn (by omega) hl,show c+(ops.size-c)=ops.size by omega]
 ·have:=hE t
  rw[SE hc hI.quiet hI.dn (by omega) hl]at this
  rwa [show c+(ops.size-c)=ops.size by omega]at this
theorem zF{c0:Ctx}{w0:World}{Q:Exit->Act->World->Prop}(hQ:∀c w a,fx N M c0 w0 c w (s ops.size) a->Q .normal a w):∀(fuel:Nat) (listed:Array Bool) (a:Act) (w:World) (c d:Nat),listed.size=ops.size->mZ (λi=>listed.getD i false) ops.size<=fuel->
 Inv P G N M ops s val c0 w0 (λi=>listed.getD i false) a w c d->Iy P .any ops Q fuel listed a w:=by
 intro fuel
 have Br:∀(listed:Array Bool) (i:Nat),listed.size=ops.size->(i∈Region.ready .any ops listed↔ ∃o,ops[i]?=some o/\listed.getD i false=false/\∀e∈o.after,Region.binds .any e=true->listed.getD e.on false=true):=by
  intro listed i ga
  unfold Region.ready
  rw[List.mem_filter,List.mem_range]
  constructor
  ·rintro⟨h1,h2⟩
   have ho:ops[i]?=some ops[i]:=aJ h1
   simp only[ho,aR,aG,aE,aS]at h2
   refine⟨_,ho,?_,λe he hb=>?_⟩
   ·have hl:i<listed.size:=by omega
    have:=h2.1
    simpa[aP,hl]using this
   ·have:=Array.all_eq_true'.1 h2.2 e he
    simpa[hb]using this
  ·rintro⟨o,ho,h1,h2⟩
   have cj:=(Array.getElem?_eq_some_iff.1 ho).1
   refine⟨cj,?_⟩
   simp only[ho,aR,aG,aE,aS]
   have hl:i<listed.size:=by omega
   refine⟨by simpa[aP,hl]using h1,Array.all_eq_true'.2 λe he=>?_⟩
   cases hb:Region.binds .any e with
   |false=>rfl
   |true=>simpa[hb]using h2 e he hb
 have ko:∀(listed:Array Bool),listed.size=ops.size->Region.ready .any ops listed=[]->∀i,i<ops.size->listed.getD i false=true:=by
  intro listed ga he i
  induction i using Nat.strongRecOn with
  |_ i ih=>
   intro hi
   cases hl:listed.getD i false with
   |true=>rfl
   |false=>
    exfalso
    have ho:ops[i]?=some ops[i]:=aJ hi
    have:i∈Region.ready .any ops listed:=(Br listed i ga).2 ⟨_,ho,hl,λe An hb=>by
     have:=Zlb mN ho e An hb
     exact ih e.on this (by omega)⟩
    rw[he]at this;cases this
 induction fuel with
 |zero=>
  intro listed a w c d ga BR hI
  have iS:=WB (dq:=λi=>listed.getD i false) (Nat.le_zero.1 BR)
  refine⟨?_,?_⟩
  ·rw[List.eq_nil_iff_forall_not_mem]
   intro i hi
   obtain⟨o,ho,h1,_⟩:=(Br listed i ga).1 hi
   have:=iS i (Array.getElem?_eq_some_iff.1 ho).1
   rw[h1]at this;cases this
  ·obtain⟨cx,hs⟩:=Zmq hc mN hI iS
   exact hQ cx w a hs
 |succ fuel ih=>
  intro listed a w c d ga BR hI
  refine⟨λhe=>?_,λi hi=>?_⟩
  ·obtain⟨cx,hs⟩:=Zmq hc mN hI (ko listed ga he)
   exact hQ cx w a hs
  ·obtain⟨o,ho,h1,h2⟩:=(Br listed i ga).1 hi
   have cj:=(Array.getElem?_eq_some_iff.1 ho).1
   have sA:(listed.setIfInBounds i true).getD i false=true:=by
    have hl:i<listed.size:=by omega
    simp[aP,hl]
   have sB:∀k,k≠i->(listed.setIfInBounds i true).getD k false=listed.getD k false:=λk hk=>by
    rw[aF,aQ (Ne.symm hk),<-aF]
   refine xF hc mN (gl:=λk=>(listed.setIfInBounds i true).getD k false) hI ho h1 sA sB h2 λa' w' c' d' WE=>?_
   refine ih _ a' w' c' d' (by simpa using ga) ?_ WE
   have:=WC (dq:=λk=>listed.getD k false) (gl:=λk=>(listed.setIfInBounds i true).getD k false) h1 sA sB cj
   omega
end
theorem fx.drew{N M:Nat}{c0:Ctx}{w0:World}{c:Ctx}{w:World}{st:St}{a:Act}(h:fx N M c0 w0 c w st a):fx N M c0 w0 c w.drew st a:=
 ⟨KK h.mem,h.rows,λt=>Ap (Nr c w) (h.env t),h.size,h.defers,h.gj,h.gw,h.reach.step (ks:=[]) (λk hk=>by simp[cb]at hk) h.gw
  (lW.toK ⟨KK h.mem,Nr c w,⟨rfl,rfl,rfl,aO _,λ_ _ _=>rfl⟩,λb hb=>.inl hb,λr row hr v=>.inl ⟨⟨row,hr⟩,v,rfl⟩⟩)⟩
theorem za{P:Program}(hm:P.follows .mixedOrders=true):∀(ro:Option Nat) (T:fq) (G:List bc) (N M id:Nat) (ops:Array Oper) (st:St) (Q:Ex->St->Prop),jB P T->jZ P G->It G ops=true->(Qc T G N M ops ops.toList st λst=>Q .normal st)->ub ro P N M (.region id ops true) st Q:=by
 intro ro T G N M id ops st Q hT hG hd h c0 w0 c w a hs
 obtain⟨s,ks,val,h1,h2,h3,h4,h5⟩:=Znt hT hG ops.toList 0 st (by simp) h
 have hc:Chain P G N M ops s ks val:=⟨λi o ho=>h3 i o (aT _) ho,λi o t ho=>h4 i o t (aT _) ho,λi o t ho=>h5 i o t (aT _) ho⟩
 have hs:=hs.drew
 refine Qum hm ?_
 obtain⟨d,g1,g2,g3,g4⟩:=Nl G ops _ 0 rfl (aT _)
 have hz:∀i,(Array.replicate ops.size false).getD i false=false:=λi=>by
  by_cases h:i<ops.size
  ·simp[aP,h]
  ·simp[aP,h]
 refine zF hc hd (Q:=λe a' w'=>∃ex jx c',na e=some ex/\Q ex jx/\fx N M c0 w0 c' w' jx a') (λc w a jl=>⟨_,_,c,rfl,by simpa using h2,jl⟩) ops.size _ a _ 0 d (by simp) (WA _ _)
  ⟨g1,g2,λi hi=>by omega,λi _=>hz i,g3,g4,λj hj=>by simp[hz]at hj,hs.size,hs.defers,hs.gj,hs.gw,c,hs.mem,λr=>?_,λt=>?_,hs.reach⟩
 ·rw[SH (λi _=>hz _),h1];exact hs.rows r
 ·rw[SG (λi _=>hz _),h1];exact hs.env t
