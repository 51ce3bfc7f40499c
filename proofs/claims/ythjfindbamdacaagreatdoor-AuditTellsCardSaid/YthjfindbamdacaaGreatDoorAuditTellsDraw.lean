import Derived.Test.YthjfindbamdacaaGreatDoorAuditTellsFt
open List renaming drop_eq_nil_of_le->aA,drop_eq_getElem_cons->aB,foldl_cons->aD,getD->aK,getElem?_eq_none->aM
open Array renaming getD_eq_getD_getElem?->aF,foldl_toList->aH,getElem?_eq_getElem->aJ,getD->aP,getElem?_setIfInBounds_ne->aQ
open Option renaming getD_some->aG,bind_some->aL,map_some->aR
open Bool renaming or_eq_true->aI,false_eq_true->aN,not_eq_true'->aS
open Nat renaming le_refl->aO,zero_le->aT
set_option linter.all false
namespace Go.GD
open Go
structure Chain(P:Program)(G:List bb)(N M:Nat)(ops:Array Oper)(s:Nat->St)(ks:Nat->List Nat)(val:Nat->D):Prop where
 op:∀(i:Nat) (o:Oper),ops[i]?=some o->nA P G M ops o (s i).env (s i).rows (ks i) (val i) (s (i+1)).rows
 env:∀(i:Nat) (o:Oper) (t:Nat),ops[i]?=some o->look (s (i+1)).env t=if o.dst=some t then val i else look (sr (ks i) (s i).env) t
 dst:∀(i:Nat) (o:Oper) (t:Nat),ops[i]?=some o->o.dst=some t->t<N
theorem Zni{P:Program}{T:fj}(hT:jF P T){G:List bb}(hG:j5 P G){N M:Nat}{ops:Array Oper}{K:St->Prop}:∀(l:List Oper) (k:Nat) (st:St),ops.toList.drop k=l->mf T G N M ops l st K->
 ∃ (s:Nat->St) (ks:Nat->List Nat) (val:Nat->D),s k=st/\K (s (k+l.length))/\(∀(i:Nat) (o:Oper),k<=i->ops[i]?=some o->nA P G M ops o (s i).env (s i).rows (ks i) (val i) (s (i+1)).rows)/\
  (∀(i:Nat) (o:Oper) (t:Nat),k<=i->ops[i]?=some o->look (s (i+1)).env t=if o.dst=some t then val i else look (sr (ks i) (s i).env) t)/\(∀(i:Nat) (o:Oper) (t:Nat),k<=i->ops[i]?=some o->o.dst=some t->t<N)
 |[],k,st,hk,h=>by
  have hlen:ops.size<=k:=by
   have:=congrArg List.length hk
   simp at this;omega
  have no:∀(i:Nat) (o:Oper),k<=i->ops[i]?=some o->False:=λi o hi ho=>by
   have:=(Array.getElem?_eq_some_iff.1 ho).1;omega
  exact⟨λ_=>st,λ_=>[],λ_=>.dead,rfl,h,λi o hi ho=>(no i o hi ho).elim,λi o t hi ho=>(no i o hi ho).elim,λi o t hi ho=>(no i o hi ho).elim⟩
 |o ::l,k,st,hk,h=>by
  have cq:k<ops.toList.length:=by
   by_cases cq:k<ops.toList.length
   ·exact cq
   ·rw[aA (by omega)]at hk;cases hk
  rw[aB cq]at hk
  have ho:ops[k]?=some o:=by
   have:=(List.cons.inj hk).1
   rw[<-this]
   simp at cq
   simp[cq]
  obtain⟨kk,v,R',iO,h1,h2,h3,h4⟩:=V0 hT hG h
  obtain⟨s,ks,val,g1,g2,g3,g4,g5⟩:=Zni hT hG l (k+1) _ (List.cons.inj hk).2 h4
  refine⟨λi=>if i=k then st else s i,λi=>if i=k then kk else ks i,λi=>if i=k then v else val i,by simp,?_,λi p hi hp=>?_,λi p t hi hp=>?_,λi p t hi hp hd=>?_⟩
  ·simp only[List.length_cons]
   rw[if_neg (by omega),show k+(l.length+1)=k+1+l.length by omega]
   exact g2
  ·by_cases e:i=k
   ·subst e
    rw[ho]at hp;cases hp
    simp only[if_true,show¬i+1=i by omega,if_false,g1]
    exact h3
   ·simp only[if_neg e,if_neg (show¬i+1=k by omega)]
    exact g3 i p (by omega) hp
  ·by_cases e:i=k
   ·subst e
    rw[ho]at hp;cases hp
    simp only[if_true,show¬i+1=i by omega,if_false,g1]
    cases tY:o.dst with
    |none=>simp[ss,h1]
    |some u=>simp only[ss,Bp,Option.some.injEq,h1]
   ·simp only[if_neg e,if_neg (show¬i+1=k by omega)]
    exact g4 i p t (by omega) hp
  ·by_cases e:i=k
   ·subst e
    rw[ho]at hp;cases hp
    exact h2 t hd
   ·exact g5 i p t (by omega) hp hd
theorem Z4w(ops:Array Oper): ∀(l:List Oper) (acc:Array Nat),(∀k,acc.size<=k-> ∀i,(acc.getD k 0).testBit i=false)->
    ∀(listed:Nat->Prop),(∀(j:Nat) (hj:j<acc.size) (i:Nat),(∀o,ops[j]? =some o-> ∀e∈o.after,Region.binds .any e=true->listed e.on)->(acc.getD j 0).testBit i=true->listed i)->
    (∀j,listed j-> ∀o,ops[j]? =some o-> ∀e∈o.after,Region.binds .any e=true->listed e.on)->ops.toList.drop acc.size=l->
    ∀ (j i:Nat),(∀o,ops[j]? =some o-> ∀e∈o.after,Region.binds .any e=true->listed e.on)->
      ((l.foldl (λ(acc:Array Nat) o=>acc.push (o.after.foldl (λs e=>if Region.binds .any e then s|||2^e.on|||acc.getD e.on 0 else s) 0)) acc).getD j 0).testBit i=true->listed i
  | [],acc,hz,listed,EO,gz,hl,j,i,hj,h=>by
    simp only[List.foldl_nil]at h
    by_cases cq:j<acc.size
    . exact EO j cq i hj h
    . rw[hz j (by omega) i]at h;cases h
  | o :: l, acc,hz,listed,EO,gz,hl,j,i,hj,h=>by
    simp only[aD]at h
    have cq:acc.size<ops.toList.length:=by
      by_cases cq:acc.size<ops.toList.length
      . exact cq
      . rw[aA (by omega)]at hl;cases hl
    rw[aB cq]at hl
    have ho:ops[acc.size]? =some o:=by
      rw[<-(List.cons.inj hl).1]
      simp at cq
      simp [cq]
    refine Z4w ops l _ (λk hk i=> ?_) listed (λk hk i EP hb=> ?_) gz (by simpa using(List.cons.inj hl).2) j i hj h
    . simp at hk
      rw[aF,Array.getElem?_eq_none (by simp;omega)]
      simp
    . simp only [Array.size_push]at hk
      by_cases e:k=acc.size
      . subst e
        rw[aF,Array.getElem?_push_size,aG]at hb
        have iV:=EP o ho
        rw[<-aH]at hb
        have fold: ∀(es:List Edge) (s0:Nat),(∀e∈es,Region.binds .any e=true->listed e.on)->(s0.testBit i=true->listed i)->(es.foldl (λs e=>if Region.binds .any e then s|||2^e.on|||acc.getD e.on 0 else s) s0).testBit i=true->listed i:=by
          intro es
          induction es with
          |nil=>intro s0 _ h0 hb;exact h0 hb
          | cons e es ih=>
            intro s0 he h0 hb
            simp only[aD]at hb
            refine ih _ (λe' Am=>he e' (by simp [Am])) (λhs=> ?_) hb
            split at hs
            . rename_i Nc
              have hle:=he e (by simp) Nc
              simp only[Nat.testBit_or,aI,Nat.testBit_two_pow,decide_eq_true_eq]at hs
              rcases hs with(hs|hs)|hs
              . exact h0 hs
              . rw[<-hs];exact hle
              . by_cases cq:e.on<acc.size
                . exact EO e.on cq i (gz e.on hle) hs
                . rw[hz e.on (by omega) i]at hs;cases hs
            . exact h0 hs
        exact fold o.after.toList 0 (λe he hb=>iV e (by simpa using he) hb) (by simp) hb
      . have mV:k<acc.size:=by omega
        rw[aF,Array.getElem?_push_lt mV,<-aJ mV,<-aF]at hb
        exact EO k mV i EP hb
theorem Sn{ops:Array Oper}{listed:Nat->Prop}(gz:∀j,listed j->∀o,ops[j]?=some o->∀e∈o.after,Region.binds .any e=true->listed e.on){j i:Nat}
 (hj:∀o,ops[j]?=some o->∀e∈o.after,Region.binds .any e=true->listed e.on) (h:((Region.before ops).getD j 0).testBit i=true):listed i:=by
 refine Z4w ops ops.toList #[] (λk _ i=>by simp) listed (λj hj=>by simp at hj) gz (by simp) j i hj ?_
 have:Region.before ops=ops.toList.foldl (λ(acc:Array Nat) o=>acc.push (o.after.foldl (λs e=>if Region.binds .any e then s|||2^e.on|||acc.getD e.on 0 else s) 0)) #[]:=by
  unfold Region.before
  rw[<-aH]
 rw[<-this];exact h
theorem Nd{G:List bb}{ops:Array Oper}(h:Ik G ops=true){i j:Nat}{x y:Oper}(V1:i<j)(hx:ops[i]?=some x)(hy:ops[j]?=some y):
 (x.apart ops y=true\/((Region.before ops).getD j 0).testBit i=true)/\((lH G x.op=true/\lH G y.op=true)\/((Region.before ops).getD j 0).testBit i=true):=by
 have hj:=(Array.getElem?_eq_some_iff.1 hy).1
 have h1:=List.all_eq_true.1 h j (List.mem_range.2 hj)
 simp only[aE]at h1
 have h2:=List.all_eq_true.1 h1.2 i (List.mem_range.2 V1)
 unfold BL at h2
 simp only[hx,hy,aE,aI]at h2
 exact h2
theorem Zk6{G:List bb}{ops:Array Oper}(h:Ik G ops=true){j:Nat}{y:Oper}(hy:ops[j]?=some y):∀e∈y.after,Region.binds .any e=true->e.on<j:=by
 have hj:=(Array.getElem?_eq_some_iff.1 hy).1
 have h1:=List.all_eq_true.1 h j (List.mem_range.2 hj)
 simp only[aE,hy]at h1
 intro e he hb
 have:=Array.all_eq_true'.1 h1.1 e he
 simp only[hb,Bool.not_true,Bool.false_or]at this
 exact lE this
theorem V2{G:List bb}{o:Op}(h:lH G o=true):su G o=false:=by
 simpa[lH]using h
theorem V3{P:Program}{G:List bb}{M:Nat}{ops:Array Oper}{o:Oper}{env:List (Nat×D)}{R:Rows}{ks:List Nat}{v:D}{R':Rows}(h:nA P G M ops o env R ks v R')(hq:lH G o.op=true):ks=[]/\∃news,R'=R++news:=by
 have one:pN P G M o (cb env) R ks v R'->ks=[]/\∃news,R'=R++news:=λh=>by
  unfold pN at h
  rw[V2 hq]at h
  exact⟨h.1,h.2.1⟩
 unfold nA at h
 split at h
 ·exact one h
 ·obtain⟨g,_,⟨b,_,h⟩|⟨_,h⟩⟩:=h
  ·split at h
   ·exact one h
   ·exact⟨h.1,[],by rw[h.2.2];simp⟩
  ·exact⟨h.1,[],by rw[h.2.2];simp⟩
def jj(ops:Array Oper)(s:Nat->St)(val:Nat->D)(dh:Nat->Bool)(c:Nat):Nat->Nat->D
 |0,t=>look (s c).env t
 |n+1,t=>if dh (c+n)=true/\(ops[c+n]?).bind (·.dst)=some t then val (c+n)else jj ops s val dh c n t
def kI(s:Nat->St)(dh:Nat->Bool)(c:Nat):Nat->Nat->Option Row
 |0,r=>(s c).rows.getD r none
 |n+1,r=>if dh (c+n)=true/\(s (c+n)).rows.length<=r/\r<(s (c+n+1)).rows.length then(s (c+n+1)).rows.getD r none else kI s dh c n r
theorem Chain.ER{P:Program}{G:List bb}{N M:Nat}{ops:Array Oper}{s:Nat->St}{ks:Nat->List Nat}{val:Nat->D}(hc:Chain P G N M ops s ks val){i:Nat}{o:Oper}(ho:ops[i]?=some o)(hq:lH G o.op=true)(t:Nat):look (s (i+1)).env t=if o.dst=some t then val i else look (s i).env t:=by
 rw[hc.env i o t ho,(V3 (hc.op i o ho) hq).1,o9]
theorem Kv.toW{c c':Ctx}{w w':World}{R R':Rows}(hs:Kv c w R R' c' w'):lU c w c' w':=
 ⟨hs.mem,hs.cj,hs.fr.mono (λb _ hf=>hf.elim),hs.fk,λr aq nB hv=>by
  by_cases h1:R.length<=r/\r<R'.length
  ·exact .inr (hs.new r h1.1 h1.2 hv)
  ·rw[hs.rows,if_neg h1]at nB
   obtain⟨h2,h3⟩:=hs.jG r (by omega)
   exact .inl ⟨⟨_,nB⟩,λe=>hv (h3.2 e),h2⟩⟩
theorem Qnj{R news:Rows}{r:Nat}(h:r<R.length):(R++news).getD r none=R.getD r none:=by
 simp[aK,List.getElem?_append_left h]
section
variable {P:Program} {G:List bb} {N M:Nat} {ops:Array Oper} {s:Nat->St} {ks:Nat->List Nat} {val:Nat->D} (hc:Chain P G N M ops s ks val) (mJ:Ik G ops=true)
include hc
theorem Z5b{c d:Nat}(hq:∀(i:Nat) (o:Oper),c<=i->i<d->ops[i]?=some o->lH G o.op=true)(hd:d<=ops.size){k:Nat}(hk:c<=k):∀{l:Nat},k<=l->l<=d->∃news,(s l).rows=(s k).rows++news:=by
 intro l hl
 induction l with
 |zero=>intro _;exact⟨[],by rw[show k=0 by omega];simp⟩
 |succ l ih=>
  intro DT
  by_cases e:k=l+1
  ·exact⟨[],by rw[e];simp⟩
  ·obtain⟨n1,h1⟩:=ih (by omega) (by omega)
   have ho:ops[l]?=some ops[l]:=aJ (by omega)
   obtain⟨_,n2,h2⟩:=V3 (hc.op l _ ho) (hq l _ (by omega) (by omega) ho)
   exact⟨n1++n2,by rw[h2,h1,List.append_assoc]⟩
theorem Kw{c d:Nat}(hq:∀(i:Nat) (o:Oper),c<=i->i<d->ops[i]?=some o->lH G o.op=true)(hd:d<=ops.size){k l:Nat}(hk:c<=k)(hl:k<=l)(DT:l<=d):(s k).rows.length<=(s l).rows.length:=by
 obtain⟨n,h⟩:=Z5b hc hq hd hk hl DT
 rw[h];simp
theorem Kx{c d:Nat}(hq:∀(i:Nat) (o:Oper),c<=i->i<d->ops[i]?=some o->lH G o.op=true)(hd:d<=ops.size){k l:Nat}(hk:c<=k)(hl:k<=l)(DT:l<=d){r:Nat}(hr:r<(s k).rows.length):(s l).rows.getD r none=(s k).rows.getD r none:=by
 obtain⟨n,h⟩:=Z5b hc hq hd hk hl DT
 rw[h,Qnj hr]
theorem So{dh:Nat->Bool}{c d:Nat}(hq:∀(i:Nat) (o:Oper),c<=i->i<d->ops[i]?=some o->lH G o.op=true)(hd:d<=ops.size):∀{n:Nat},c+n<=d->(∀i,i<n->dh (c+i)=true)->∀t,jj ops s val dh c n t=look (s (c+n)).env t
 |0,_,_,t=>rfl
 |n+1,hn,hl,t=>by
  have ho:ops[c+n]?=some ops[c+n]:=aJ (by omega)
  simp only[jj,hl n (by omega),true_and,ho,aL]
  rw[show c+(n+1)=(c+n)+1 by omega,hc.ER ho (hq _ _ (by omega) (by omega) ho) t]
  split
  ·rfl
  ·exact So hq hd (by omega) (λi hi=>hl i (by omega)) t
theorem Sp{dh:Nat->Bool}{c d:Nat}(hq:∀(i:Nat) (o:Oper),c<=i->i<d->ops[i]?=some o->lH G o.op=true)(hd:d<=ops.size):∀{n:Nat},c+n<=d->(∀i,i<n->dh (c+i)=true)->∀r,kI s dh c n r=(s (c+n)).rows.getD r none
 |0,_,_,r=>rfl
 |n + 1,hn,hl,r=>by
  simp only[kI,hl n (by omega),true_and]
  rw[show c+(n+1)=c+n+1 by omega]
  split
  ·rfl
  ·rename_i h1
   rw[Sp hq hd (by omega) (λi hi=>hl i (by omega)) r]
   by_cases h2:r<(s (c+n)).rows.length
   ·exact(Kx hc hq hd (by omega) (by omega) (by omega) h2).symm
   ·have hlen:=Kw hc hq hd (show c<=c+n by omega) (show c+n<=c+n+1 by omega) (by omega)
    simp only[aK]
    rw[aM (by omega),aM (by omega)]
end
theorem Sq{ops:Array Oper}{s:Nat->St}{val:Nat->D}{dh:Nat->Bool}{c:Nat}:∀{n:Nat},(∀i,i<n->dh (c+i)=false)->∀t,jj ops s val dh c n t=look (s c).env t
 |0,_,t=>rfl
 |n+1,hl,t=>by
  simp only[jj,hl n (by omega),aN,false_and,if_false]
  exact Sq (λi hi=>hl i (by omega)) t
theorem Sr{s:Nat->St}{dh:Nat->Bool}{c:Nat}:∀{n:Nat},(∀i,i<n->dh (c+i)=false)->∀r,kI s dh c n r=(s c).rows.getD r none
 |0,_,r=>rfl
 |n+1,hl,r=>by
  simp only[kI,hl n (by omega),aN,false_and,if_false]
  exact Sr (λi hi=>hl i (by omega)) r
theorem Ss{ops:Array Oper}{s:Nat->St}{val:Nat->D}{dh gg:Nat->Bool}{c:Nat}:∀{n:Nat},(∀i,i<n->gg (c+i)=dh (c+i))->∀t,jj ops s val gg c n t=jj ops s val dh c n t
 |0,_,t=>rfl
 |n+1,hl,t=>by simp only[jj,hl n (by omega),Ss (n:=n) (λi hi=>hl i (by omega)) t]
theorem Su{s:Nat->St}{dh gg:Nat->Bool}{c:Nat}:∀{n:Nat},(∀i,i<n->gg (c+i)=dh (c+i))->∀r,kI s gg c n r=kI s dh c n r
 |0,_,r=>rfl
 |n+1,hl,r=>by simp only[kI,hl n (by omega),Su (n:=n) (λi hi=>hl i (by omega)) r]
theorem V4{ops:Array Oper}{s:Nat->St}{val:Nat->D}{dh gg:Nat->Bool}{c i:Nat}{o:Oper}(ho:ops[i]? =some o)(pO:c<=i)(h0:dh i=false)(h1:gg i=true)(h2: ∀k,k≠i->gg k=dh k){t:Nat}
    (sw: ∀k o',i<k->dh k=true->ops[k]? =some o'->o'.dst=some t->o.dst=some t->False): ∀{n:Nat},i<c+n->jj ops s val gg c n t=if o.dst=some t then val i else jj ops s val dh c n t
  |0,h=>by omega
  | n + 1,h=>by
    by_cases e:i=c+n
    . simp only[jj,<-e,h0,h1,ho,aL,true_and,aN,false_and,if_false]
      split
      . rfl
      . exact Ss (λk hk=>h2 _ (by omega)) t
    . simp only[jj,h2 (c+n) (λe'=>e e'.symm)]
      rw[V4 ho pO h0 h1 h2 sw (n:=n) (by omega)]
      by_cases g:dh (c+n)=true/\(ops[c+n]?).bind (·.dst)=some t
      . by_cases hd:o.dst=some t
        . exfalso
          obtain⟨g1,g2⟩:=g
          cases hk:ops[c+n]? with
          |none=>rw[hk]at g2;cases g2
          | some o'=>
            rw[hk]at g2
            exact sw (c+n) o' (by omega) g1 hk g2 hd
        . rw[if_pos g,if_neg hd,if_pos g]
      . rw[if_neg g,if_neg g]
theorem V5{s:Nat->St}{dh gg:Nat->Bool}{c i:Nat}(pO:c<=i)(h0:dh i=false)(h1:gg i=true)(h2:∀k,k≠i->gg k=dh k){r d:Nat}
 (hlen:∀k,i<k->k<d->(s (i+1)).rows.length<=(s k).rows.length):∀{n:Nat},i<c+n->c+n<=d->kI s gg c n r=if(s i).rows.length<=r/\r<(s (i+1)).rows.length then(s (i+1)).rows.getD r none else kI s dh c n r
 |0,h,_=>by omega
 |n +1,h,hn=>by
  by_cases e:i=c+n
  ·simp only[kI,<-e,h0,h1,true_and,aN,false_and,if_false]
   split
   ·rfl
   ·exact Su (λk hk=>h2 _ (by omega)) r
  ·simp only[kI,h2 (c+n) (λe'=>e e'.symm)]
   rw[V5 pO h0 h1 h2 hlen (n:=n) (by omega) (by omega)]
   have:=hlen (c+n) (by omega) (by omega)
   by_cases g:dh (c+n)=true/\(s (c+n)).rows.length<=r/\r<(s (c+n+1)).rows.length
   ·rw[if_pos g,if_neg (by omega),if_pos g]
   ·rw[if_neg g,if_neg g]
theorem Gf{ops:Array Oper}{x y:Oper}(h:x.apart ops y=true){t:Nat}:(x.dst=some t->y.dst≠some t)/\(x.dst=some t->t∉y.looksAt ops)/\(y.dst=some t->t∉x.looksAt ops):=by
 obtain⟨h1,h2,h3⟩:=Oper.apart_spec h
 exact⟨λe=>h2 t e,λe=>h1 t e,λe=>h3 t e⟩
structure Inv(P:Program)(G:List bb)(N M:Nat)(ops:Array Oper)(s:Nat->St)(val:Nat->D)(c0:Ctx)(w0:World)(dh:Nat->Bool)(a:Act)(w:World)(c d:Nat):Prop where
 cd:c<=d
 dn:d<=ops.size
 pre:∀i,i<c->dh i=true
 post:∀i,d<=i->dh i=false
 quiet:∀(i:Nat) (o:Oper),c<=i->i<d->ops[i]?=some o->lH G o.op=true
 wr:∀(o:Oper),ops[d]?=some o->lH G o.op=false
 closed:∀j,dh j=true->∀(o:Oper),ops[j]?=some o->∀e∈o.after,Region.binds .any e=true->dh e.on=true
 size:N<=a.tmps.size
 defers:mg w0.heap.size w a.defers
 gb:c0.base<=w0.heap.size
 gq:∀r row,c0.R r=some row->r<M
 ctx:∃cx,Mem cx w/\(∀r,cx.R r=kI s dh c (d-c) r)/\(∀t,Rep cx w (jj ops s val dh c (d-c) t) (a.tmps.getD t undef))/\An c0 w0 cx w
theorem Nf(G:List bb)(ops:Array Oper):∀(n c:Nat),ops.size-c=n->c<=ops.size->∃d,c<=d/\d<=ops.size/\(∀(i:Nat) (o:Oper),c<=i->i<d->ops[i]?=some o->lH G o.op=true)/\(∀(o:Oper),ops[d]?=some o->lH G o.op=false)
 |0,c,h,hc=>⟨c,aO _,hc,λi o h1 h2=>by omega,λo ho=>by
  have:=(Array.getElem?_eq_some_iff.1 ho).1;omega⟩
 |n +1,c,h,hc=>by
  have ho:ops[c]?=some ops[c]:=aJ (by omega)
  cases hq:lH G ops[c].op with
  |false=>exact⟨c,aO _,hc,λi o h1 h2=>by omega,λo h'=>by rw[ho]at h';cases h';exact hq⟩
  |true=>
   obtain⟨d,h1,h2,h3,h4⟩:=Nf G ops n (c+1) (by omega) (by omega)
   refine⟨d,by omega,h2,λi o hi hid h'=>?_,h4⟩
   by_cases e:i=c
   ·subst e;rw[ho]at h';cases h';exact hq
   ·exact h3 i o (by omega) hid h'
section
variable {P:Program} {G:List bb} {N M:Nat} {ops:Array Oper} {s:Nat->St} {ks:Nat->List Nat} {val:Nat->D} (hc:Chain P G N M ops s ks val) (mJ:Ik G ops=true)
include hc mJ
theorem vC{c0:Ctx}{w0:World}{dh gg:Nat->Bool}{a:Act}{w:World}{c d i:Nat}{o:Oper}(hI:Inv P G N M ops s val c0 w0 dh a w c d)(ho:ops[i]?=some o)(h0:dh i=false)(h1:gg i=true)(h2:∀k,k≠i->gg k=dh k)
 (Ng:∀e∈o.after,Region.binds .any e=true->dh e.on=true) {K:Act->World->Prop} {Q:Exit->Act->World->Prop} (hK:∀a' w' c' d',Inv P G N M ops s val c0 w0 gg a' w' c' d'->K a' w'):wpOp P ops Q i K a w:=by
 have cq:=(Array.getElem?_eq_some_iff.1 ho).1
 have rj:∀k,((Region.before ops).getD i 0).testBit k=true->dh k=true:=λk hk=>
  Sn (listed:=λk=>dh k=true) hI.closed (λo' jd=>by rw[ho]at jd;cases jd;exact Ng) hk
 have oa:∀j k,dh j=true->((Region.before ops).getD j 0).testBit k=true->dh k=true:=λj k hj hk=>
  Sn (listed:=λk=>dh k=true) hI.closed (hI.closed j hj) hk
 have pO:c<=i:=by
  by_cases h:c<=i
  ·exact h
  ·rw[hI.pre i (by omega)]at h0;cases h0
 have tZ:∀j,gg j=true->∀(o:Oper),ops[j]?=some o->∀e∈o.after,Region.binds .any e=true->gg e.on=true:=by
  intro j hj o' jd e he hb
  have gl:dh e.on=true:=by
   by_cases e':j=i
   ·subst e';rw[ho]at jd;cases jd;exact Ng e he hb
   ·rw[h2 j e']at hj;exact hI.closed j hj o' jd e he hb
  rw[h2 e.on (λe'=>by rw[e',h0]at gl;cases gl)]
  exact gl
 have hid:i<=d:=by
  by_cases h:i<=d
  ·exact h
  ·exfalso
   have BM:ops[d]?=some ops[d]:=aJ (by omega)
   have:=(Nd mJ (show d<i by omega) BM ho).2
   rcases this with⟨hq,_⟩|hb
   ·rw[hI.wr _ BM]at hq;cases hq
   ·have:=rj d hb
    rw[hI.post d (aO _)]at this;cases this
 obtain⟨cx,hm,hR,hE,ob⟩:=hI.ctx
 by_cases e:i=d
 ·
  subst e
  have iV:∀k,k<i-c->dh (c+k)=true:=λk hk=>by
   have dw:ops[c+k]?=some ops[c+k]:=aJ (by omega)
   have:=(Nd mJ (show c+k<i by omega) dw ho).2
   rcases this with⟨_,hq⟩|hb
   ·rw[hI.wr _ ho]at hq;cases hq
   ·exact rj _ hb
  have hs:ft N M c0 w0 cx w (s i) a:=by
   refine⟨hm,λr=>?_,λt=>?_,hI.size,hI.defers,hI.gb,hI.gq,ob⟩
   ·rw[hR,Sp hc hI.quiet hI.dn (by omega) iV]
    rw[show c+(i-c)=i by omega]
   ·have:=hE t
    rw[So hc hI.quiet hI.dn (by omega) iV]at this
    rwa [show c+(i-c)=i by omega]at this
  refine zT ho hs (λ_=>rfl) (λt=>hc.dst i o t ho) (hc.op i o ho) λa' w' c' jn=>?_
  obtain⟨d',g1,g2,g3,g4⟩:=Nf G ops _ (i+1) rfl (by omega)
  have sw:∀k,k<d'-(i+1)->gg (i+1+k)=false:=λk hk=>by
   rw[h2 _ (by omega)];exact hI.post _ (by omega)
  refine hK a' w' (i+1) d' ⟨g1,g2,λk hk=>?_,λk hk=>?_,g3,g4,tZ,jn.size,jn.defers,jn.gb,jn.gq,c',jn.mem,λr=>?_,λt=>?_,jn.reach⟩
  ·by_cases e':k=i
   ·rw[e'];exact h1
   ·rw[h2 k e']
    by_cases V6:k<c
    ·exact hI.pre k V6
    ·have:=iV (k-c) (by omega)
     rwa [show c+(k-c)=k by omega]at this
  ·rw[h2 k (by omega)];exact hI.post k (by omega)
  ·rw[Sr sw];exact jn.rows r
  ·rw[Sq sw,hc.env i o t ho]
   have:=jn.env t
   cases hd:o.dst with
   |none=>simpa[ss,hd]using this
   |some u=>simpa only[ss,hd,Bp,Option.some.injEq]using this
 ·
  have Il:i<d:=by omega
  have hq:=hI.quiet i o pO Il ho
  have Nh:=V2 hq
  have Im :∀t∈o.looksAt ops,∀n,c+n<=d->jj ops s val dh c n t=if c+n<=i then look (s (c+n)).env t else look (s i).env t:=by
   intro t ht n
   induction n with
   |zero=>intro _;simp only[jj,Nat.add_zero];rw[if_pos pO]
   |succ n ih=>
    intro hn
    have Io:=hI.dn
    obtain⟨ok,dw⟩:∃ok,ops[c+n]?=some ok:=⟨_,aJ (show c+n<ops.size by omega)⟩
    have ih:=ih (by omega)
    simp only[jj,dw,aL]
    by_cases hk:c+n<i
    ·have hA:c+(n+1)<=i:=by omega
     have Sv:c+n<=i:=by omega
     rw[if_pos hA,show c+(n+1)=c+n+1 by omega,hc.ER dw (hI.quiet _ _ (by omega) (by omega) dw) t]
     rw[if_pos Sv]at ih
     by_cases hd:ok.dst=some t
     ·have hl:dh (c+n)=true:=by
       rcases(Nd mJ hk dw ho).1 with ua|hb
       ·exact((Gf ua).2.1 hd ht).elim
       ·exact rj _ hb
      rw[if_pos ⟨hl,hd⟩,if_pos hd]
     ·rw[if_neg (λg=>hd g.2),if_neg hd,ih]
    ·have Ip:¬(dh (c+n)=true/\ok.dst=some t):=by
      rintro⟨g1,g2⟩
      by_cases e':c+n=i
      ·rw[e',h0]at g1;cases g1
      ·have oc:i<c+n:=by omega
       rcases(Nd mJ oc ho dw).1 with ua|hb
       ·exact(Gf ua).2.2 g2 ht
       ·have:=oa _ _ g1 hb
        rw[h0]at this;cases this
     have hA:¬c+(n+1)<=i:=by omega
     rw[if_neg Ip,ih,if_neg hA]
     split
     ·rw[show c+n=i by omega]
     ·rfl
  have Ni:∀t∈o.looksAt ops,Rep cx w (look (s i).env t) (a.tmps.getD t undef):=λt ht=>by
   have:=hE t
   rw[Im t ht (d-c) (by omega),if_neg (by omega)]at this
   exact this
  have hlen:∀k l,c<=k->k<=l->l<=d->(s k).rows.length<=(s l).rows.length:=λk l h1 h2 h3=>Kw hc hI.quiet hI.dn h1 h2 h3
  have jb:∀k l,c<=k->k<=l->l<=d->∀r,r<(s k).rows.length->(s l).rows.getD r none=(s k).rows.getD r none:=λk l h1 h2 h3 r hr=>Kx hc hI.quiet hI.dn h1 h2 h3 hr
  have BN:∀n,c+n<=d->∀r,r<(s i).rows.length->∀row,kI s dh c n r=some row->(s i).rows.getD r none=some row:=by
   intro n
   induction n with
   |zero=>
    intro _ r hr row h
    simp only[kI]at h
    by_cases V7:r<(s c).rows.length
    ·rw[jb c i (aO _) pO (by omega) r V7];exact h
    ·simp only[aK,aM (show(s c).rows.length<=r by omega)]at h;cases h
   |succ n ih=>
    intro hn r hr row h
    simp only[kI]at h
    split at h
    ·rename_i g
     obtain⟨g1,g2,g3⟩:=g
     have V8:c+n<i:=by
      by_cases mV:c+n<i
      ·exact mV
      ·by_cases e':c+n=i
       ·rw[e',h0]at g1;cases g1
       ·have:=hlen i (c+n) pO (by omega) (by omega);omega
     rw[jb (c+n+1) i (by omega) (by omega) (by omega) r g3];exact h
    ·exact ih (by omega) r hr row h
  have BO:∀n,c+n<=d->∀r,(s i).rows.length<=r->r<(s (i+1)).rows.length->kI s dh c n r=none:=by
   intro n
   induction n with
   |zero=>
    intro _ r h1 h2
    have:=hlen c i (aO _) pO (by omega)
    simp only[kI,aK,aM (show(s c).rows.length<=r by omega),Option.getD_none]
   |succ n ih=>
    intro hn r h1 h2
    simp only[kI]
    rw[if_neg]
    ·exact ih (by omega) r h1 h2
    ·rintro⟨g1,g2,g3⟩
     by_cases e':c+n=i
     ·rw[e',h0]at g1;cases g1
     ·by_cases mV:c+n<i
      ·have:=hlen (c+n+1) i (by omega) (by omega) (by omega);omega
      ·have:=hlen (i+1) (c+n) (by omega) (by omega) (by omega);omega
  have jo:cx.base<=w.heap.size:=by rw[ob.cj.base];exact Nat.le_trans hI.gb ob.fr.size
  have pb:mK cx (s i).rows:=λr row aq g1 g2=>by
   have hr:r<(s i).rows.length:=by
    by_cases h:r<(s i).rows.length
    ·exact h
    ·simp only[aK,aM (show(s i).rows.length<=r by omega)]at g2;cases g2
   rw[hR]at g1
   have:=BN (d-c) (by omega) r hr row g1
   rw[this]at g2;exact Option.some.inj g2
  have fin:∀v w' c',Kv cx w (s i).rows (s (i+1)).rows c' w'->Rep c' w' (val i) v->K (a.put o.dst v) w':=by
   intro v w' c' hn hv
   refine hK _ w' c d ⟨hI.cd,hI.dn,λk hk=>by rw[h2 k (by omega)];exact hI.pre k hk,λk hk=>by rw[h2 k (by omega)];exact hI.post k hk,hI.quiet,hI.wr,tZ,?_,?_,hI.gb,hI.gq,c',hn.mem,λr=>?_,λt=>?_,ob.step (ks:=[]) (λk hk=>by simp[cf]at hk) hI.gq hn.toW.toK⟩
   ·cases hd:o.dst<;>simp[Act.put]<;>exact hI.size
   ·first|exact mg.put (hI.defers.step hm hn.fr)|exact mg.put (hI.defers.step hm hn.toW.fr)
   ·rw[hn.rows,hR,V5 pO h0 h1 h2 (d:=d) (λk od rR=>hlen (i+1) k (by omega) (by omega) (by omega)) (by omega) (by omega)]
   ·have hl:∀k o',i<k->dh k=true->ops[k]?=some o'->o'.dst=some t->o.dst=some t->False:=by
     intro k o' oc hk dw V9 Wa
     rcases(Nd mJ oc ho dw).1 with ua|hb
     ·exact(Gf ua).1 Wa V9
     ·have:=oa _ _ hk hb
      rw[h0]at this;cases this
    rw[V4 ho pO h0 h1 h2 hl (by omega)]
    have hold:=Ao hn.cj (hE t)
    cases hd:o.dst with
    |none=>simpa[Act.put,hd]using hold
    |some u=>
     have hu:=hc.dst i o u ho hd
     simp only[Act.put,Option.some.injEq]
     by_cases e':u=t
     ·subst e'
      have mV:u<a.tmps.size:=Nat.lt_of_lt_of_le hu hI.size
      rw[if_pos rfl]
      simpa[aP,mV]using hv
     ·rw[if_neg e']
      simpa[aQ e']using hold
  have skip:val i=.dt []->(s (i+1)).rows=(s i).rows->K (a.put o.dst undef) w:=λe1 e2=>
   fin undef w cx ⟨hm,jq.refl _ _,Fr.refl _ _,λb hb=>.inl hb,λr=>by rw[e2,if_neg (by omega)],λ_ _=>⟨rfl,Iff.rfl⟩,λr g1 g2=>by rw[e2]at g2;omega⟩ (by rw[e1];exact Sw _ _)
  have run:pN P G M o (cb (s i).env) (s i).rows (ks i) (val i) (s (i+1)).rows->o.nk P a w K Q:=λhX=>by
   unfold pN at hX
   rw[Nh]at hX
   refine hX.2.2 cx w a hm jo pb (λr g1 g2=>by rw[hR];exact BO (d-c) (by omega) r g1 g2) (λx hx=>?_) K Q fin
   cases x with
   |tmp t=>
    refine Ni t ?_
    unfold Oper.looksAt
    exact List.mem_append_left _ (List.mem_filterMap.2 ⟨.tmp t,by simpa using hx,rfl⟩)
   |const v=>
    simp only[cb,Act.eval]
    cases hv:Gg v with
    |none=>trivial
    |some d=>exact Nj hv cx w
   |global g=>trivial
   |func f=>exact Ky f
  have hG:=hc.op i o ho
  unfold wpOp
  simp only[ho]
  unfold nA at hG
  cases hg:o.guard with
  |none=>
   simp only[hg]at hG
   have hw:Region.wanted o (yielded ops a.tmps)=true:=by simp[Region.wanted,hg]
   rw[if_pos hw]
   exact run hG
  |some jw=>
   obtain⟨j,want⟩:=jw
   simp only[hg]at hG
   obtain⟨g,g2,hG⟩:=hG
   have hr:=Ni g (by
    unfold Oper.looksAt
    refine List.mem_append_right _ ?_
    simp only[hg,g2];simp)
   rcases hG with⟨b,g3,g4⟩|⟨g3,_,e1,e2⟩
   rotate_left
   ·rw[g3]at hr
    rw[if_neg (by rw[Sx (o:=o) hg g2 hr];simp)]
    exact skip e1 e2
   rw[g3]at hr
   have hw:=Sy (o:=o) hg g2 hr
   by_cases e':b=want
   ·rw[if_pos e']at g4
    rw[if_pos (by rw[hw];simpa using e')]
    exact run g4
   ·rw[if_neg e']at g4
    rw[if_neg (by rw[hw];simpa using e')]
    exact skip g4.2.1 g4.2.2
end
def mW(dh:Nat->Bool):Nat->Nat
 |0=>0
 |n+1=>(if dh n=true then 0 else 1)+mW dh n
theorem Wb(dh:Nat->Bool):∀n,mW dh n<=n
 |0=>aO _
 |n+1=>by have:=Wb dh n;simp only[mW];split<;>omega
theorem Wc{dh:Nat->Bool}:∀{n:Nat},mW dh n=0->∀i,i<n->dh i=true
 |n +1,h,i,hi=>by
  simp only[mW]at h
  by_cases e:i=n
  ·subst e
   cases hl:dh i with
   |true=>rfl
   |false=>rw[hl]at h;simp at h
  ·exact Wc (n:=n) (by omega) i (by omega)
theorem Zn3{dh gg:Nat->Bool}:∀{n:Nat},(∀i,i<n->gg i=dh i)->mW gg n=mW dh n
 |0,_=>rfl
 |n+1,h=>by simp only[mW,h n (by omega),Zn3 (n:=n) (λi hi=>h i (by omega))]
theorem Wd{dh gg:Nat->Bool}{i:Nat}(h0:dh i=false)(h1:gg i=true)(h2:∀k,k≠i->gg k=dh k):∀{n:Nat},i<n->mW gg n+1=mW dh n
 |n +1,h=>by
  simp only[mW]
  by_cases e:i=n
  ·subst e
   rw[Zn3 (dh:=dh) (gg:=gg) (λk hk=>h2 k (by omega)),h0,h1]
   simp;omega
  ·rw[h2 n (λe'=>e e'.symm)]
   have:=Wd h0 h1 h2 (n:=n) (by omega)
   omega
set_option linter.unusedSectionVars false
section
variable {P:Program} {G:List bb} {N M:Nat} {ops:Array Oper} {s:Nat->St} {ks:Nat->List Nat} {val:Nat->D} (hc:Chain P G N M ops s ks val) (mJ:Ik G ops=true)
include hc mJ
theorem Zn7{c0:Ctx}{w0:World}{dh:Nat->Bool}{a:Act}{w:World}{c d:Nat}(hI:Inv P G N M ops s val c0 w0 dh a w c d)(iV:∀i,i<ops.size->dh i=true):∃cx,ft N M c0 w0 cx w (s ops.size) a:=by
 obtain⟨cx,hm,hR,hE,ob⟩:=hI.ctx
 have hd:d=ops.size:=by
  by_cases h:d<ops.size
  ·have:=iV d h
   rw[hI.post d (aO _)]at this;cases this
  ·have:=hI.dn;omega
 subst hd
 have We:=hI.cd
 have hl:∀k,k<ops.size-c->dh (c+k)=true:=λk hk=>iV _ (by omega)
 refine⟨cx,hm,λr=>?_,λt=>?_,hI.size,hI.defers,hI.gb,hI.gq,ob⟩
 ·rw[hR,Sp hc hI.quiet hI.dn (by omega) hl,show c+(ops.size-c)=ops.size by omega]
 ·have:=hE t
  rw[So hc hI.quiet hI.dn (by omega) hl]at this
  rwa [show c+(ops.size-c)=ops.size by omega]at this
theorem qD{c0:Ctx}{w0:World}{Q:Exit->Act->World->Prop}(hQ:∀c w a,ft N M c0 w0 c w (s ops.size) a->Q .normal a w):∀(fuel:Nat) (listed:Array Bool) (a:Act) (w:World) (c d:Nat),listed.size=ops.size->mW (λi=>listed.getD i false) ops.size<=fuel->
 Inv P G N M ops s val c0 w0 (λi=>listed.getD i false) a w c d->Zl P .any ops Q fuel listed a w:=by
 intro fuel
 have Bq:∀(listed:Array Bool) (i:Nat),listed.size=ops.size->(i∈Region.ready .any ops listed↔ ∃o,ops[i]?=some o/\listed.getD i false=false/\∀e∈o.after,Region.binds .any e=true->listed.getD e.on false=true):=by
  intro listed i fv
  unfold Region.ready
  rw[List.mem_filter,List.mem_range]
  constructor
  ·rintro⟨h1,h2⟩
   have ho:ops[i]?=some ops[i]:=aJ h1
   simp only[ho,aR,aG,aE,aS]at h2
   refine⟨_,ho,?_,λe he hb=>?_⟩
   ·have hl:i<listed.size:=by omega
    have:=h2.1
    simpa[aP,hl]using this
   ·have:=Array.all_eq_true'.1 h2.2 e he
    simpa[hb]using this
  ·rintro⟨o,ho,h1,h2⟩
   have cq:=(Array.getElem?_eq_some_iff.1 ho).1
   refine⟨cq,?_⟩
   simp only[ho,aR,aG,aE,aS]
   have hl:i<listed.size:=by omega
   refine⟨by simpa[aP,hl]using h1,Array.all_eq_true'.2 λe he=>?_⟩
   cases hb:Region.binds .any e with
   |false=>rfl
   |true=>simpa[hb]using h2 e he hb
 have ku:∀(listed:Array Bool),listed.size=ops.size->Region.ready .any ops listed=[]->∀i,i<ops.size->listed.getD i false=true:=by
  intro listed fv he i
  induction i using Nat.strongRecOn with
  |_ i ih=>
   intro hi
   cases hl:listed.getD i false with
   |true=>rfl
   |false=>
    exfalso
    have ho:ops[i]?=some ops[i]:=aJ hi
    have:i∈Region.ready .any ops listed:=(Bq listed i fv).2 ⟨_,ho,hl,λe Am hb=>by
     have:=Zk6 mJ ho e Am hb
     exact ih e.on this (by omega)⟩
    rw[he]at this;cases this
 induction fuel with
 |zero=>
  intro listed a w c d fv BP hI
  have iV:=Wc (dh:=λi=>listed.getD i false) (Nat.le_zero.1 BP)
  refine⟨?_,?_⟩
  ·rw[List.eq_nil_iff_forall_not_mem]
   intro i hi
   obtain⟨o,ho,h1,_⟩:=(Bq listed i fv).1 hi
   have:=iV i (Array.getElem?_eq_some_iff.1 ho).1
   rw[h1]at this;cases this
  ·obtain⟨cx,hs⟩:=Zn7 hc mJ hI iV
   exact hQ cx w a hs
 |succ fuel ih=>
  intro listed a w c d fv BP hI
  refine⟨λhe=>?_,λi hi=>?_⟩
  ·obtain⟨cx,hs⟩:=Zn7 hc mJ hI (ku listed fv he)
   exact hQ cx w a hs
  ·obtain⟨o,ho,h1,h2⟩:=(Bq listed i fv).1 hi
   have cq:=(Array.getElem?_eq_some_iff.1 ho).1
   have sx:(listed.setIfInBounds i true).getD i false=true:=by
    have hl:i<listed.size:=by omega
    simp[aP,hl]
   have sA:∀k,k≠i->(listed.setIfInBounds i true).getD k false=listed.getD k false:=λk hk=>by
    rw[aF,aQ (Ne.symm hk),<-aF]
   refine vC hc mJ (gg:=λk=>(listed.setIfInBounds i true).getD k false) hI ho h1 sx sA h2 λa' w' c' d' Wf=>?_
   refine ih _ a' w' c' d' (by simpa using fv) ?_ Wf
   have:=Wd (dh:=λk=>listed.getD k false) (gg:=λk=>(listed.setIfInBounds i true).getD k false) h1 sx sA cq
   omega
end
theorem ft.drew{N M:Nat}{c0:Ctx}{w0:World}{c:Ctx}{w:World}{st:St}{a:Act}(h:ft N M c0 w0 c w st a):ft N M c0 w0 c w.drew st a:=
 ⟨Kz h.mem,h.rows,λt=>Ao (Nk c w) (h.env t),h.size,h.defers,h.gb,h.gq,h.reach.step (ks:=[]) (λk hk=>by simp[cf]at hk) h.gq
  (lU.toK ⟨Kz h.mem,Nk c w,⟨rfl,rfl,rfl,aO _,λ_ _ _=>rfl⟩,λb hb=>.inl hb,λr row hr v=>.inl ⟨⟨row,hr⟩,v,rfl⟩⟩)⟩
theorem za{P:Program}(hm:P.follows .mixedOrders=true):∀(ro:Option Nat) (T:fj) (G:List bb) (N M id:Nat) (ops:Array Oper) (st:St) (Q:Ex->St->Prop),jF P T->j5 P G->Ik G ops=true->(mf T G N M ops ops.toList st λst=>Q .normal st)->ub ro P N M (.region id ops true) st Q:=by
 intro ro T G N M id ops st Q hT hG hd h c0 w0 c w a hs
 obtain⟨s,ks,val,h1,h2,h3,h4,h5⟩:=Zni hT hG ops.toList 0 st (by simp) h
 have hc:Chain P G N M ops s ks val:=⟨λi o ho=>h3 i o (aT _) ho,λi o t ho=>h4 i o t (aT _) ho,λi o t ho=>h5 i o t (aT _) ho⟩
 have hs:=hs.drew
 refine Qw1 hm ?_
 obtain⟨d,g1,g2,g3,g4⟩:=Nf G ops _ 0 rfl (aT _)
 have hz:∀i,(Array.replicate ops.size false).getD i false=false:=λi=>by
  by_cases h:i<ops.size
  ·simp[aP,h]
  ·simp[aP,h]
 refine qD hc hd (Q:=λe a' w'=>∃ex jC c',mX e=some ex/\Q ex jC/\ft N M c0 w0 c' w' jC a') (λc w a jn=>⟨_,_,c,rfl,by simpa using h2,jn⟩) ops.size _ a _ 0 d (by simp) (Wb _ _)
  ⟨g1,g2,λi hi=>by omega,λi _=>hz i,g3,g4,λj hj=>by simp[hz]at hj,hs.size,hs.defers,hs.gb,hs.gq,c,hs.mem,λr=>?_,λt=>?_,hs.reach⟩
 ·rw[Sr (λi _=>hz _),h1];exact hs.rows r
 ·rw[Sq (λi _=>hz _),h1];exact hs.env t
