import Derived.Test.YtoijmgbahaekiaaGreatTopJournalFt
open List renaming drop_eq_nil_of_le->aA,drop_eq_getElem_cons->aB,foldl_cons->aD,getD->aK,getElem?_eq_none->aM
open Array renaming getD_eq_getD_getElem?->aF,foldl_toList->aH,getElem?_eq_getElem->aJ,getD->aP,getElem?_setIfInBounds_ne->aQ
open Option renaming getD_some->aG,bind_some->aL,map_some->aR
open Bool renaming or_eq_true->aI,false_eq_true->aN,not_eq_true'->aS
open Nat renaming le_refl->aO,zero_le->aT
set_option linter.all false
namespace Go.GD
open Go
structure Chain(P:Program)(G:List Q09)(N M:Nat)(ops:Array Oper)(s:Nat->St)(ks:Nat->List Nat)(val:Nat->D):Prop where
 op:∀(i:Nat) (o:Oper),ops[i]?=some o->GOp P G M ops o (s i).env (s i).rows (ks i) (val i) (s (i+1)).rows
 env:∀(i:Nat) (o:Oper) (t:Nat),ops[i]?=some o->look (s (i+1)).env t=if o.dst=some t then val i else look (Q7l (ks i) (s i).env) t
 dst:∀(i:Nat) (o:Oper) (t:Nat),ops[i]?=some o->o.dst=some t->t<N
theorem Z8w{P:Program}{T:Tab}(hT:Q34 P T){G:List Q09}(hG:Q57 P G){N M:Nat}{ops:Array Oper}{K:St->Prop}:∀(l:List Oper) (k:Nat) (st:St),ops.toList.drop k=l->Qa1 T G N M ops l st K->
 ∃ (s:Nat->St) (ks:Nat->List Nat) (val:Nat->D),s k=st/\K (s (k+l.length))/\(∀(i:Nat) (o:Oper),k<=i->ops[i]?=some o->GOp P G M ops o (s i).env (s i).rows (ks i) (val i) (s (i+1)).rows)/\
  (∀(i:Nat) (o:Oper) (t:Nat),k<=i->ops[i]?=some o->look (s (i+1)).env t=if o.dst=some t then val i else look (Q7l (ks i) (s i).env) t)/\(∀(i:Nat) (o:Oper) (t:Nat),k<=i->ops[i]?=some o->o.dst=some t->t<N)
 |[],k,st,hk,h=>by
  have hlen:ops.size<=k:=by
   have:=congrArg List.length hk
   simp at this;omega
  have no:∀(i:Nat) (o:Oper),k<=i->ops[i]?=some o->False:=λi o hi ho=>by
   have:=(Array.getElem?_eq_some_iff.1 ho).1;omega
  exact⟨λ_=>st,λ_=>[],λ_=>.dead,rfl,h,λi o hi ho=>(no i o hi ho).elim,λi o t hi ho=>(no i o hi ho).elim,λi o t hi ho=>(no i o hi ho).elim⟩
 |o ::l,k,st,hk,h=>by
  have hlt:k<ops.toList.length:=by
   by_cases hlt:k<ops.toList.length
   ·exact hlt
   ·rw[aA (by omega)]at hk;cases hk
  rw[aB hlt]at hk
  have ho:ops[k]?=some o:=by
   have:=(List.cons.inj hk).1
   rw[<-this]
   simp at hlt
   simp[hlt]
  obtain⟨kk,v,R',env1,h1,h2,h3,h4⟩:=Qvh hT hG h
  obtain⟨s,ks,val,g1,g2,g3,g4,g5⟩:=Z8w hT hG l (k+1) _ (List.cons.inj hk).2 h4
  refine⟨λi=>if i=k then st else s i,λi=>if i=k then kk else ks i,λi=>if i=k then v else val i,by simp,?_,λi p hi hp=>?_,λi p t hi hp=>?_,λi p t hi hp hd=>?_⟩
  ·simp only[List.length_cons]
   rw[if_neg (by omega),show k+(l.length+1)=k+1+l.length by omega]
   exact g2
  ·by_cases e:i=k
   ·subst e
    rw[ho]at hp;cases hp
    simp only[if_true,show¬i+1=i by omega,if_false,g1]
    exact h3
   ·simp only[if_neg e,if_neg (show¬i+1=k by omega)]
    exact g3 i p (by omega) hp
  ·by_cases e:i=k
   ·subst e
    rw[ho]at hp;cases hp
    simp only[if_true,show¬i+1=i by omega,if_false,g1]
    cases hdst:o.dst with
    |none=>simp[Qca,h1]
    |some u=>simp only[Qca,Q9e,Option.some.injEq,h1]
   ·simp only[if_neg e,if_neg (show¬i+1=k by omega)]
    exact g4 i p t (by omega) hp
  ·by_cases e:i=k
   ·subst e
    rw[ho]at hp;cases hp
    exact h2 t hd
   ·exact g5 i p t (by omega) hp hd
theorem Qua(ops:Array Oper): ∀(l:List Oper) (acc:Array Nat),(∀k,acc.size<=k-> ∀i,(acc.getD k 0).testBit i=false)->
    ∀(listed:Nat->Prop),(∀(j:Nat) (hj:j<acc.size) (i:Nat),(∀o,ops[j]? =some o-> ∀e∈o.after,Region.binds .any e=true->listed e.on)->(acc.getD j 0).testBit i=true->listed i)->
    (∀j,listed j-> ∀o,ops[j]? =some o-> ∀e∈o.after,Region.binds .any e=true->listed e.on)->ops.toList.drop acc.size=l->
    ∀ (j i:Nat),(∀o,ops[j]? =some o-> ∀e∈o.after,Region.binds .any e=true->listed e.on)->
      ((l.foldl (λ(acc:Array Nat) o=>acc.push (o.after.foldl (λs e=>if Region.binds .any e then s|||2^e.on|||acc.getD e.on 0 else s) 0)) acc).getD j 0).testBit i=true->listed i
  | [],acc,hz,listed,hacc,hcl,hl,j,i,hj,h=>by
    simp only[List.foldl_nil]at h
    by_cases hlt:j<acc.size
    . exact hacc j hlt i hj h
    . rw[hz j (by omega) i]at h;cases h
  | o :: l, acc,hz,listed,hacc,hcl,hl,j,i,hj,h=>by
    simp only[aD]at h
    have hlt:acc.size<ops.toList.length:=by
      by_cases hlt:acc.size<ops.toList.length
      . exact hlt
      . rw[aA (by omega)]at hl;cases hl
    rw[aB hlt]at hl
    have ho:ops[acc.size]? =some o:=by
      rw[<-(List.cons.inj hl).1]
      simp at hlt
      simp [hlt]
    refine Qua ops l _ (λk hk i=> ?_) listed (λk hk i hk' hb=> ?_) hcl (by simpa using(List.cons.inj hl).2) j i hj h
    . simp at hk
      rw[aF,Array.getElem?_eq_none (by simp;omega)]
      simp
    . simp only [Array.size_push]at hk
      by_cases e:k=acc.size
      . subst e
        rw[aF,Array.getElem?_push_size,aG]at hb
        have hall:=hk' o ho
        rw[<-aH]at hb
        have fold: ∀(es:List Edge) (s0:Nat),(∀e∈es,Region.binds .any e=true->listed e.on)->(s0.testBit i=true->listed i)->(es.foldl (λs e=>if Region.binds .any e then s|||2^e.on|||acc.getD e.on 0 else s) s0).testBit i=true->listed i:=by
          intro es
          induction es with
          |nil=>intro s0 _ h0 hb;exact h0 hb
          | cons e es ih=>
            intro s0 he h0 hb
            simp only[aD]at hb
            refine ih _ (λe' he'=>he e' (by simp [he'])) (λhs=> ?_) hb
            split at hs
            . rename_i hbind
              have hle:=he e (by simp) hbind
              simp only[Nat.testBit_or,aI,Nat.testBit_two_pow,decide_eq_true_eq]at hs
              rcases hs with(hs|hs)|hs
              . exact h0 hs
              . rw[<-hs];exact hle
              . by_cases hlt:e.on<acc.size
                . exact hacc e.on hlt i (hcl e.on hle) hs
                . rw[hz e.on (by omega) i]at hs;cases hs
            . exact h0 hs
        exact fold o.after.toList 0 (λe he hb=>hall e (by simpa using he) hb) (by simp) hb
      . have hlt':k<acc.size:=by omega
        rw[aF,Array.getElem?_push_lt hlt',<-aJ hlt',<-aF]at hb
        exact hacc k hlt' i hk' hb
theorem Qd8{ops:Array Oper}{listed:Nat->Prop}(hcl:∀j,listed j->∀o,ops[j]?=some o->∀e∈o.after,Region.binds .any e=true->listed e.on){j i:Nat}
 (hj:∀o,ops[j]?=some o->∀e∈o.after,Region.binds .any e=true->listed e.on) (h:((Region.before ops).getD j 0).testBit i=true):listed i:=by
 refine Qua ops ops.toList #[] (λk _ i=>by simp) listed (λj hj=>by simp at hj) hcl (by simp) j i hj ?_
 have:Region.before ops=ops.toList.foldl (λ(acc:Array Nat) o=>acc.push (o.after.foldl (λs e=>if Region.binds .any e then s|||2^e.on|||acc.getD e.on 0 else s) 0)) #[]:=by
  unfold Region.before
  rw[<-aH]
 rw[<-this];exact h
theorem Qeb{G:List Q09}{ops:Array Oper}(h:Qtz G ops=true){i j:Nat}{x y:Oper}(hij:i<j)(hx:ops[i]?=some x)(hy:ops[j]?=some y):
 (x.apart ops y=true\/((Region.before ops).getD j 0).testBit i=true)/\((Q27 G x.op=true/\Q27 G y.op=true)\/((Region.before ops).getD j 0).testBit i=true):=by
 have hj:=(Array.getElem?_eq_some_iff.1 hy).1
 have h1:=List.all_eq_true.1 h j (List.mem_range.2 hj)
 simp only[aE]at h1
 have h2:=List.all_eq_true.1 h1.2 i (List.mem_range.2 hij)
 unfold pairOK at h2
 simp only[hx,hy,aE,aI]at h2
 exact h2
theorem Z7a{G:List Q09}{ops:Array Oper}(h:Qtz G ops=true){j:Nat}{y:Oper}(hy:ops[j]?=some y):∀e∈y.after,Region.binds .any e=true->e.on<j:=by
 have hj:=(Array.getElem?_eq_some_iff.1 hy).1
 have h1:=List.all_eq_true.1 h j (List.mem_range.2 hj)
 simp only[aE,hy]at h1
 intro e he hb
 have:=Array.all_eq_true'.1 h1.1 e he
 simp only[hb,Bool.not_true,Bool.false_or]at this
 exact lE this
theorem Qhi{G:List Q09}{o:Op}(h:Q27 G o=true):isW G o=false:=by
 simpa[Q27]using h
theorem Qpo{P:Program}{G:List Q09}{M:Nat}{ops:Array Oper}{o:Oper}{env:List (Nat×D)}{R:Rows}{ks:List Nat}{v:D}{R':Rows}(h:GOp P G M ops o env R ks v R')(hq:Q27 G o.op=true):ks=[]/\∃news,R'=R++news:=by
 have one:OpX P G M o (evOp env) R ks v R'->ks=[]/\∃news,R'=R++news:=λh=>by
  unfold OpX at h
  rw[Qhi hq]at h
  exact⟨h.1,h.2.1⟩
 unfold GOp at h
 split at h
 ·exact one h
 ·obtain⟨g,_,⟨b,_,h⟩|⟨_,h⟩⟩:=h
  ·split at h
   ·exact one h
   ·exact⟨h.1,[],by rw[h.2.2];simp⟩
  ·exact⟨h.1,[],by rw[h.2.2];simp⟩
def envS(ops:Array Oper)(s:Nat->St)(val:Nat->D)(lst:Nat->Bool)(c:Nat):Nat->Nat->D
 |0,t=>look (s c).env t
 |n+1,t=>if lst (c+n)=true/\(ops[c+n]?).bind (·.dst)=some t then val (c+n)else envS ops s val lst c n t
def Q6t(s:Nat->St)(lst:Nat->Bool)(c:Nat):Nat->Nat->Option Row
 |0,r=>(s c).rows.getD r none
 |n+1,r=>if lst (c+n)=true/\(s (c+n)).rows.length<=r/\r<(s (c+n+1)).rows.length then(s (c+n+1)).rows.getD r none else Q6t s lst c n r
theorem Chain.envQ{P:Program}{G:List Q09}{N M:Nat}{ops:Array Oper}{s:Nat->St}{ks:Nat->List Nat}{val:Nat->D}(hc:Chain P G N M ops s ks val){i:Nat}{o:Oper}(ho:ops[i]?=some o)(hq:Q27 G o.op=true)(t:Nat):look (s (i+1)).env t=if o.dst=some t then val i else look (s i).env t:=by
 rw[hc.env i o t ho,(Qpo (hc.op i o ho) hq).1,Q17]
theorem Nxt.toW{c c':Ctx}{w w':World}{R R':Rows}(hs:Nxt c w R R' c' w'):NxtW c w c' w':=
 ⟨hs.mem,hs.grows,hs.fr.mono (λb _ hf=>hf.elim),hs.imm,λr row' hr' hv=>by
  by_cases h1:R.length<=r/\r<R'.length
  ·exact .inr (hs.new r h1.1 h1.2 hv)
  ·rw[hs.rows,if_neg h1]at hr'
   obtain⟨h2,h3⟩:=hs.old r (by omega)
   exact .inl ⟨⟨_,hr'⟩,λe=>hv (h3.2 e),h2⟩⟩
theorem Qi5{R news:Rows}{r:Nat}(h:r<R.length):(R++news).getD r none=R.getD r none:=by
 simp[aK,List.getElem?_append_left h]
section
variable {P:Program} {G:List Q09} {N M:Nat} {ops:Array Oper} {s:Nat->St} {ks:Nat->List Nat} {val:Nat->D} (hc:Chain P G N M ops s ks val) (hdr:Qtz G ops=true)
include hc
theorem Qun{c d:Nat}(hq:∀(i:Nat) (o:Oper),c<=i->i<d->ops[i]?=some o->Q27 G o.op=true)(hd:d<=ops.size){k:Nat}(hk:c<=k):∀{l:Nat},k<=l->l<=d->∃news,(s l).rows=(s k).rows++news:=by
 intro l hl
 induction l with
 |zero=>intro _;exact⟨[],by rw[show k=0 by omega];simp⟩
 |succ l ih=>
  intro hld
  by_cases e:k=l+1
  ·exact⟨[],by rw[e];simp⟩
  ·obtain⟨n1,h1⟩:=ih (by omega) (by omega)
   have ho:ops[l]?=some ops[l]:=aJ (by omega)
   obtain⟨_,n2,h2⟩:=Qpo (hc.op l _ ho) (hq l _ (by omega) (by omega) ho)
   exact⟨n1++n2,by rw[h2,h1,List.append_assoc]⟩
theorem Qkc{c d:Nat}(hq:∀(i:Nat) (o:Oper),c<=i->i<d->ops[i]?=some o->Q27 G o.op=true)(hd:d<=ops.size){k l:Nat}(hk:c<=k)(hl:k<=l)(hld:l<=d):(s k).rows.length<=(s l).rows.length:=by
 obtain⟨n,h⟩:=Qun hc hq hd hk hl hld
 rw[h];simp
theorem Qkm{c d:Nat}(hq:∀(i:Nat) (o:Oper),c<=i->i<d->ops[i]?=some o->Q27 G o.op=true)(hd:d<=ops.size){k l:Nat}(hk:c<=k)(hl:k<=l)(hld:l<=d){r:Nat}(hr:r<(s k).rows.length):(s l).rows.getD r none=(s k).rows.getD r none:=by
 obtain⟨n,h⟩:=Qun hc hq hd hk hl hld
 rw[h,Qi5 hr]
theorem Qts{lst:Nat->Bool}{c d:Nat}(hq:∀(i:Nat) (o:Oper),c<=i->i<d->ops[i]?=some o->Q27 G o.op=true)(hd:d<=ops.size):∀{n:Nat},c+n<=d->(∀i,i<n->lst (c+i)=true)->∀t,envS ops s val lst c n t=look (s (c+n)).env t
 |0,_,_,t=>rfl
 |n+1,hn,hl,t=>by
  have ho:ops[c+n]?=some ops[c+n]:=aJ (by omega)
  simp only[envS,hl n (by omega),true_and,ho,aL]
  rw[show c+(n+1)=(c+n)+1 by omega,hc.envQ ho (hq _ _ (by omega) (by omega) ho) t]
  split
  ·rfl
  ·exact Qts hq hd (by omega) (λi hi=>hl i (by omega)) t
theorem Qoj{lst:Nat->Bool}{c d:Nat}(hq:∀(i:Nat) (o:Oper),c<=i->i<d->ops[i]?=some o->Q27 G o.op=true)(hd:d<=ops.size):∀{n:Nat},c+n<=d->(∀i,i<n->lst (c+i)=true)->∀r,Q6t s lst c n r=(s (c+n)).rows.getD r none
 |0,_,_,r=>rfl
 |n + 1,hn,hl,r=>by
  simp only[Q6t,hl n (by omega),true_and]
  rw[show c+(n+1)=c+n+1 by omega]
  split
  ·rfl
  ·rename_i h1
   rw[Qoj hq hd (by omega) (λi hi=>hl i (by omega)) r]
   by_cases h2:r<(s (c+n)).rows.length
   ·exact(Qkm hc hq hd (by omega) (by omega) (by omega) h2).symm
   ·have hlen:=Qkc hc hq hd (show c<=c+n by omega) (show c+n<=c+n+1 by omega) (by omega)
    simp only[aK]
    rw[aM (by omega),aM (by omega)]
end
theorem Qnk{ops:Array Oper}{s:Nat->St}{val:Nat->D}{lst:Nat->Bool}{c:Nat}:∀{n:Nat},(∀i,i<n->lst (c+i)=false)->∀t,envS ops s val lst c n t=look (s c).env t
 |0,_,t=>rfl
 |n+1,hl,t=>by
  simp only[envS,hl n (by omega),aN,false_and,if_false]
  exact Qnk (λi hi=>hl i (by omega)) t
theorem Qko{s:Nat->St}{lst:Nat->Bool}{c:Nat}:∀{n:Nat},(∀i,i<n->lst (c+i)=false)->∀r,Q6t s lst c n r=(s c).rows.getD r none
 |0,_,r=>rfl
 |n+1,hl,r=>by
  simp only[Q6t,hl n (by omega),aN,false_and,if_false]
  exact Qko (λi hi=>hl i (by omega)) r
theorem Qtt{ops:Array Oper}{s:Nat->St}{val:Nat->D}{lst lst':Nat->Bool}{c:Nat}:∀{n:Nat},(∀i,i<n->lst' (c+i)=lst (c+i))->∀t,envS ops s val lst' c n t=envS ops s val lst c n t
 |0,_,t=>rfl
 |n+1,hl,t=>by simp only[envS,hl n (by omega),Qtt (n:=n) (λi hi=>hl i (by omega)) t]
theorem Qnw{s:Nat->St}{lst lst':Nat->Bool}{c:Nat}:∀{n:Nat},(∀i,i<n->lst' (c+i)=lst (c+i))->∀r,Q6t s lst' c n r=Q6t s lst c n r
 |0,_,r=>rfl
 |n+1,hl,r=>by simp only[Q6t,hl n (by omega),Qnw (n:=n) (λi hi=>hl i (by omega)) r]
theorem Z29{ops:Array Oper}{s:Nat->St}{val:Nat->D}{lst lst':Nat->Bool}{c i:Nat}{o:Oper}(ho:ops[i]? =some o)(hci:c<=i)(h0:lst i=false)(h1:lst' i=true)(h2: ∀k,k≠i->lst' k=lst k){t:Nat}
    (hlate: ∀k o',i<k->lst k=true->ops[k]? =some o'->o'.dst=some t->o.dst=some t->False): ∀{n:Nat},i<c+n->envS ops s val lst' c n t=if o.dst=some t then val i else envS ops s val lst c n t
  |0,h=>by omega
  | n + 1,h=>by
    by_cases e:i=c+n
    . simp only[envS,<-e,h0,h1,ho,aL,true_and,aN,false_and,if_false]
      split
      . rfl
      . exact Qtt (λk hk=>h2 _ (by omega)) t
    . simp only[envS,h2 (c+n) (λe'=>e e'.symm)]
      rw[Z29 ho hci h0 h1 h2 hlate (n:=n) (by omega)]
      by_cases g:lst (c+n)=true/\(ops[c+n]?).bind (·.dst)=some t
      . by_cases hd:o.dst=some t
        . exfalso
          obtain⟨g1,g2⟩:=g
          cases hk:ops[c+n]? with
          |none=>rw[hk]at g2;cases g2
          | some o'=>
            rw[hk]at g2
            exact hlate (c+n) o' (by omega) g1 hk g2 hd
        . rw[if_pos g,if_neg hd,if_pos g]
      . rw[if_neg g,if_neg g]
theorem Quf{s:Nat->St}{lst lst':Nat->Bool}{c i:Nat}(hci:c<=i)(h0:lst i=false)(h1:lst' i=true)(h2:∀k,k≠i->lst' k=lst k){r d:Nat}
 (hlen:∀k,i<k->k<d->(s (i+1)).rows.length<=(s k).rows.length):∀{n:Nat},i<c+n->c+n<=d->Q6t s lst' c n r=if(s i).rows.length<=r/\r<(s (i+1)).rows.length then(s (i+1)).rows.getD r none else Q6t s lst c n r
 |0,h,_=>by omega
 |n +1,h,hn=>by
  by_cases e:i=c+n
  ·simp only[Q6t,<-e,h0,h1,true_and,aN,false_and,if_false]
   split
   ·rfl
   ·exact Qnw (λk hk=>h2 _ (by omega)) r
  ·simp only[Q6t,h2 (c+n) (λe'=>e e'.symm)]
   rw[Quf hci h0 h1 h2 hlen (n:=n) (by omega) (by omega)]
   have:=hlen (c+n) (by omega) (by omega)
   by_cases g:lst (c+n)=true/\(s (c+n)).rows.length<=r/\r<(s (c+n+1)).rows.length
   ·rw[if_pos g,if_neg (by omega),if_pos g]
   ·rw[if_neg g,if_neg g]
theorem Qby{ops:Array Oper}{x y:Oper}(h:x.apart ops y=true){t:Nat}:(x.dst=some t->y.dst≠some t)/\(x.dst=some t->t∉y.looksAt ops)/\(y.dst=some t->t∉x.looksAt ops):=by
 obtain⟨h1,h2,h3⟩:=Oper.apart_spec h
 exact⟨λe=>h2 t e,λe=>h1 t e,λe=>h3 t e⟩
structure Inv(P:Program)(G:List Q09)(N M:Nat)(ops:Array Oper)(s:Nat->St)(val:Nat->D)(c0:Ctx)(w0:World)(lst:Nat->Bool)(a:Act)(w:World)(c d:Nat):Prop where
 cd:c<=d
 dn:d<=ops.size
 pre:∀i,i<c->lst i=true
 post:∀i,d<=i->lst i=false
 quiet:∀(i:Nat) (o:Oper),c<=i->i<d->ops[i]?=some o->Q27 G o.op=true
 wr:∀(o:Oper),ops[d]?=some o->Q27 G o.op=false
 closed:∀j,lst j=true->∀(o:Oper),ops[j]?=some o->∀e∈o.after,Region.binds .any e=true->lst e.on=true
 size:N<=a.tmps.size
 defers:Qa0 w0.heap.size w a.defers
 base0:c0.base<=w0.heap.size
 own0:∀r row,c0.R r=some row->r<M
 ctx:∃cx,Mem cx w/\(∀r,cx.R r=Q6t s lst c (d-c) r)/\(∀t,Rep cx w (envS ops s val lst c (d-c) t) (a.tmps.getD t undef))/\Qpi c0 w0 cx w
theorem Qew(G:List Q09)(ops:Array Oper):∀(n c:Nat),ops.size-c=n->c<=ops.size->∃d,c<=d/\d<=ops.size/\(∀(i:Nat) (o:Oper),c<=i->i<d->ops[i]?=some o->Q27 G o.op=true)/\(∀(o:Oper),ops[d]?=some o->Q27 G o.op=false)
 |0,c,h,hc=>⟨c,aO _,hc,λi o h1 h2=>by omega,λo ho=>by
  have:=(Array.getElem?_eq_some_iff.1 ho).1;omega⟩
 |n +1,c,h,hc=>by
  have ho:ops[c]?=some ops[c]:=aJ (by omega)
  cases hq:Q27 G ops[c].op with
  |false=>exact⟨c,aO _,hc,λi o h1 h2=>by omega,λo h'=>by rw[ho]at h';cases h';exact hq⟩
  |true=>
   obtain⟨d,h1,h2,h3,h4⟩:=Qew G ops n (c+1) (by omega) (by omega)
   refine⟨d,by omega,h2,λi o hi hid h'=>?_,h4⟩
   by_cases e:i=c
   ·subst e;rw[ho]at h';cases h';exact hq
   ·exact h3 i o (by omega) hid h'
section
variable {P:Program} {G:List Q09} {N M:Nat} {ops:Array Oper} {s:Nat->St} {ks:Nat->List Nat} {val:Nat->D} (hc:Chain P G N M ops s ks val) (hdr:Qtz G ops=true)
include hc hdr
theorem zx{c0:Ctx}{w0:World}{lst lst':Nat->Bool}{a:Act}{w:World}{c d i:Nat}{o:Oper}(hI:Inv P G N M ops s val c0 w0 lst a w c d)(ho:ops[i]?=some o)(h0:lst i=false)(h1:lst' i=true)(h2:∀k,k≠i->lst' k=lst k)
 (hrd:∀e∈o.after,Region.binds .any e=true->lst e.on=true) {K:Act->World->Prop} {Q:Exit->Act->World->Prop} (hK:∀a' w' c' d',Inv P G N M ops s val c0 w0 lst' a' w' c' d'->K a' w'):wpOp P ops Q i K a w:=by
 have hlt:=(Array.getElem?_eq_some_iff.1 ho).1
 have hbef:∀k,((Region.before ops).getD i 0).testBit k=true->lst k=true:=λk hk=>
  Qd8 (listed:=λk=>lst k=true) hI.closed (λo' ho'=>by rw[ho]at ho';cases ho';exact hrd) hk
 have hbef':∀j k,lst j=true->((Region.before ops).getD j 0).testBit k=true->lst k=true:=λj k hj hk=>
  Qd8 (listed:=λk=>lst k=true) hI.closed (hI.closed j hj) hk
 have hci:c<=i:=by
  by_cases h:c<=i
  ·exact h
  ·rw[hI.pre i (by omega)]at h0;cases h0
 have hcl':∀j,lst' j=true->∀(o:Oper),ops[j]?=some o->∀e∈o.after,Region.binds .any e=true->lst' e.on=true:=by
  intro j hj o' ho' e he hb
  have hne:lst e.on=true:=by
   by_cases e':j=i
   ·subst e';rw[ho]at ho';cases ho';exact hrd e he hb
   ·rw[h2 j e']at hj;exact hI.closed j hj o' ho' e he hb
  rw[h2 e.on (λe'=>by rw[e',h0]at hne;cases hne)]
  exact hne
 have hid:i<=d:=by
  by_cases h:i<=d
  ·exact h
  ·exfalso
   have hod:ops[d]?=some ops[d]:=aJ (by omega)
   have:=(Qeb hdr (show d<i by omega) hod ho).2
   rcases this with⟨hq,_⟩|hb
   ·rw[hI.wr _ hod]at hq;cases hq
   ·have:=hbef d hb
    rw[hI.post d (aO _)]at this;cases this
 obtain⟨cx,hm,hR,hE,hre⟩:=hI.ctx
 by_cases e:i=d
 ·
  subst e
  have hall:∀k,k<i-c->lst (c+k)=true:=λk hk=>by
   have hok:ops[c+k]?=some ops[c+k]:=aJ (by omega)
   have:=(Qeb hdr (show c+k<i by omega) hok ho).2
   rcases this with⟨_,hq⟩|hb
   ·rw[hI.wr _ ho]at hq;cases hq
   ·exact hbef _ hb
  have hs:SimS N M c0 w0 cx w (s i) a:=by
   refine⟨hm,λr=>?_,λt=>?_,hI.size,hI.defers,hI.base0,hI.own0,hre⟩
   ·rw[hR,Qoj hc hI.quiet hI.dn (by omega) hall]
    rw[show c+(i-c)=i by omega]
   ·have:=hE t
    rw[Qts hc hI.quiet hI.dn (by omega) hall]at this
    rwa [show c+(i-c)=i by omega]at this
  refine zI ho hs (λ_=>rfl) (λt=>hc.dst i o t ho) (hc.op i o ho) λa' w' c' hs'=>?_
  obtain⟨d',g1,g2,g3,g4⟩:=Qew G ops _ (i+1) rfl (by omega)
  have hlate:∀k,k<d'-(i+1)->lst' (i+1+k)=false:=λk hk=>by
   rw[h2 _ (by omega)];exact hI.post _ (by omega)
  refine hK a' w' (i+1) d' ⟨g1,g2,λk hk=>?_,λk hk=>?_,g3,g4,hcl',hs'.size,hs'.defers,hs'.base0,hs'.own0,c',hs'.mem,λr=>?_,λt=>?_,hs'.reach⟩
  ·by_cases e':k=i
   ·rw[e'];exact h1
   ·rw[h2 k e']
    by_cases hkc:k<c
    ·exact hI.pre k hkc
    ·have:=hall (k-c) (by omega)
     rwa [show c+(k-c)=k by omega]at this
  ·rw[h2 k (by omega)];exact hI.post k (by omega)
  ·rw[Qko hlate];exact hs'.rows r
  ·rw[Qnk hlate,hc.env i o t ho]
   have:=hs'.env t
   cases hd:o.dst with
   |none=>simpa[Qca,hd]using this
   |some u=>simpa only[Qca,hd,Q9e,Option.some.injEq]using this
 ·
  have hid':i<d:=by omega
  have hq:=hI.quiet i o hci hid' ho
  have hns:=Qhi hq
  have envA :∀t∈o.looksAt ops,∀n,c+n<=d->envS ops s val lst c n t=if c+n<=i then look (s (c+n)).env t else look (s i).env t:=by
   intro t ht n
   induction n with
   |zero=>intro _;simp only[envS,Nat.add_zero];rw[if_pos hci]
   |succ n ih=>
    intro hn
    have hdn:=hI.dn
    obtain⟨ok,hok⟩:∃ok,ops[c+n]?=some ok:=⟨_,aJ (show c+n<ops.size by omega)⟩
    have ih:=ih (by omega)
    simp only[envS,hok,aL]
    by_cases hk:c+n<i
    ·have hA:c+(n+1)<=i:=by omega
     have hA':c+n<=i:=by omega
     rw[if_pos hA,show c+(n+1)=c+n+1 by omega,hc.envQ hok (hI.quiet _ _ (by omega) (by omega) hok) t]
     rw[if_pos hA']at ih
     by_cases hd:ok.dst=some t
     ·have hl:lst (c+n)=true:=by
       rcases(Qeb hdr hk hok ho).1 with hap|hb
       ·exact((Qby hap).2.1 hd ht).elim
       ·exact hbef _ hb
      rw[if_pos ⟨hl,hd⟩,if_pos hd]
     ·rw[if_neg (λg=>hd g.2),if_neg hd,ih]
    ·have hnot:¬(lst (c+n)=true/\ok.dst=some t):=by
      rintro⟨g1,g2⟩
      by_cases e':c+n=i
      ·rw[e',h0]at g1;cases g1
      ·have hik:i<c+n:=by omega
       rcases(Qeb hdr hik ho hok).1 with hap|hb
       ·exact(Qby hap).2.2 g2 ht
       ·have:=hbef' _ _ g1 hb
        rw[h0]at this;cases this
     have hA:¬c+(n+1)<=i:=by omega
     rw[if_neg hnot,ih,if_neg hA]
     split
     ·rw[show c+n=i by omega]
     ·rfl
  have hEv:∀t∈o.looksAt ops,Rep cx w (look (s i).env t) (a.tmps.getD t undef):=λt ht=>by
   have:=hE t
   rw[envA t ht (d-c) (by omega),if_neg (by omega)]at this
   exact this
  have hlen:∀k l,c<=k->k<=l->l<=d->(s k).rows.length<=(s l).rows.length:=λk l h1 h2 h3=>Qkc hc hI.quiet hI.dn h1 h2 h3
  have hget:∀k l,c<=k->k<=l->l<=d->∀r,r<(s k).rows.length->(s l).rows.getD r none=(s k).rows.getD r none:=λk l h1 h2 h3 r hr=>Qkm hc hI.quiet hI.dn h1 h2 h3 hr
  have rowsA:∀n,c+n<=d->∀r,r<(s i).rows.length->∀row,Q6t s lst c n r=some row->(s i).rows.getD r none=some row:=by
   intro n
   induction n with
   |zero=>
    intro _ r hr row h
    simp only[Q6t]at h
    by_cases hrc:r<(s c).rows.length
    ·rw[hget c i (aO _) hci (by omega) r hrc];exact h
    ·simp only[aK,aM (show(s c).rows.length<=r by omega)]at h;cases h
   |succ n ih=>
    intro hn r hr row h
    simp only[Q6t]at h
    split at h
    ·rename_i g
     obtain⟨g1,g2,g3⟩:=g
     have hki:c+n<i:=by
      by_cases hlt':c+n<i
      ·exact hlt'
      ·by_cases e':c+n=i
       ·rw[e',h0]at g1;cases g1
       ·have:=hlen i (c+n) hci (by omega) (by omega);omega
     rw[hget (c+n+1) i (by omega) (by omega) (by omega) r g3];exact h
    ·exact ih (by omega) r hr row h
  have rowsN:∀n,c+n<=d->∀r,(s i).rows.length<=r->r<(s (i+1)).rows.length->Q6t s lst c n r=none:=by
   intro n
   induction n with
   |zero=>
    intro _ r h1 h2
    have:=hlen c i (aO _) hci (by omega)
    simp only[Q6t,aK,aM (show(s c).rows.length<=r by omega),Option.getD_none]
   |succ n ih=>
    intro hn r h1 h2
    simp only[Q6t]
    rw[if_neg]
    ·exact ih (by omega) r h1 h2
    ·rintro⟨g1,g2,g3⟩
     by_cases e':c+n=i
     ·rw[e',h0]at g1;cases g1
     ·by_cases hlt':c+n<i
      ·have:=hlen (c+n+1) i (by omega) (by omega) (by omega);omega
      ·have:=hlen (i+1) (c+n) (by omega) (by omega) (by omega);omega
  have hbase:cx.base<=w.heap.size:=by rw[hre.grows.base];exact Nat.le_trans hI.base0 hre.fr.size
  have hAg:Q4w cx (s i).rows:=λr row row' g1 g2=>by
   have hr:r<(s i).rows.length:=by
    by_cases h:r<(s i).rows.length
    ·exact h
    ·simp only[aK,aM (show(s i).rows.length<=r by omega)]at g2;cases g2
   rw[hR]at g1
   have:=rowsA (d-c) (by omega) r hr row g1
   rw[this]at g2;exact Option.some.inj g2
  have fin:∀v w' c',Nxt cx w (s i).rows (s (i+1)).rows c' w'->Rep c' w' (val i) v->K (a.put o.dst v) w':=by
   intro v w' c' hn hv
   refine hK _ w' c d ⟨hI.cd,hI.dn,λk hk=>by rw[h2 k (by omega)];exact hI.pre k hk,λk hk=>by rw[h2 k (by omega)];exact hI.post k hk,hI.quiet,hI.wr,hcl',?_,?_,hI.base0,hI.own0,c',hn.mem,λr=>?_,λt=>?_,hre.step (ks:=[]) (λk hk=>by simp[memB]at hk) hI.own0 hn.toW.toK⟩
   ·cases hd:o.dst<;>simp[Act.put]<;>exact hI.size
   ·first|exact Qa0.put (hI.defers.step hm hn.fr)|exact Qa0.put (hI.defers.step hm hn.toW.fr)
   ·rw[hn.rows,hR,Quf hci h0 h1 h2 (d:=d) (λk hk1 hk2=>hlen (i+1) k (by omega) (by omega) (by omega)) (by omega) (by omega)]
   ·have hl:∀k o',i<k->lst k=true->ops[k]?=some o'->o'.dst=some t->o.dst=some t->False:=by
     intro k o' hik hk hok hd1 hd2
     rcases(Qeb hdr hik ho hok).1 with hap|hb
     ·exact(Qby hap).1 hd2 hd1
     ·have:=hbef' _ _ hk hb
      rw[h0]at this;cases this
    rw[Z29 ho hci h0 h1 h2 hl (by omega)]
    have hold:=Q8b hn.grows (hE t)
    cases hd:o.dst with
    |none=>simpa[Act.put,hd]using hold
    |some u=>
     have hu:=hc.dst i o u ho hd
     simp only[Act.put,Option.some.injEq]
     by_cases e':u=t
     ·subst e'
      have hlt':u<a.tmps.size:=Nat.lt_of_lt_of_le hu hI.size
      rw[if_pos rfl]
      simpa[aP,hlt']using hv
     ·rw[if_neg e']
      simpa[aQ e']using hold
  have skip:val i=.tup []->(s (i+1)).rows=(s i).rows->K (a.put o.dst undef) w:=λe1 e2=>
   fin undef w cx ⟨hm,Q2n.refl _ _,Fr.refl _ _,λb hb=>.inl hb,λr=>by rw[e2,if_neg (by omega)],λ_ _=>⟨rfl,Iff.rfl⟩,λr g1 g2=>by rw[e2]at g2;omega⟩ (by rw[e1];exact Qnf _ _)
  have run:OpX P G M o (evOp (s i).env) (s i).rows (ks i) (val i) (s (i+1)).rows->o.wpR P a w K Q:=λhX=>by
   unfold OpX at hX
   rw[hns]at hX
   refine hX.2.2 cx w a hm hbase hAg (λr g1 g2=>by rw[hR];exact rowsN (d-c) (by omega) r g1 g2) (λx hx=>?_) K Q fin
   cases x with
   |tmp t=>
    refine hEv t ?_
    unfold Oper.looksAt
    exact List.mem_append_left _ (List.mem_filterMap.2 ⟨.tmp t,by simpa using hx,rfl⟩)
   |const v=>
    simp only[evOp,Act.eval]
    cases hv:Z3o v with
    |none=>trivial
    |some d=>exact Qjr hv cx w
   |global g=>trivial
   |func f=>exact Qgg f
  have hG:=hc.op i o ho
  unfold wpOp
  simp only[ho]
  unfold GOp at hG
  cases hg:o.guard with
  |none=>
   simp only[hg]at hG
   have hw:Region.wanted o (yielded ops a.tmps)=true:=by simp[Region.wanted,hg]
   rw[if_pos hw]
   exact run hG
  |some jw=>
   obtain⟨j,want⟩:=jw
   simp only[hg]at hG
   obtain⟨g,g2,hG⟩:=hG
   have hr:=hEv g (by
    unfold Oper.looksAt
    refine List.mem_append_right _ ?_
    simp only[hg,g2];simp)
   rcases hG with⟨b,g3,g4⟩|⟨g3,_,e1,e2⟩
   rotate_left
   ·rw[g3]at hr
    rw[if_neg (by rw[Qhu (o:=o) hg g2 hr];simp)]
    exact skip e1 e2
   rw[g3]at hr
   have hw:=Qni (o:=o) hg g2 hr
   by_cases e':b=want
   ·rw[if_pos e']at g4
    rw[if_pos (by rw[hw];simpa using e')]
    exact run g4
   ·rw[if_neg e']at g4
    rw[if_neg (by rw[hw];simpa using e')]
    exact skip g4.2.1 g4.2.2
end
def cntF(lst:Nat->Bool):Nat->Nat
 |0=>0
 |n+1=>(if lst n=true then 0 else 1)+cntF lst n
theorem Z8g(lst:Nat->Bool):∀n,cntF lst n<=n
 |0=>aO _
 |n+1=>by have:=Z8g lst n;simp only[cntF];split<;>omega
theorem Qui{lst:Nat->Bool}:∀{n:Nat},cntF lst n=0->∀i,i<n->lst i=true
 |n +1,h,i,hi=>by
  simp only[cntF]at h
  by_cases e:i=n
  ·subst e
   cases hl:lst i with
   |true=>rfl
   |false=>rw[hl]at h;simp at h
  ·exact Qui (n:=n) (by omega) i (by omega)
theorem Z99{lst lst':Nat->Bool}:∀{n:Nat},(∀i,i<n->lst' i=lst i)->cntF lst' n=cntF lst n
 |0,_=>rfl
 |n+1,h=>by simp only[cntF,h n (by omega),Z99 (n:=n) (λi hi=>h i (by omega))]
theorem Z2t{lst lst':Nat->Bool}{i:Nat}(h0:lst i=false)(h1:lst' i=true)(h2:∀k,k≠i->lst' k=lst k):∀{n:Nat},i<n->cntF lst' n+1=cntF lst n
 |n +1,h=>by
  simp only[cntF]
  by_cases e:i=n
  ·subst e
   rw[Z99 (lst:=lst) (lst':=lst') (λk hk=>h2 k (by omega)),h0,h1]
   simp;omega
  ·rw[h2 n (λe'=>e e'.symm)]
   have:=Z2t h0 h1 h2 (n:=n) (by omega)
   omega
set_option linter.unusedSectionVars false
section
variable {P:Program} {G:List Q09} {N M:Nat} {ops:Array Oper} {s:Nat->St} {ks:Nat->List Nat} {val:Nat->D} (hc:Chain P G N M ops s ks val) (hdr:Qtz G ops=true)
include hc hdr
theorem Za9{c0:Ctx}{w0:World}{lst:Nat->Bool}{a:Act}{w:World}{c d:Nat}(hI:Inv P G N M ops s val c0 w0 lst a w c d)(hall:∀i,i<ops.size->lst i=true):∃cx,SimS N M c0 w0 cx w (s ops.size) a:=by
 obtain⟨cx,hm,hR,hE,hre⟩:=hI.ctx
 have hd:d=ops.size:=by
  by_cases h:d<ops.size
  ·have:=hall d h
   rw[hI.post d (aO _)]at this;cases this
  ·have:=hI.dn;omega
 subst hd
 have hcd:=hI.cd
 have hl:∀k,k<ops.size-c->lst (c+k)=true:=λk hk=>hall _ (by omega)
 refine⟨cx,hm,λr=>?_,λt=>?_,hI.size,hI.defers,hI.base0,hI.own0,hre⟩
 ·rw[hR,Qoj hc hI.quiet hI.dn (by omega) hl,show c+(ops.size-c)=ops.size by omega]
 ·have:=hE t
  rw[Qts hc hI.quiet hI.dn (by omega) hl]at this
  rwa [show c+(ops.size-c)=ops.size by omega]at this
theorem yx{c0:Ctx}{w0:World}{Q:Exit->Act->World->Prop}(hQ:∀c w a,SimS N M c0 w0 c w (s ops.size) a->Q .normal a w):∀(fuel:Nat) (listed:Array Bool) (a:Act) (w:World) (c d:Nat),listed.size=ops.size->cntF (λi=>listed.getD i false) ops.size<=fuel->
 Inv P G N M ops s val c0 w0 (λi=>listed.getD i false) a w c d->Z7g P .any ops Q fuel listed a w:=by
 intro fuel
 have Q4i:∀(listed:Array Bool) (i:Nat),listed.size=ops.size->(i∈Region.ready .any ops listed↔ ∃o,ops[i]?=some o/\listed.getD i false=false/\∀e∈o.after,Region.binds .any e=true->listed.getD e.on false=true):=by
  intro listed i hsz
  unfold Region.ready
  rw[List.mem_filter,List.mem_range]
  constructor
  ·rintro⟨h1,h2⟩
   have ho:ops[i]?=some ops[i]:=aJ h1
   simp only[ho,aR,aG,aE,aS]at h2
   refine⟨_,ho,?_,λe he hb=>?_⟩
   ·have hl:i<listed.size:=by omega
    have:=h2.1
    simpa[aP,hl]using this
   ·have:=Array.all_eq_true'.1 h2.2 e he
    simpa[hb]using this
  ·rintro⟨o,ho,h1,h2⟩
   have hlt:=(Array.getElem?_eq_some_iff.1 ho).1
   refine⟨hlt,?_⟩
   simp only[ho,aR,aG,aE,aS]
   have hl:i<listed.size:=by omega
   refine⟨by simpa[aP,hl]using h1,Array.all_eq_true'.2 λe he=>?_⟩
   cases hb:Region.binds .any e with
   |false=>rfl
   |true=>simpa[hb]using h2 e he hb
 have all_of_empty:∀(listed:Array Bool),listed.size=ops.size->Region.ready .any ops listed=[]->∀i,i<ops.size->listed.getD i false=true:=by
  intro listed hsz he i
  induction i using Nat.strongRecOn with
  |_ i ih=>
   intro hi
   cases hl:listed.getD i false with
   |true=>rfl
   |false=>
    exfalso
    have ho:ops[i]?=some ops[i]:=aJ hi
    have:i∈Region.ready .any ops listed:=(Q4i listed i hsz).2 ⟨_,ho,hl,λe he' hb=>by
     have:=Z7a hdr ho e he' hb
     exact ih e.on this (by omega)⟩
    rw[he]at this;cases this
 induction fuel with
 |zero=>
  intro listed a w c d hsz hcnt hI
  have hall:=Qui (lst:=λi=>listed.getD i false) (Nat.le_zero.1 hcnt)
  refine⟨?_,?_⟩
  ·rw[List.eq_nil_iff_forall_not_mem]
   intro i hi
   obtain⟨o,ho,h1,_⟩:=(Q4i listed i hsz).1 hi
   have:=hall i (Array.getElem?_eq_some_iff.1 ho).1
   rw[h1]at this;cases this
  ·obtain⟨cx,hs⟩:=Za9 hc hdr hI hall
   exact hQ cx w a hs
 |succ fuel ih=>
  intro listed a w c d hsz hcnt hI
  refine⟨λhe=>?_,λi hi=>?_⟩
  ·obtain⟨cx,hs⟩:=Za9 hc hdr hI (all_of_empty listed hsz he)
   exact hQ cx w a hs
  ·obtain⟨o,ho,h1,h2⟩:=(Q4i listed i hsz).1 hi
   have hlt:=(Array.getElem?_eq_some_iff.1 ho).1
   have hset1:(listed.setIfInBounds i true).getD i false=true:=by
    have hl:i<listed.size:=by omega
    simp[aP,hl]
   have hset2:∀k,k≠i->(listed.setIfInBounds i true).getD k false=listed.getD k false:=λk hk=>by
    rw[aF,aQ (Ne.symm hk),<-aF]
   refine zx hc hdr (lst':=λk=>(listed.setIfInBounds i true).getD k false) hI ho h1 hset1 hset2 h2 λa' w' c' d' hI'=>?_
   refine ih _ a' w' c' d' (by simpa using hsz) ?_ hI'
   have:=Z2t (lst:=λk=>listed.getD k false) (lst':=λk=>(listed.setIfInBounds i true).getD k false) h1 hset1 hset2 hlt
   omega
end
theorem SimS.drew{N M:Nat}{c0:Ctx}{w0:World}{c:Ctx}{w:World}{st:St}{a:Act}(h:SimS N M c0 w0 c w st a):SimS N M c0 w0 c w.drew st a:=
 ⟨Q9h h.mem,h.rows,λt=>Q8b (Q6n c w) (h.env t),h.size,h.defers,h.base0,h.own0,h.reach.step (ks:=[]) (λk hk=>by simp[memB]at hk) h.own0
  (NxtW.toK ⟨Q9h h.mem,Q6n c w,⟨rfl,rfl,rfl,aO _,λ_ _ _=>rfl⟩,λb hb=>.inl hb,λr row hr v=>.inl ⟨⟨row,hr⟩,v,rfl⟩⟩)⟩
theorem xa{P:Program}(hm:P.follows .mixedOrders=true):∀(ro:Option Nat) (T:Tab) (G:List Q09) (N M id:Nat) (ops:Array Oper) (st:St) (Q:Ex->St->Prop),Q34 P T->Q57 P G->Qtz G ops=true->(Qa1 T G N M ops ops.toList st λst=>Q .normal st)->TrR ro P N M (.region id ops true) st Q:=by
 intro ro T G N M id ops st Q hT hG hd h c0 w0 c w a hs
 obtain⟨s,ks,val,h1,h2,h3,h4,h5⟩:=Z8w hT hG ops.toList 0 st (by simp) h
 have hc:Chain P G N M ops s ks val:=⟨λi o ho=>h3 i o (aT _) ho,λi o t ho=>h4 i o t (aT _) ho,λi o t ho=>h5 i o t (aT _) ho⟩
 have hs:=hs.drew
 refine Qno hm ?_
 obtain⟨d,g1,g2,g3,g4⟩:=Qew G ops _ 0 rfl (aT _)
 have hz:∀i,(Array.replicate ops.size false).getD i false=false:=λi=>by
  by_cases h:i<ops.size
  ·simp[aP,h]
  ·simp[aP,h]
 refine yx hc hd (Q:=λe a' w'=>∃ex st' c',exOf e=some ex/\Q ex st'/\SimS N M c0 w0 c' w' st' a') (λc w a hs'=>⟨_,_,c,rfl,by simpa using h2,hs'⟩) ops.size _ a _ 0 d (by simp) (Z8g _ _)
  ⟨g1,g2,λi hi=>by omega,λi _=>hz i,g3,g4,λj hj=>by simp[hz]at hj,hs.size,hs.defers,hs.base0,hs.own0,c,hs.mem,λr=>?_,λt=>?_,hs.reach⟩
 ·rw[Qko (λi _=>hz _),h1];exact hs.rows r
 ·rw[Qnk (λi _=>hz _),h1];exact hs.env t
